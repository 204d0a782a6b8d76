/-
  WordInitials: for every family and property, the program's automaton of the initial words and the document's are the same, with the same errors. The tied card.
-/
import Derived.Test.YtfcfpoemojjglaaGreatDoorTie
import Derived.Test.YtfcfpoemojjglaaGreatDoorCards
import Derived.Test.YtfcfpoemojjglaaGreatDoorPA
import Derived.Test.YtfcfpoemojjglaaGreatDoorFF
import Derived.Test.YtfcfpoemojjglaaGreatDoorFG
import Derived.Test.YtfcfpoemojjglaaGreatDoorFE
import Derived.Test.YtfcfpoemojjglaaGreatDoorFH
set_option maxHeartbeats 16000000
set_option maxRecDepth 100000
set_option linter.unusedVariables false
set_option linter.unusedSimpArgs false
namespace Go.Proofs.YtfcfpoemojjglaaGreatDoor.K
open Go.ChangeShapes Go.WideShapes Go.ChangeAt Go.WideMaps Go.WideElems Go.RowKit
theorem Tq (os:Os) (ab:os.Started) (H:Type) (enc:TypeId×Value→H):
  ReturnsInHanded {} Tryz.checked os 3 .any (fun w args=>(Rows.wordInitialsSpec.pre enc Tryz.prog Tryz.f3 Rows.wordInitialsRow.domain false w args∧laidMetH Tryz.prog Rows.wordInitialsRow.laid w)∧sizedMet enc Tryz.prog Tryz.f3 (OpenSpec.ofChange Rows.wordInitialsSpec) false w args)
   (Rows.wordInitialsSpec.post enc Tryz.prog Tryz.f3 false true false false):=by
 refine returnsInHanded_of_change_and (C:=Tryz.checked) (X:=fun w _=>laidMetH Tryz.prog Rows.wordInitialsRow.laid w) (fun _ _ _ hh h=>h.of_heap hh) PQ ab (by kernel_rfl) Tryz.func3
  (ChangeSpec.witness_shaped (enc:=enc) (C:=Tryz.checked) (os:=os) (X:=fun w _=>laidMetH Tryz.prog Rows.wordInitialsRow.laid w) false (World.doorLaid Tryz.prog 400 os) #[.agg #[.string ⟨#[]⟩,.int .i64 0,.slice none 0 0,.slice none 0 0,.slice none 0 0,.int .i64 0,.slice none 0 0,.slice none 0 0,.slice none 0 0,.slice none 0 0],.agg #[.string ⟨#[]⟩,.int .i64 0,.slice none 0 0,.slice none 0 0,.slice none 0 0,.slice none 0 0]] 8 rfl (World.shaped_of_RefB (by kernel_rfl) (by kernel_rfl)) (by kernel_rfl) (by kernel_rfl) (by kernel_rfl) (MO os _)) ?_
 intro W base args ds gs ae aa U _ _ O _
 have G:∀(j:Nat) t v,Tryz.f3.params[j]?=some t→args[j]?=some v→Value.okWide Tryz.prog W .any base t v:=aa
 have z:=U
 obtain⟨p,q,a2,hV,rfl,ah,ai⟩:=U
 have M:DataW.TrodAll enc Tryz.prog W 0 (fun _=>true) true Tryz.f3.params.toList args.toList ds p:=a2
 rw [Tryz.params3] at M G
 obtain⟨v0,v1,d0,d1,p0,p1,rfl,rfl,rfl,I,J⟩:=trodAll_two M
 obtain⟨rfl,rfl⟩:=trodVars_none hV
 obtain⟨cs,pd,rfl,hp,a6⟩:=QG (G 0 27 v0 rfl rfl) I
 obtain⟨es,qd,rfl,hq,a8⟩:=QA (G 1 30 v1 rfl rfl) J
 simp only [List.append_nil] at z
 have V:=z.lt
 refine Calls.ret (PR hp hq a6 a8 (KU O).1 (KU O).2) ?_
 rintro v W' ⟨hv,E⟩
 subst hv
 exact⟨_,rfl,PS rfl z (fun _ _ _=>trodAll_mk1 (shut_bool Tryz.underlying4 _)) (fun sp Z=>by
  rw [Tryz.params3]
  exact trodAll_mk2 (WideElems.Trod_stays JA (by kernel_rfl) (of_decide_eq_true (by kernel_rfl)) I (fun x y=>E.same (V x (List.mem_append_left _ y))) (fun x y=>Z x (List.mem_append_left _ y))) (WideElems.Trod_stays JA (by kernel_rfl) (of_decide_eq_true (by kernel_rfl)) J (fun x y=>E.same (V x (List.mem_append_right _ y))) (fun x y=>Z x (List.mem_append_right _ y)))) rfl E (ok_one (by kernel_rfl) rfl (okWide_bool_mk Tryz.underlying4 _))⟩
theorem To:joinedFacts Tryz.checked.prog 3 Tryz.f3 Rows.wordInitialsSpec Rows.wordInitialsRow=true:=
 PD (by kernel_rfl) RY RZ (by kernel_rfl) (by kernel_rfl) (by kernel_rfl) R0 (by kernel_rfl) R3 (by kernel_rfl) (by kernel_rfl) (by kernel_rfl) (by kernel_rfl) (by kernel_rfl) (by kernel_rfl) (by kernel_rfl) (by kernel_rfl) (by kernel_rfl) (by kernel_rfl) (by kernel_rfl) (by kernel_rfl) (by kernel_rfl) R4 (by kernel_rfl) R5 R6 R7 R8 (by kernel_rfl) (by kernel_rfl) (by kernel_rfl) (by kernel_rfl)
theorem wordInitials_row:Rows.WordInitialsSaid:=
 OpenClaim.holds_of_wide 3 Tryz.f3 rfl rfl rfl rfl rfl rfl rfl ⟨rfl,rfl,rfl,rfl,rfl⟩ rfl rfl rfl rfl rfl (by kernel_rfl) Tryz.func3 To
  (of_decide_eq_true (by kernel_rfl)) (by unfold Func.isWrapper; first | (rw [if_pos (by decide+kernel)]; kernel_rfl) | (rw [if_neg (by decide+kernel)]; exact⟨rfl,rfl⟩))
  (fun os h H enc _=>Tq os h H enc)
end Go.Proofs.YtfcfpoemojjglaaGreatDoor.K
namespace Go.Proofs.YtfcfpoemojjglaaGreatDoor
open Go
theorem Tp:false=Rows.wordInitialsRow.goesBy Tryz.checked.prog:=by kernel_rfl
theorem wordInitials_card:Rows.WordInitialsCardSaid:=
 Claim7.holds_tied_plain_at .later [] [.data,.data,.data,.listed,.data] true (true,"9ac3a2f38e2114aff4fff80aa0b147a785d2dc1b0e5b699508a615585c3fa333") true
  K.wordInitials_row (fun _ h=>by cases h) (by kernel_rfl) (fun _ h=>by cases h) wordInitials_row_tie rfl ⟨rfl,rfl⟩ Sc rfl
  (fun f fn z C=>by
   obtain rfl:f=3:=Option.some.inj ((show Tryz.prog.funcNamed "familycheck/familychecklaw06.WordInitials" =some 3 by kernel_rfl).symm.trans z) |>.symm
   obtain rfl:fn=Tryz.f3:=(Option.some.inj (Tryz.func3.symm.trans C)).symm
   exact⟨R9,fun j t ht=>by
    rw [Tryz.params3] at ht
    have E:t∈[27,30]:=by simpa using Array.mem_of_getElem? ht
    have y:([27,30].all fun u=>!Tryz.prog.wantsStandIn u)=true:=by kernel_rfl
    exact(show Tryz.prog.wantsStandIn t=false by simpa using List.all_eq_true.1 y t E)⟩)
  Tp
#print axioms wordInitials_card
end Go.Proofs.YtfcfpoemojjglaaGreatDoor
