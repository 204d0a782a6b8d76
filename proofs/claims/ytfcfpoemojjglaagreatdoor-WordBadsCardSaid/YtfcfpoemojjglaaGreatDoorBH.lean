/-
  WordBads: for every family and property, the program's automaton of the bad words and the document's are the same, with the same errors. The tied card.
-/
import Derived.Test.YtfcfpoemojjglaaGreatDoorTie
import Derived.Test.YtfcfpoemojjglaaGreatDoorCards
import Derived.Test.YtfcfpoemojjglaaGreatDoorPA
import Derived.Test.YtfcfpoemojjglaaGreatDoorFF
import Derived.Test.YtfcfpoemojjglaaGreatDoorBG
set_option maxHeartbeats 16000000
set_option maxRecDepth 100000
set_option linter.unusedVariables false
set_option linter.unusedSimpArgs false
namespace Go.Proofs.YtfcfpoemojjglaaGreatDoor.K
open Go.ChangeShapes Go.WideShapes Go.ChangeAt Go.WideMaps Go.WideElems Go.RowKit
theorem aCp (os:Os) (aa:os.Started) (H:Type) (enc:TypeId×Value->H):
  ReturnsInHanded {} Tryz.checked os 4 .any (fun w args=>(Rows.wordBadsSpec.pre enc Tryz.prog Tryz.f4 Rows.wordBadsRow.domain false w args/\laidMetH Tryz.prog Rows.wordBadsRow.laid w)/\sizedMet enc Tryz.prog Tryz.f4 (OpenSpec.ofChange Rows.wordBadsSpec) false w args)
   (Rows.wordBadsSpec.post enc Tryz.prog Tryz.f4 false true false false):=by
 refine returnsInHanded_of_change_and (C:=Tryz.checked) (X:=fun w _=>laidMetH Tryz.prog Rows.wordBadsRow.laid w) (fun _ _ _ hh h=>h.of_heap hh) JP aa (by kernel_rfl) Tryz.func4
  (ChangeSpec.witness_shaped (enc:=enc) (C:=Tryz.checked) (os:=os) (X:=fun w _=>laidMetH Tryz.prog Rows.wordBadsRow.laid w) false (World.doorLaid Tryz.prog 400 os) #[.agg #[.string ⟨#[]⟩,.int .i64 0,.slice none 0 0,.slice none 0 0,.slice none 0 0,.int .i64 0,.slice none 0 0,.slice none 0 0,.slice none 0 0,.slice none 0 0],.agg #[.string ⟨#[]⟩,.int .i64 0,.slice none 0 0,.slice none 0 0,.slice none 0 0,.slice none 0 0]] 8 rfl (World.shaped_of_RefB (by kernel_rfl) (by kernel_rfl)) (by kernel_rfl) (by kernel_rfl) (by kernel_rfl) (Jp os _)) ?_
 intro W base args ds gs ad a9 O _ _ M _;have E:∀(j:Nat) t v,Tryz.f4.params[j]?=some t->args[j]?=some v->Value.okWide Tryz.prog W .any base t v:=a9;have l:=O;obtain⟨p,q,Z,hV,rfl,ag,ah⟩:=O;have J:DataW.TrodAll enc Tryz.prog W 0 (fun _=>true) true Tryz.f4.params.toList args.toList ds p:=Z;rw [Tryz.params4] at J E;obtain⟨v0,v1,d0,d1,p0,p1,rfl,rfl,rfl,G,I⟩:=trodAll_two J;obtain⟨rfl,rfl⟩:=trodVars_none hV;obtain⟨cs,pd,rfl,hp,a5⟩:=Ku (E 0 27 v0 rfl rfl) G;obtain⟨es,qd,rfl,hq,a7⟩:=Ks (E 1 30 v1 rfl rfl) I;simp only [List.append_nil] at l;have U:=l.lt;refine Calls.ret (aB7 hp hq a5 a7 (G5 M).1 (G5 M).2) ?_;rintro v W' ⟨hv,y⟩;subst hv;exact⟨_,rfl,JS rfl l (fun _ _ _=>trodAll_mk1 (shut_bool Tryz.underlying4 _)) (fun sp V=>by
  rw [Tryz.params4];exact trodAll_mk2 (WideElems.Trod_stays FW (by kernel_rfl) (of_decide_eq_true (by kernel_rfl)) G (fun x d=>y.same (U x (List.mem_append_left _ d))) (fun x d=>V x (List.mem_append_left _ d))) (WideElems.Trod_stays FW (by kernel_rfl) (of_decide_eq_true (by kernel_rfl)) I (fun x d=>y.same (U x (List.mem_append_right _ d))) (fun x d=>V x (List.mem_append_right _ d)))) rfl y (ok_one (by kernel_rfl) rfl (okWide_bool_mk Tryz.underlying4 _))⟩
theorem aCn:joinedFacts Tryz.checked.prog 4 Tryz.f4 Rows.wordBadsSpec Rows.wordBadsRow=true:=
 JK (by kernel_rfl) K1 K2 (by kernel_rfl) (by kernel_rfl) (by kernel_rfl) K5 (by kernel_rfl) K6 (by kernel_rfl) (by kernel_rfl) (by kernel_rfl) (by kernel_rfl) (by kernel_rfl) (by kernel_rfl) (by kernel_rfl) (by kernel_rfl) (by kernel_rfl) (by kernel_rfl) (by kernel_rfl) (by kernel_rfl) (by kernel_rfl) K7 (by kernel_rfl) K8 K9 Lc Ld (by kernel_rfl) (by kernel_rfl) (by kernel_rfl) (by kernel_rfl)
theorem wordBads_row:Rows.WordBadsSaid:=
 OpenClaim.holds_of_wide 4 Tryz.f4 rfl rfl rfl rfl rfl rfl rfl ⟨rfl,rfl,rfl,rfl,rfl⟩ rfl rfl rfl rfl rfl (by kernel_rfl) Tryz.func4 aCn
  (of_decide_eq_true (by kernel_rfl)) (by unfold Func.isWrapper;first|(rw [if_pos (by decide+kernel)];kernel_rfl)|(rw [if_neg (by decide+kernel)];exact⟨rfl,rfl⟩))
  (fun os d H enc _=>aCp os d H enc)
end Go.Proofs.YtfcfpoemojjglaaGreatDoor.K
namespace Go.Proofs.YtfcfpoemojjglaaGreatDoor
open Go
theorem aCo:false=Rows.wordBadsRow.goesBy Tryz.checked.prog:=by kernel_rfl
theorem wordBads_card:Rows.WordBadsCardSaid:=
 Claim7.holds_tied_plain_at .later [] [.data,.data,.data,.listed,.data] true (true,"9ac3a2f38e2114aff4fff80aa0b147a785d2dc1b0e5b699508a615585c3fa333") true
  K.wordBads_row (fun _ h=>by cases h) (by kernel_rfl) (fun _ h=>by cases h) wordBads_row_tie rfl ⟨rfl,rfl⟩ Lf rfl
  (fun f fn l y=>by
   obtain rfl:f=4:=Option.some.inj ((show Tryz.prog.funcNamed "familycheck/familychecklaw06.WordBads" =some 4 by kernel_rfl).symm.trans l) |>.symm
   obtain rfl:fn=Tryz.f4:=(Option.some.inj (Tryz.func4.symm.trans y)).symm;exact⟨Le,fun j t ht=>by
    rw [Tryz.params4] at ht;have C:t∈[27,30]:=by simpa using Array.mem_of_getElem? ht
    have d:([27,30].all fun u=>!Tryz.prog.wantsStandIn u)=true:=by kernel_rfl
    exact(show Tryz.prog.wantsStandIn t=false by simpa using List.all_eq_true.1 d t C)⟩)
  aCo
#print axioms wordBads_card
end Go.Proofs.YtfcfpoemojjglaaGreatDoor
