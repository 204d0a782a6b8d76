/-
  WordStepRelations: for every family and two words, the step relation relates the words exactly if the relation of one of the rules does. The tied card.
-/
import Derived.Deep.Slices
import Derived.Deep.Fields
import Derived.Test.YtfcfpoemojjglaaGreatDoorTie
import Derived.Test.YtfcfpoemojjglaaGreatDoorCards
import Derived.Test.YtfcfpoemojjglaaGreatDoorPA
import Derived.Test.YtfcfpoemojjglaaGreatDoorFF
import Derived.Test.YtfcfpoemojjglaaGreatDoorFG
import Derived.Test.YtfcfpoemojjglaaGreatDoorSM
import Derived.Test.YtfcfpoemojjglaaGreatDoorFH
set_option maxHeartbeats 16000000
set_option maxRecDepth 100000
set_option linter.unusedVariables false
set_option linter.unusedSimpArgs false
namespace Go.Proofs.YtfcfpoemojjglaaGreatDoor.K
open Go.RowKit Go.ChangeShapes Go.WideShapes Go.Deep Go.ChangeAt Go.WideMaps Go.WideElems
set_option maxRecDepth 100000
section
variable {H:Type} {enc:TypeId×Value→H} {w:World} {base:Nat} {spare:Nat→Bool} {held:Bool}
theorem YI {r:Go.Reach} {I:Nat} {v:Value} {d:DataW H} {p:List MemPlace} (hv:Value.okWide Tryz.prog w r I 51 v) (h:DataW.Trod enc Tryz.prog w base spare held 51 v d p):
  ∃A c,∃l:List Int,∃z c',∃l':List Int,v=.agg #[.slice A l.length c,.slice z l'.length c']∧Sl w w.heap.size 1 Ai A l∧Sl w w.heap.size 1 Ai z l':=by
 obtain⟨cs,rfl,a2⟩:=okWide_struct Tryz.underlying51 hv
 obtain⟨l⟩:=cs
 have W:Tryz.prog.cellsOf 51=2:=by kernel_rfl
 match l,a2.trans W with
 | [c0,c1],_=>
  obtain⟨fuel,Z⟩:=h
  obtain⟨xs,n,_,_,_,a4,C⟩:=DataW.trod_struct Tryz.underlying51 Z
  have hl:xs.length=2:=a4
  have E:∀k,k<2→∃y,xs[k]?=some y:=fun k hk=>An (by omega)
  have V:Tryz.prog.cellsOf 24=1:=by kernel_rfl
  have g2:DataW.trod enc Tryz.prog w base spare held n 24 (([c0,c1].drop 0).take (Tryz.prog.cellsOf 24))=xs[0]?:=C 0 _ rfl
  have g3:DataW.trod enc Tryz.prog w base spare held n 24 (([c0,c1].drop 1).take (Tryz.prog.cellsOf 24))=xs[1]?:=C 1 _ rfl
  rw [V] at g2 g3
  obtain⟨y2,O⟩:=E 0 (by omega)
  obtain⟨y3,U⟩:=E 1 (by omega)
  rw [O] at g2
  rw [U] at g3
  obtain⟨F,J,a7,rfl,s2⟩:=JJ (v:=c0) g2
  obtain⟨G,M,a8,rfl,s3⟩:=JJ (v:=c1) g3
  exact⟨F,J,a7,G,M,a8,rfl,s2,s3⟩
end
end Go.Proofs.YtfcfpoemojjglaaGreatDoor.K
namespace Go.Proofs.YtfcfpoemojjglaaGreatDoor.K
open Go.ChangeShapes Go.WideShapes Go.ChangeAt Go.WideMaps Go.WideElems Go.RowKit
theorem YP (os:Os) (a8:os.Started) (H:Type) (enc:TypeId×Value→H):
  ReturnsInHanded {} Tryz.checked os 8 .any (fun w args=>(Rows.wordStepRelationsSpec.pre enc Tryz.prog Tryz.f8 Rows.wordStepRelationsRow.domain false w args∧laidMetH Tryz.prog Rows.wordStepRelationsRow.laid w)∧sizedMet enc Tryz.prog Tryz.f8 (OpenSpec.ofChange Rows.wordStepRelationsSpec) false w args)
   (Rows.wordStepRelationsSpec.post enc Tryz.prog Tryz.f8 false true false false):=by
 refine returnsInHanded_of_change_and (C:=Tryz.checked) (X:=fun w _=>laidMetH Tryz.prog Rows.wordStepRelationsRow.laid w) (fun _ _ _ hh h=>h.of_heap hh) JP a8 (by kernel_rfl) Tryz.func8
  (ChangeSpec.witness_shaped (enc:=enc) (C:=Tryz.checked) (os:=os) (X:=fun w _=>laidMetH Tryz.prog Rows.wordStepRelationsRow.laid w) false (World.doorLaid Tryz.prog 400 os) #[.agg #[.string ⟨#[]⟩,.int .i64 0,.slice none 0 0,.slice none 0 0,.slice none 0 0,.int .i64 0,.slice none 0 0,.slice none 0 0,.slice none 0 0,.slice none 0 0],.agg #[.slice none 0 0,.slice none 0 0]] 8 rfl (World.shaped_of_RefB (by kernel_rfl) (by kernel_rfl)) (by kernel_rfl) (by kernel_rfl) (by kernel_rfl) (Jp os _)) ?_
 intro W base args ds gs ad a7 J _ _ I _
 have F:∀(j:Nat) t v,Tryz.f8.params[j]?=some t→args[j]?=some v→Value.okWide Tryz.prog W .any base t v:=a7
 have z:=J
 obtain⟨p,q,Z,hV,rfl,ai,aj⟩:=J
 have G:DataW.TrodAll enc Tryz.prog W 0 (fun _=>true) true Tryz.f8.params.toList args.toList ds p:=Z
 rw [Tryz.params8] at G F
 obtain⟨v0,v1,d0,d1,p0,p1,rfl,rfl,rfl,h0,h1⟩:=trodAll_two G
 obtain⟨rfl,rfl⟩:=trodVars_none hV
 obtain⟨cs,pd,rfl,hp,a5⟩:=Ku (F 0 27 v0 rfl rfl) h0
 obtain⟨A1,c1,l1,aa,af,al,rfl,U,V⟩:=YI (F 1 51 v1 rfl rfl) h1
 simp only [List.append_nil] at z
 have M:=z.lt
 refine Calls.ret (X7 hp a5 U V (G5 I).1 (G5 I).2) ?_
 rintro v W' ⟨hv,E⟩
 subst hv
 exact⟨_,rfl,JS rfl z (fun _ _ _=>trodAll_mk1 (shut_bool Tryz.underlying4 _)) (fun sp O=>by
  rw [Tryz.params8]
  exact trodAll_mk2 (WideElems.Trod_stays FW (by kernel_rfl) (of_decide_eq_true (by kernel_rfl)) h0 (fun x y=>E.same (M x (List.mem_append_left _ y))) (fun x y=>O x (List.mem_append_left _ y))) (WideElems.Trod_stays FW (by kernel_rfl) (of_decide_eq_true (by kernel_rfl)) h1 (fun x y=>E.same (M x (List.mem_append_right _ y))) (fun x y=>O x (List.mem_append_right _ y)))) rfl E (ok_one (by kernel_rfl) rfl (okWide_bool_mk Tryz.underlying4 _))⟩
theorem YN:joinedFacts Tryz.checked.prog 8 Tryz.f8 Rows.wordStepRelationsSpec Rows.wordStepRelationsRow=true:=
 JK (by kernel_rfl) K1 K2 (by kernel_rfl) (by kernel_rfl) (by kernel_rfl) K5 (by kernel_rfl) K6 (by kernel_rfl) (by kernel_rfl) (by kernel_rfl) (by kernel_rfl) (by kernel_rfl) (by kernel_rfl) (by kernel_rfl) (by kernel_rfl) (by kernel_rfl) (by kernel_rfl) (by kernel_rfl) (by kernel_rfl) (by kernel_rfl) K7 (by kernel_rfl) K8 K9 Lc Ld (by kernel_rfl) (by kernel_rfl) (by kernel_rfl) (by kernel_rfl)
theorem wordStepRelations_row:Rows.WordStepRelationsSaid:=
 OpenClaim.holds_of_wide 8 Tryz.f8 rfl rfl rfl rfl rfl rfl rfl ⟨rfl,rfl,rfl,rfl,rfl⟩ rfl rfl rfl rfl rfl (by kernel_rfl) Tryz.func8 YN
  (of_decide_eq_true (by kernel_rfl)) (by unfold Func.isWrapper; first | (rw [if_pos (by decide+kernel)]; kernel_rfl) | (rw [if_neg (by decide+kernel)]; exact⟨rfl,rfl⟩))
  (fun os h H enc _=>YP os h H enc)
end Go.Proofs.YtfcfpoemojjglaaGreatDoor.K
namespace Go.Proofs.YtfcfpoemojjglaaGreatDoor
open Go
theorem YO:false=Rows.wordStepRelationsRow.goesBy Tryz.checked.prog:=by kernel_rfl
theorem wordStepRelations_card:Rows.WordStepRelationsCardSaid:=
 Claim7.holds_tied_plain_at .later [] [.data,.data,.data,.listed,.data] true (true,"9ac3a2f38e2114aff4fff80aa0b147a785d2dc1b0e5b699508a615585c3fa333") true
  K.wordStepRelations_row (fun _ h=>by cases h) (by kernel_rfl) (fun _ h=>by cases h) wordStepRelations_row_tie rfl ⟨rfl,rfl⟩ Lf rfl
  (fun f fn z C=>by
   obtain rfl:f=8:=Option.some.inj ((show Tryz.prog.funcNamed "familycheck/familychecklaw06.WordStepRelations" =some 8 by kernel_rfl).symm.trans z) |>.symm
   obtain rfl:fn=Tryz.f8:=(Option.some.inj (Tryz.func8.symm.trans C)).symm
   exact⟨Le,fun j t ht=>by
    rw [Tryz.params8] at ht
    have E:t∈[27,51]:=by simpa using Array.mem_of_getElem? ht
    have y:([27,51].all fun u=>!Tryz.prog.wantsStandIn u)=true:=by kernel_rfl
    exact(show Tryz.prog.wantsStandIn t=false by simpa using List.all_eq_true.1 y t E)⟩)
  YO
#print axioms wordStepRelations_card
end Go.Proofs.YtfcfpoemojjglaaGreatDoor
