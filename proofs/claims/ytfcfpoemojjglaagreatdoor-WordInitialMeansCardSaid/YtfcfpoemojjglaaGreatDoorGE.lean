/-
  WordInitialMeans: for every family, property and word, the word is accepted by the program's automaton of the initial words exactly if it stands for an initial configuration. The tied card.
-/
import Derived.Test.YtfcfpoemojjglaaGreatDoorTie
import Derived.Test.YtfcfpoemojjglaaGreatDoorCards
import Derived.Test.YtfcfpoemojjglaaGreatDoorPA
import Derived.Test.YtfcfpoemojjglaaGreatDoorFF
import Derived.Test.YtfcfpoemojjglaaGreatDoorFG
import Derived.Test.YtfcfpoemojjglaaGreatDoorGC
import Derived.Test.YtfcfpoemojjglaaGreatDoorGD
import Derived.Test.YtfcfpoemojjglaaGreatDoorFH
set_option maxHeartbeats 16000000
set_option maxRecDepth 100000
set_option linter.unusedVariables false
set_option linter.unusedSimpArgs false
namespace Go.Proofs.YtfcfpoemojjglaaGreatDoor.K
open Go.ChangeShapes Go.WideShapes Go.ChangeAt Go.WideMaps Go.WideElems Go.RowKit
theorem Ug (os:Os) (ad:os.Started) (H:Type) (enc:TypeId×Value→H):
  ReturnsInHanded {} Tryz.checked os 5 .any (fun w args=>(Rows.wordInitialMeansSpec.pre enc Tryz.prog Tryz.f5 Rows.wordInitialMeansRow.domain false w args∧laidMetH Tryz.prog Rows.wordInitialMeansRow.laid w)∧sizedMet enc Tryz.prog Tryz.f5 (OpenSpec.ofChange Rows.wordInitialMeansSpec) false w args)
   (Rows.wordInitialMeansSpec.post enc Tryz.prog Tryz.f5 false true false false):=by
 refine returnsInHanded_of_change_and (C:=Tryz.checked) (X:=fun w _=>laidMetH Tryz.prog Rows.wordInitialMeansRow.laid w) (fun _ _ _ hh h=>h.of_heap hh) JP ad (by kernel_rfl) Tryz.func5
  (ChangeSpec.witness_shaped (enc:=enc) (C:=Tryz.checked) (os:=os) (X:=fun w _=>laidMetH Tryz.prog Rows.wordInitialMeansRow.laid w) false (World.doorLaid Tryz.prog 400 os) #[.agg #[.string ⟨#[]⟩,.int .i64 0,.slice none 0 0,.slice none 0 0,.slice none 0 0,.int .i64 0,.slice none 0 0,.slice none 0 0,.slice none 0 0,.slice none 0 0],.agg #[.string ⟨#[]⟩,.int .i64 0,.slice none 0 0,.slice none 0 0,.slice none 0 0,.slice none 0 0],.slice none 0 0] 8 rfl (World.shaped_of_RefB (by kernel_rfl) (by kernel_rfl)) (by kernel_rfl) (by kernel_rfl) (by kernel_rfl) (Jp os _)) ?_
 intro W base args ds gs ag ab hW _ _ Z _
 have E:∀(j:Nat) t v,Tryz.f5.params[j]?=some t→args[j]?=some v→Value.okWide Tryz.prog W .any base t v:=ab
 have G:=hW
 obtain⟨p,q,a3,hV,rfl,ak,al⟩:=hW
 have V:DataW.TrodAll enc Tryz.prog W 0 (fun _=>true) true Tryz.f5.params.toList args.toList ds p:=a3
 rw [Tryz.params5] at V E
 obtain⟨v0,v1,v2,d0,d1,d2,p0,p1,p2,rfl,rfl,rfl,M,O,U⟩:=trodAll_three V
 obtain⟨rfl,rfl⟩:=trodVars_none hV
 obtain⟨cs,pd,rfl,hp,a7⟩:=Ku (E 0 27 v0 rfl rfl) M
 obtain⟨es,qd,rfl,hq,a9⟩:=Ks (E 1 30 v1 rfl rfl) O
 obtain⟨A2,c2,l2,rfl,g2⟩:=Qv (E 2 24 v2 rfl rfl) U
 simp only [List.append_nil] at G
 have I:=G.lt
 refine Calls.ret (QO hp hq a7 a9 g2 (G5 Z).1 (G5 Z).2) ?_
 rintro v W' ⟨hv,z⟩
 subst hv
 exact⟨_,rfl,JS rfl G (fun _ _ _=>trodAll_mk1 (shut_bool Tryz.underlying4 _)) (fun sp J=>by
  rw [Tryz.params5]
  rw [List.append_assoc]
  exact trodAll_mk3 (WideElems.Trod_stays FW (by kernel_rfl) (of_decide_eq_true (by kernel_rfl)) M (fun x y=>z.same (I x (List.mem_append_left _ (List.mem_append_left _ y)))) (fun x y=>J x (List.mem_append_left _ (List.mem_append_left _ y)))) (WideElems.Trod_stays FW (by kernel_rfl) (of_decide_eq_true (by kernel_rfl)) O (fun x y=>z.same (I x (List.mem_append_left _ (List.mem_append_right _ y)))) (fun x y=>J x (List.mem_append_left _ (List.mem_append_right _ y)))) (WideElems.Trod_stays FW (by kernel_rfl) (of_decide_eq_true (by kernel_rfl)) U (fun x y=>z.same (I x (List.mem_append_right _ y))) (fun x y=>J x (List.mem_append_right _ y)))) rfl z (ok_one (by kernel_rfl) rfl (okWide_bool_mk Tryz.underlying4 _))⟩
theorem Ue:joinedFacts Tryz.checked.prog 5 Tryz.f5 Rows.wordInitialMeansSpec Rows.wordInitialMeansRow=true:=
 JK (by kernel_rfl) K1 K2 (by kernel_rfl) (by kernel_rfl) (by kernel_rfl) K5 (by kernel_rfl) K6 (by kernel_rfl) (by kernel_rfl) (by kernel_rfl) (by kernel_rfl) (by kernel_rfl) (by kernel_rfl) (by kernel_rfl) (by kernel_rfl) (by kernel_rfl) (by kernel_rfl) (by kernel_rfl) (by kernel_rfl) (by kernel_rfl) K7 (by kernel_rfl) K8 K9 Lc Ld (by kernel_rfl) (by kernel_rfl) (by kernel_rfl) (by kernel_rfl)
theorem wordInitialMeans_row:Rows.WordInitialMeansSaid:=
 OpenClaim.holds_of_wide 5 Tryz.f5 rfl rfl rfl rfl rfl rfl rfl ⟨rfl,rfl,rfl,rfl,rfl⟩ rfl rfl rfl rfl rfl (by kernel_rfl) Tryz.func5 Ue
  (of_decide_eq_true (by kernel_rfl)) (by unfold Func.isWrapper; first | (rw [if_pos (by decide+kernel)]; kernel_rfl) | (rw [if_neg (by decide+kernel)]; exact⟨rfl,rfl⟩))
  (fun os h H enc _=>Ug os h H enc)
end Go.Proofs.YtfcfpoemojjglaaGreatDoor.K
namespace Go.Proofs.YtfcfpoemojjglaaGreatDoor
open Go
theorem Uf:false=Rows.wordInitialMeansRow.goesBy Tryz.checked.prog:=by kernel_rfl
theorem wordInitialMeans_card:Rows.WordInitialMeansCardSaid:=
 Claim7.holds_tied_plain_at .later [] [.data,.data,.data,.listed,.data] true (true,"9ac3a2f38e2114aff4fff80aa0b147a785d2dc1b0e5b699508a615585c3fa333") true
  K.wordInitialMeans_row (fun _ h=>by cases h) (by kernel_rfl) (fun _ h=>by cases h) wordInitialMeans_row_tie rfl ⟨rfl,rfl⟩ Lf rfl
  (fun f fn z C=>by
   obtain rfl:f=5:=Option.some.inj ((show Tryz.prog.funcNamed "familycheck/familychecklaw06.WordInitialMeans" =some 5 by kernel_rfl).symm.trans z) |>.symm
   obtain rfl:fn=Tryz.f5:=(Option.some.inj (Tryz.func5.symm.trans C)).symm
   exact⟨Le,fun j t ht=>by
    rw [Tryz.params5] at ht
    have E:t∈[27,30,24]:=by simpa using Array.mem_of_getElem? ht
    have y:([27,30,24].all fun u=>!Tryz.prog.wantsStandIn u)=true:=by kernel_rfl
    exact(show Tryz.prog.wantsStandIn t=false by simpa using List.all_eq_true.1 y t E)⟩)
  Uf
#print axioms wordInitialMeans_card
end Go.Proofs.YtfcfpoemojjglaaGreatDoor
