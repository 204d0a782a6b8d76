/-
  WordBadMeans: for every family, property and word, the word is accepted by the program's automaton of the bad words exactly if it stands for a bad configuration. The tied card.
-/
import Derived.Deep.Slices
import Derived.Deep.Fields
import Derived.Test.YtfcfpoemojjglaaGreatDoorTie
import Derived.Test.YtfcfpoemojjglaaGreatDoorCards
import Derived.Test.YtfcfpoemojjglaaGreatDoorPA
import Derived.Test.YtfcfpoemojjglaaGreatDoorFF
import Derived.Test.YtfcfpoemojjglaaGreatDoorFG
import Derived.Test.YtfcfpoemojjglaaGreatDoorHG
import Derived.Test.YtfcfpoemojjglaaGreatDoorFH
set_option maxHeartbeats 16000000
set_option maxRecDepth 100000
set_option linter.unusedVariables false
set_option linter.unusedSimpArgs false
namespace Go.Proofs.YtfcfpoemojjglaaGreatDoor.K
open Go.RowKit Go.ChangeShapes Go.WideShapes Go.Deep Go.ChangeAt Go.WideMaps Go.WideElems
set_option maxRecDepth 100000
section
variable {H:Type} {enc:TypeId×Value→H} {w:World} {base:Nat} {spare:Nat→Bool} {held:Bool}
theorem Qv {r:Go.Reach} {y:Nat} {v:Value} {d:DataW H} {p:List MemPlace} (C:Value.okWide Tryz.prog w r y 24 v) (h:DataW.Trod enc Tryz.prog w base spare held 24 v d p):∃A c,∃xs:List Int,v=.slice A xs.length c∧Sl w w.heap.size 1 Ai A xs:=by
 obtain⟨a,n,c,rfl⟩:=okWide_slice Tryz.underlying24 C
 obtain⟨fuel,z⟩:=h
 exact JJ z
end
end Go.Proofs.YtfcfpoemojjglaaGreatDoor.K
namespace Go.Proofs.YtfcfpoemojjglaaGreatDoor.K
open Go.ChangeShapes Go.WideShapes Go.ChangeAt Go.WideMaps Go.WideElems Go.RowKit
theorem Wa (os:Os) (ad:os.Started) (H:Type) (enc:TypeId×Value→H):
  ReturnsInHanded {} Tryz.checked os 6 .any (fun w args=>(Rows.wordBadMeansSpec.pre enc Tryz.prog Tryz.f6 Rows.wordBadMeansRow.domain false w args∧laidMetH Tryz.prog Rows.wordBadMeansRow.laid w)∧sizedMet enc Tryz.prog Tryz.f6 (OpenSpec.ofChange Rows.wordBadMeansSpec) false w args)
   (Rows.wordBadMeansSpec.post enc Tryz.prog Tryz.f6 false true false false):=by
 refine returnsInHanded_of_change_and (C:=Tryz.checked) (X:=fun w _=>laidMetH Tryz.prog Rows.wordBadMeansRow.laid w) (fun _ _ _ hh h=>h.of_heap hh) JP ad (by kernel_rfl) Tryz.func6
  (ChangeSpec.witness_shaped (enc:=enc) (C:=Tryz.checked) (os:=os) (X:=fun w _=>laidMetH Tryz.prog Rows.wordBadMeansRow.laid w) false (World.doorLaid Tryz.prog 400 os) #[.agg #[.string ⟨#[]⟩,.int .i64 0,.slice none 0 0,.slice none 0 0,.slice none 0 0,.int .i64 0,.slice none 0 0,.slice none 0 0,.slice none 0 0,.slice none 0 0],.agg #[.string ⟨#[]⟩,.int .i64 0,.slice none 0 0,.slice none 0 0,.slice none 0 0,.slice none 0 0],.slice none 0 0] 8 rfl (World.shaped_of_RefB (by kernel_rfl) (by kernel_rfl)) (by kernel_rfl) (by kernel_rfl) (by kernel_rfl) (Jp os _)) ?_
 intro W base args ds gs ag ab hW _ _ Z _
 have E:∀(j:Nat) t v,Tryz.f6.params[j]?=some t→args[j]?=some v→Value.okWide Tryz.prog W .any base t v:=ab
 have G:=hW
 obtain⟨p,q,a3,hV,rfl,ak,al⟩:=hW
 have V:DataW.TrodAll enc Tryz.prog W 0 (fun _=>true) true Tryz.f6.params.toList args.toList ds p:=a3
 rw [Tryz.params6] at V E
 obtain⟨v0,v1,v2,d0,d1,d2,p0,p1,p2,rfl,rfl,rfl,M,O,U⟩:=trodAll_three V
 obtain⟨rfl,rfl⟩:=trodVars_none hV
 obtain⟨cs,pd,rfl,hp,a7⟩:=Ku (E 0 27 v0 rfl rfl) M
 obtain⟨es,qd,rfl,hq,a9⟩:=Ks (E 1 30 v1 rfl rfl) O
 obtain⟨A2,c2,l2,rfl,g2⟩:=Qv (E 2 24 v2 rfl rfl) U
 simp only [List.append_nil] at G
 have I:=G.lt
 refine Calls.ret (VL hp hq a7 a9 g2 (G5 Z).1 (G5 Z).2) ?_
 rintro v W' ⟨hv,z⟩
 subst hv
 exact⟨_,rfl,JS rfl G (fun _ _ _=>trodAll_mk1 (shut_bool Tryz.underlying4 _)) (fun sp J=>by
  rw [Tryz.params6]
  rw [List.append_assoc]
  exact trodAll_mk3 (WideElems.Trod_stays FW (by kernel_rfl) (of_decide_eq_true (by kernel_rfl)) M (fun x y=>z.same (I x (List.mem_append_left _ (List.mem_append_left _ y)))) (fun x y=>J x (List.mem_append_left _ (List.mem_append_left _ y)))) (WideElems.Trod_stays FW (by kernel_rfl) (of_decide_eq_true (by kernel_rfl)) O (fun x y=>z.same (I x (List.mem_append_left _ (List.mem_append_right _ y)))) (fun x y=>J x (List.mem_append_left _ (List.mem_append_right _ y)))) (WideElems.Trod_stays FW (by kernel_rfl) (of_decide_eq_true (by kernel_rfl)) U (fun x y=>z.same (I x (List.mem_append_right _ y))) (fun x y=>J x (List.mem_append_right _ y)))) rfl z (ok_one (by kernel_rfl) rfl (okWide_bool_mk Tryz.underlying4 _))⟩
theorem V8:joinedFacts Tryz.checked.prog 6 Tryz.f6 Rows.wordBadMeansSpec Rows.wordBadMeansRow=true:=
 JK (by kernel_rfl) K1 K2 (by kernel_rfl) (by kernel_rfl) (by kernel_rfl) K5 (by kernel_rfl) K6 (by kernel_rfl) (by kernel_rfl) (by kernel_rfl) (by kernel_rfl) (by kernel_rfl) (by kernel_rfl) (by kernel_rfl) (by kernel_rfl) (by kernel_rfl) (by kernel_rfl) (by kernel_rfl) (by kernel_rfl) (by kernel_rfl) K7 (by kernel_rfl) K8 K9 Lc Ld (by kernel_rfl) (by kernel_rfl) (by kernel_rfl) (by kernel_rfl)
theorem wordBadMeans_row:Rows.WordBadMeansSaid:=
 OpenClaim.holds_of_wide 6 Tryz.f6 rfl rfl rfl rfl rfl rfl rfl ⟨rfl,rfl,rfl,rfl,rfl⟩ rfl rfl rfl rfl rfl (by kernel_rfl) Tryz.func6 V8
  (of_decide_eq_true (by kernel_rfl)) (by unfold Func.isWrapper; first | (rw [if_pos (by decide+kernel)]; kernel_rfl) | (rw [if_neg (by decide+kernel)]; exact⟨rfl,rfl⟩))
  (fun os h H enc _=>Wa os h H enc)
end Go.Proofs.YtfcfpoemojjglaaGreatDoor.K
namespace Go.Proofs.YtfcfpoemojjglaaGreatDoor
open Go
theorem V9:false=Rows.wordBadMeansRow.goesBy Tryz.checked.prog:=by kernel_rfl
theorem wordBadMeans_card:Rows.WordBadMeansCardSaid:=
 Claim7.holds_tied_plain_at .later [] [.data,.data,.data,.listed,.data] true (true,"9ac3a2f38e2114aff4fff80aa0b147a785d2dc1b0e5b699508a615585c3fa333") true
  K.wordBadMeans_row (fun _ h=>by cases h) (by kernel_rfl) (fun _ h=>by cases h) wordBadMeans_row_tie rfl ⟨rfl,rfl⟩ Lf rfl
  (fun f fn z C=>by
   obtain rfl:f=6:=Option.some.inj ((show Tryz.prog.funcNamed "familycheck/familychecklaw06.WordBadMeans" =some 6 by kernel_rfl).symm.trans z) |>.symm
   obtain rfl:fn=Tryz.f6:=(Option.some.inj (Tryz.func6.symm.trans C)).symm
   exact⟨Le,fun j t ht=>by
    rw [Tryz.params6] at ht
    have E:t∈[27,30,24]:=by simpa using Array.mem_of_getElem? ht
    have y:([27,30,24].all fun u=>!Tryz.prog.wantsStandIn u)=true:=by kernel_rfl
    exact(show Tryz.prog.wantsStandIn t=false by simpa using List.all_eq_true.1 y t E)⟩)
  V9
#print axioms wordBadMeans_card
end Go.Proofs.YtfcfpoemojjglaaGreatDoor
