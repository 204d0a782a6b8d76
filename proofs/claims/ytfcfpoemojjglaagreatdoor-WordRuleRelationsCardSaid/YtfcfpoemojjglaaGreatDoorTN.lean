/-
  WordRuleRelations: for every family, rule and two words, the relation of the rule relates the words exactly if one step with the rule leads from the first word to the second one. The tied card.
-/
import Derived.Deep.Slices
import Derived.Deep.Fields
import Derived.Test.YtfcfpoemojjglaaGreatDoorTie
import Derived.Test.YtfcfpoemojjglaaGreatDoorCards
import Derived.Test.YtfcfpoemojjglaaGreatDoorPA
import Derived.Test.YtfcfpoemojjglaaGreatDoorFF
import Derived.Test.YtfcfpoemojjglaaGreatDoorTM
set_option maxHeartbeats 16000000
set_option maxRecDepth 100000
set_option linter.unusedVariables false
set_option linter.unusedSimpArgs false
namespace Go.Proofs.YtfcfpoemojjglaaGreatDoor.K
open Go.RowKit Go.ChangeShapes Go.WideShapes Go.Deep Go.ChangeAt Go.WideMaps Go.WideElems
set_option maxRecDepth 100000
section
variable {H:Type} {enc:TypeId×Value→H} {w:World} {base:Nat} {spare:Nat→Bool} {held:Bool}
theorem Zz {r:Go.Reach} {h:Nat} {v:Value} (x:Value.okWide Tryz.prog w r h 3 v):∃z:Int,v=.int .i64 z:=okWide_int Tryz.underlying3 x
theorem aAM {r:Go.Reach} {F:Nat} {v:Value} {d:DataW H} {p:List MemPlace} (Z:Value.okWide Tryz.prog w r F 51 v) (h:DataW.Trod enc Tryz.prog w base spare held 51 v d p):
  ∃A c,∃l:List Int,∃x c',∃l':List Int,v=.agg #[.slice A l.length c,.slice x l'.length c']∧Sl w w.heap.size 1 Ai A l∧Sl w w.heap.size 1 Ai x l':=by
 obtain⟨cs,rfl,W⟩:=okWide_struct Tryz.underlying51 Z
 obtain⟨l⟩:=cs
 have U:Tryz.prog.cellsOf 51=2:=by kernel_rfl
 match l,W.trans U with
 | [c0,c1],_=>
  obtain⟨fuel,V⟩:=h
  obtain⟨xs,n,_,_,_,a2,C⟩:=DataW.trod_struct Tryz.underlying51 V
  have hl:xs.length=2:=a2
  have E:∀k,k<2→∃y,xs[k]?=some y:=fun k hk=>An (by omega)
  have O:Tryz.prog.cellsOf 24=1:=by kernel_rfl
  have g2:DataW.trod enc Tryz.prog w base spare held n 24 (([c0,c1].drop 0).take (Tryz.prog.cellsOf 24))=xs[0]?:=C 0 _ rfl
  have g3:DataW.trod enc Tryz.prog w base spare held n 24 (([c0,c1].drop 1).take (Tryz.prog.cellsOf 24))=xs[1]?:=C 1 _ rfl
  rw [O] at g2 g3
  obtain⟨y2,J⟩:=E 0 (by omega)
  obtain⟨y3,M⟩:=E 1 (by omega)
  rw [J] at g2
  rw [M] at g3
  obtain⟨A2,G,a5,rfl,s2⟩:=JJ (v:=c0) g2
  obtain⟨A3,I,a6,rfl,s3⟩:=JJ (v:=c1) g3
  exact⟨A2,G,a5,A3,I,a6,rfl,s2,s3⟩
end
end Go.Proofs.YtfcfpoemojjglaaGreatDoor.K
namespace Go.Proofs.YtfcfpoemojjglaaGreatDoor.K
open Go.ChangeShapes Go.WideShapes Go.ChangeAt Go.WideMaps Go.WideElems Go.RowKit
theorem aAT (os:Os) (a9:os.Started) (H:Type) (enc:TypeId×Value→H):
  ReturnsInHanded {} Tryz.checked os 7 .any (fun w args=>(Rows.wordRuleRelationsSpec.pre enc Tryz.prog Tryz.f7 Rows.wordRuleRelationsRow.domain false w args∧laidMetH Tryz.prog Rows.wordRuleRelationsRow.laid w)∧sizedMet enc Tryz.prog Tryz.f7 (OpenSpec.ofChange Rows.wordRuleRelationsSpec) false w args)
   (Rows.wordRuleRelationsSpec.post enc Tryz.prog Tryz.f7 false true false false):=by
 refine returnsInHanded_of_change_and (C:=Tryz.checked) (X:=fun w _=>laidMetH Tryz.prog Rows.wordRuleRelationsRow.laid w) (fun _ _ _ hh h=>h.of_heap hh) JP a9 (by kernel_rfl) Tryz.func7
  (ChangeSpec.witness_shaped (enc:=enc) (C:=Tryz.checked) (os:=os) (X:=fun w _=>laidMetH Tryz.prog Rows.wordRuleRelationsRow.laid w) false (World.doorLaid Tryz.prog 400 os) #[.agg #[.string ⟨#[]⟩,.int .i64 0,.slice none 0 0,.slice none 0 0,.slice none 0 0,.int .i64 0,.slice none 0 0,.slice none 0 0,.slice none 0 0,.slice none 0 0],.int .i64 0,.agg #[.slice none 0 0,.slice none 0 0]] 8 rfl (World.shaped_of_RefB (by kernel_rfl) (by kernel_rfl)) (by kernel_rfl) (by kernel_rfl) (by kernel_rfl) (Jp os _)) ?_
 intro W base args ds gs af a8 V _ _ U _
 have F:∀(j:Nat) t v,Tryz.f7.params[j]?=some t→args[j]?=some v→Value.okWide Tryz.prog W .any base t v:=a8
 have G:=V
 obtain⟨p,q,a2,hV,rfl,al,am⟩:=V
 have O:DataW.TrodAll enc Tryz.prog W 0 (fun _=>true) true Tryz.f7.params.toList args.toList ds p:=a2
 rw [Tryz.params7] at O F
 obtain⟨v0,v1,v2,d0,d1,d2,p0,p1,p2,rfl,rfl,rfl,h0,h1,M⟩:=trodAll_three O
 obtain⟨rfl,rfl⟩:=trodVars_none hV
 obtain⟨cs,pd,rfl,hp,a6⟩:=Ku (F 0 27 v0 rfl rfl) h0
 obtain⟨z1,rfl⟩:=Zz (F 1 3 v1 rfl rfl)
 obtain⟨A2,c2,l2,ad,ag,an,rfl,g2,Z⟩:=aAM (F 2 51 v2 rfl rfl) M
 simp only [List.append_nil] at G
 have I:=G.lt
 refine Calls.ret (ZB hp a6 g2 Z (G5 U).1 (G5 U).2) ?_
 rintro v W' ⟨hv,E⟩
 subst hv
 exact⟨_,rfl,JS rfl G (fun _ _ _=>trodAll_mk1 (shut_bool Tryz.underlying4 _)) (fun sp J=>by
  rw [Tryz.params7]
  rw [List.append_assoc]
  exact trodAll_mk3 (WideElems.Trod_stays FW (by kernel_rfl) (of_decide_eq_true (by kernel_rfl)) h0 (fun x y=>E.same (I x (List.mem_append_left _ (List.mem_append_left _ y)))) (fun x y=>J x (List.mem_append_left _ (List.mem_append_left _ y)))) (WideElems.Trod_stays FW (by kernel_rfl) (of_decide_eq_true (by kernel_rfl)) h1 (fun x y=>E.same (I x (List.mem_append_left _ (List.mem_append_right _ y)))) (fun x y=>J x (List.mem_append_left _ (List.mem_append_right _ y)))) (WideElems.Trod_stays FW (by kernel_rfl) (of_decide_eq_true (by kernel_rfl)) M (fun x y=>E.same (I x (List.mem_append_right _ y))) (fun x y=>J x (List.mem_append_right _ y)))) rfl E (ok_one (by kernel_rfl) rfl (okWide_bool_mk Tryz.underlying4 _))⟩
theorem aAR:joinedFacts Tryz.checked.prog 7 Tryz.f7 Rows.wordRuleRelationsSpec Rows.wordRuleRelationsRow=true:=
 JK (by kernel_rfl) K1 K2 (by kernel_rfl) (by kernel_rfl) (by kernel_rfl) K5 (by kernel_rfl) K6 (by kernel_rfl) (by kernel_rfl) (by kernel_rfl) (by kernel_rfl) (by kernel_rfl) (by kernel_rfl) (by kernel_rfl) (by kernel_rfl) (by kernel_rfl) (by kernel_rfl) (by kernel_rfl) (by kernel_rfl) (by kernel_rfl) K7 (by kernel_rfl) K8 K9 Lc Ld (by kernel_rfl) (by kernel_rfl) (by kernel_rfl) (by kernel_rfl)
theorem wordRuleRelations_row:Rows.WordRuleRelationsSaid:=
 OpenClaim.holds_of_wide 7 Tryz.f7 rfl rfl rfl rfl rfl rfl rfl ⟨rfl,rfl,rfl,rfl,rfl⟩ rfl rfl rfl rfl rfl (by kernel_rfl) Tryz.func7 aAR
  (of_decide_eq_true (by kernel_rfl)) (by unfold Func.isWrapper; first | (rw [if_pos (by decide+kernel)]; kernel_rfl) | (rw [if_neg (by decide+kernel)]; exact⟨rfl,rfl⟩))
  (fun os h H enc _=>aAT os h H enc)
end Go.Proofs.YtfcfpoemojjglaaGreatDoor.K
namespace Go.Proofs.YtfcfpoemojjglaaGreatDoor
open Go
theorem aAS:false=Rows.wordRuleRelationsRow.goesBy Tryz.checked.prog:=by kernel_rfl
theorem wordRuleRelations_card:Rows.WordRuleRelationsCardSaid:=
 Claim7.holds_tied_plain_at .later [] [.data,.data,.data,.listed,.data] true (true,"9ac3a2f38e2114aff4fff80aa0b147a785d2dc1b0e5b699508a615585c3fa333") true
  K.wordRuleRelations_row (fun _ h=>by cases h) (by kernel_rfl) (fun _ h=>by cases h) wordRuleRelations_row_tie rfl ⟨rfl,rfl⟩ Lf rfl
  (fun f fn y C=>by
   obtain rfl:f=7:=Option.some.inj ((show Tryz.prog.funcNamed "familycheck/familychecklaw06.WordRuleRelations" =some 7 by kernel_rfl).symm.trans y) |>.symm
   obtain rfl:fn=Tryz.f7:=(Option.some.inj (Tryz.func7.symm.trans C)).symm
   exact⟨Le,fun j t ht=>by
    rw [Tryz.params7] at ht
    have E:t∈[27,3,51]:=by simpa using Array.mem_of_getElem? ht
    have x:([27,3,51].all fun u=>!Tryz.prog.wantsStandIn u)=true:=by kernel_rfl
    exact(show Tryz.prog.wantsStandIn t=false by simpa using List.all_eq_true.1 x t E)⟩)
  aAS
#print axioms wordRuleRelations_card
end Go.Proofs.YtfcfpoemojjglaaGreatDoor
