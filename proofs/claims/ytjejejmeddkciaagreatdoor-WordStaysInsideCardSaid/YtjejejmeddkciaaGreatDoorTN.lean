/-
  WordStaysInside: for every family, property, automaton, rule and word, a step with the rule leads from an accepted word to an accepted word if CheckRule holds. The tied card.
-/
import Derived.Deep.Slices
import Derived.Deep.Fields
import Derived.Test.YtjejejmeddkciaaGreatDoorTie
import Derived.Test.YtjejejmeddkciaaGreatDoorCards
import Derived.Test.YtjejejmeddkciaaGreatDoorPA
import Derived.Test.YtjejejmeddkciaaGreatDoorFF
import Derived.Test.YtjejejmeddkciaaGreatDoorPB
import Derived.Test.YtjejejmeddkciaaGreatDoorYF
set_option maxHeartbeats 16000000
set_option maxRecDepth 100000
set_option linter.unusedVariables false
set_option linter.unusedSimpArgs false
namespace Go.Proofs.YtjejejmeddkciaaGreatDoor.K
open Go.RowKit Go.ChangeShapes Go.WideShapes Go.Deep Go.ChangeAt Go.WideMaps Go.WideElems
set_option maxRecDepth 100000
section
variable {H:Type} {enc:TypeId×Value->H} {w:World} {base:Nat} {spare:Nat->Bool} {held:Bool}
theorem Qv {r:Go.Reach} {C:Nat} {v:Value} {d:DataW H} {p:List MemPlace} (F:Value.okWide Tryz.prog w r C 24 v) (h:DataW.Trod enc Tryz.prog w base spare held 24 v d p):∃A c,∃xs:List Int,v=.slice A xs.length c/\Sl w w.heap.size 1 Ai A xs:=by
 obtain⟨a,n,c,rfl⟩:=okWide_slice Tryz.underlying24 F;obtain⟨fuel,E⟩:=h;exact JJ E
end
end Go.Proofs.YtjejejmeddkciaaGreatDoor.K
namespace Go.Proofs.YtjejejmeddkciaaGreatDoor.K
open Go.RowKit Go.ChangeShapes Go.WideShapes Go.Deep Go.ChangeAt Go.WideMaps Go.WideElems
set_option maxRecDepth 100000
section
variable {H:Type} {enc:TypeId×Value->H} {w:World} {base:Nat} {spare:Nat->Bool} {held:Bool}
theorem aCI {fuel:Nat} {v:Value} {x:DataW H×List MemPlace} (h:DataW.trod enc Tryz.prog w base spare held fuel 24 [v]=some x):∃A c,∃xs:List Int,v=.slice A xs.length c/\Sl w w.heap.size 1 Ai A xs/\xs.length<=c:=by
 obtain⟨A,c,ds,F,E,C⟩:=Fr (D:=Int) (R:=fun cs z=>∀j,j<1->cs[j]?=some (Ai z j)) Tryz.underlying24 (k:=1) (by kernel_rfl) (by omega) (fun n cs x I ht=>by
  obtain⟨z,rfl⟩:=JI ht;exact⟨z,fun j G=>by
   have:j=0:=by omega
   subst this;rfl⟩) h
 exact⟨A,c,ds,F,GX E,C⟩
theorem aC6 {fuel:Nat} {v:Value} {x:DataW H×List MemPlace} (h:DataW.trod enc Tryz.prog w base spare held fuel 31 [v]=some x):∃A c,∃xs:List Edg,v=.slice A xs.length c/\Sl w w.heap.size 3 DP A xs:=by
 obtain⟨A,c,ds,hv,Z,hc⟩:=Fr (D:=Edg) (R:=fun cs z=>∀j,j<3->cs[j]?=some (DP z j)) Tryz.underlying31 (k:=3) (by kernel_rfl) (by omega) (fun n cs x a7 ht=>by
  obtain⟨xs,F,_,_,_,a3,C⟩:=DataW.trod_struct Tryz.underlying137 ht;have E:xs.length=3:=a3;have V:Tryz.prog.cellsOf 3=1:=by kernel_rfl
  have G:DataW.trod enc Tryz.prog w base spare held F 3 ((cs.drop 0).take (Tryz.prog.cellsOf 3))=xs[0]?:=C 0 _ rfl;have I:DataW.trod enc Tryz.prog w base spare held F 3 ((cs.drop 1).take (Tryz.prog.cellsOf 3))=xs[1]?:=C 1 _ rfl;have J:DataW.trod enc Tryz.prog w base spare held F 3 ((cs.drop 2).take (Tryz.prog.cellsOf 3))=xs[2]?:=C 2 _ rfl;rw [V] at G I J;obtain⟨z0,M⟩:=Cv G (Bh E (by omega));obtain⟨z1,O⟩:=Cv I (Bh E (by omega));obtain⟨z2,U⟩:=Cv J (Bh E (by omega));exact⟨⟨z0,z1,z2⟩,fun j W=>by
   match j,W with
   | 0,_=>exact M
   | 1,_=>exact O
   | 2,_=>exact U⟩) h
 exact⟨A,c,ds,hv,GX Z⟩
theorem aDx {n:Nat} {cs:List Value} {x:DataW H×List MemPlace} (a9:cs.length=5) (h:DataW.trod enc Tryz.prog w base spare held n 33 cs=some x):∃a:WA,Bj w w.heap.size (.agg cs.toArray) a:=by
 obtain⟨xs,E,_,_,_,aa,C⟩:=DataW.trod_struct Tryz.underlying33 h;have J:xs.length=5:=aa
 match cs,a9 with
 | [c0,c1,c2,c3,c4],_=>
  have F:∀k,k<5->∃y,xs[k]?=some y:=fun k hk=>An (by omega);have h3:Tryz.prog.cellsOf 3=1:=by kernel_rfl
  have a6:Tryz.prog.cellsOf 24=1:=by kernel_rfl
  have a7:Tryz.prog.cellsOf 31=1:=by kernel_rfl
  have G:DataW.trod enc Tryz.prog w base spare held E 3 (([c0,c1,c2,c3,c4].drop 0).take (Tryz.prog.cellsOf 3))=xs[0]?:=C 0 _ rfl;have I:DataW.trod enc Tryz.prog w base spare held E 3 (([c0,c1,c2,c3,c4].drop 1).take (Tryz.prog.cellsOf 3))=xs[1]?:=C 1 _ rfl;have g2:DataW.trod enc Tryz.prog w base spare held E 24 (([c0,c1,c2,c3,c4].drop 2).take (Tryz.prog.cellsOf 24))=xs[2]?:=C 2 _ rfl;have g3:DataW.trod enc Tryz.prog w base spare held E 24 (([c0,c1,c2,c3,c4].drop 3).take (Tryz.prog.cellsOf 24))=xs[3]?:=C 3 _ rfl;have g4:DataW.trod enc Tryz.prog w base spare held E 31 (([c0,c1,c2,c3,c4].drop 4).take (Tryz.prog.cellsOf 31))=xs[4]?:=C 4 _ rfl;rw [h3] at G I;rw [a6] at g2 g3;rw [a7] at g4;obtain⟨y2,e2⟩:=F 2 (by omega);obtain⟨y3,e3⟩:=F 3 (by omega);obtain⟨y4,e4⟩:=F 4 (by omega);obtain⟨z0,q0⟩:=Cv G (Bh J (by omega));obtain⟨M,q1⟩:=Cv I (Bh J (by omega));rw [e2] at g2;rw [e3] at g3;rw [e4] at g4;have ad:c0=.int .i64 z0:=by simpa using q0
  have af:c1=.int .i64 M:=by simpa using q1
  obtain⟨O,W,aj,rfl,s2,l2⟩:=aCI (v:=c2) g2;obtain⟨U,Z,ak,rfl,s3,_⟩:=aCI (v:=c3) g3;obtain⟨V,d4,al,rfl,s4⟩:=aC6 (v:=c4) g4;subst ad af;exact⟨⟨z0,M,aj,ak,al⟩,O,W,U,Z,V,d4,rfl,s2,s3,s4,l2⟩
theorem aDw {r:Go.Reach} {J:Nat} {v:Value} {d:DataW H} {p:List MemPlace} (hv:Value.okWide Tryz.prog w r J 35 v) (h:DataW.Trod enc Tryz.prog w base spare held 35 v d p):
  ∃(es E:List Value) (q:AB) (a:WA) (z:Int),v=.agg (es++(E++[Value.int .i64 z])).toArray/\Ba w w.heap.size es q/\q.Fits/\E.length=5/\Bj w w.heap.size (.agg E.toArray) a:=by
 obtain⟨cs,rfl,a8⟩:=okWide_struct Tryz.underlying35 hv;obtain⟨l⟩:=cs;have hC:Tryz.prog.cellsOf 35=12:=by kernel_rfl
 have C:l.length=12:=a8.trans hC;obtain⟨fuel,hf⟩:=h;obtain⟨xs,n,_,_,_,aa,I⟩:=DataW.trod_struct Tryz.underlying35 hf;have hl:xs.length=3:=aa;have V:Tryz.prog.cellsOf 3=1:=by kernel_rfl
 have W:Tryz.prog.cellsOf 30=6:=by kernel_rfl
 have Z:Tryz.prog.cellsOf 33=5:=by kernel_rfl
 have F:DataW.trod enc Tryz.prog w base spare held n 30 ((l.drop 0).take (Tryz.prog.cellsOf 30))=xs[0]?:=I 0 _ rfl;have G:DataW.trod enc Tryz.prog w base spare held n 33 ((l.drop 6).take (Tryz.prog.cellsOf 33))=xs[1]?:=I 1 _ rfl;have g2:DataW.trod enc Tryz.prog w base spare held n 3 ((l.drop 11).take (Tryz.prog.cellsOf 3))=xs[2]?:=I 2 _ rfl;rw [W] at F;rw [Z] at G;rw [V] at g2;obtain⟨y0,M⟩:=An (l:=xs) (i:=0) (by omega);obtain⟨y1,O⟩:=An (l:=xs) (i:=1) (by omega);rw [M] at F;rw [O] at G;obtain⟨z,U⟩:=Cv g2 (Bh hl (by omega));obtain⟨q,hq,a7⟩:=RB (cs:=(l.drop 0).take 6) (by rw [List.length_take,List.length_drop,C];decide) F;obtain⟨a,ha⟩:=aDx (cs:=(l.drop 6).take 5) (by rw [List.length_take,List.length_drop,C];decide) G;refine⟨(l.drop 0).take 6,(l.drop 6).take 5,q,a,z,?_,hq,a7,by rw [List.length_take,List.length_drop,C];decide,ha⟩
 match l,C with
 | [J,b1,b2,b3,b4,b5,b6,b7,b8,b9,b10,b11],_=>
  have:b11=.int .i64 z:=by simpa using U
  subst this;rfl
end
end Go.Proofs.YtjejejmeddkciaaGreatDoor.K
namespace Go.Proofs.YtjejejmeddkciaaGreatDoor.K
open Go.ChangeShapes Go.WideShapes Go.ChangeAt Go.WideMaps Go.WideElems Go.RowKit
theorem aDA (os:Os) (af:os.Started) (H:Type) (enc:TypeId×Value->H):
  ReturnsInHanded {} Tryz.checked os 3 .any (fun w args=>(Rows.wordStaysInsideSpec.pre enc Tryz.prog Tryz.f3 Rows.wordStaysInsideRow.domain false w args/\laidMetH Tryz.prog Rows.wordStaysInsideRow.laid w)/\sizedMet enc Tryz.prog Tryz.f3 (OpenSpec.ofChange Rows.wordStaysInsideSpec) false w args)
   (Rows.wordStaysInsideSpec.post enc Tryz.prog Tryz.f3 false true false false):=by
 refine returnsInHanded_of_change_and (C:=Tryz.checked) (X:=fun w _=>laidMetH Tryz.prog Rows.wordStaysInsideRow.laid w) (fun _ _ _ hh h=>h.of_heap hh) JP af (by kernel_rfl) Tryz.func3
  (ChangeSpec.witness_shaped (enc:=enc) (C:=Tryz.checked) (os:=os) (X:=fun w _=>laidMetH Tryz.prog Rows.wordStaysInsideRow.laid w) false (World.doorLaid Tryz.prog 400 os) #[.agg #[.string ⟨#[]⟩,.int .i64 0,.slice none 0 0,.slice none 0 0,.slice none 0 0,.int .i64 0,.slice none 0 0,.slice none 0 0,.slice none 0 0,.slice none 0 0],.agg #[.string ⟨#[]⟩,.int .i64 0,.slice none 0 0,.slice none 0 0,.slice none 0 0,.slice none 0 0,.int .i64 0,.int .i64 0,.slice none 0 0,.slice none 0 0,.slice none 0 0,.int .i64 0],.slice none 0 0] 8 rfl (World.shaped_of_RefB (by kernel_rfl) (by kernel_rfl)) (by kernel_rfl) (by kernel_rfl) (by kernel_rfl) (Jp os _)) ?_
 intro W base args ds gs aj ae Z _ _ V _;have G:∀(j:Nat) t v,Tryz.f3.params[j]?=some t->args[j]?=some v->Value.okWide Tryz.prog W .any base t v:=ae;have I:=Z;obtain⟨p,q,a2,hV,rfl,ap,aq⟩:=Z;have U:DataW.TrodAll enc Tryz.prog W 0 (fun _=>true) true Tryz.f3.params.toList args.toList ds p:=a2;rw [Tryz.params3] at U G;obtain⟨v0,v1,v2,d0,d1,d2,p0,p1,p2,rfl,rfl,rfl,h0,h1,O⟩:=trodAll_three U;obtain⟨rfl,rfl⟩:=trodVars_none hV;obtain⟨cs,pd,rfl,hp,a8⟩:=Ku (G 0 27 v0 rfl rfl) h0;obtain⟨es,bs,qd,ad,z1,rfl,hq,aa,a5,a4⟩:=aDw (G 1 35 v1 rfl rfl) h1;obtain⟨A2,c2,l2,rfl,g2⟩:=Qv (G 2 24 v2 rfl rfl) O;simp only [List.append_nil] at I;have J:=I.lt;refine Calls.ret (aDe hp a8 hq aa a5 a4 g2 (G5 V).1 (G5 V).2) ?_;rintro v W' ⟨hv,F⟩;subst hv;exact⟨_,rfl,JS rfl I (fun _ _ _=>trodAll_mk1 (shut_bool Tryz.underlying4 _)) (fun sp M=>by
  rw [Tryz.params3];rw [List.append_assoc];exact trodAll_mk3 (WideElems.Trod_stays FW (by kernel_rfl) (of_decide_eq_true (by kernel_rfl)) h0 (fun x E=>F.same (J x (List.mem_append_left _ (List.mem_append_left _ E)))) (fun x E=>M x (List.mem_append_left _ (List.mem_append_left _ E)))) (WideElems.Trod_stays FW (by kernel_rfl) (of_decide_eq_true (by kernel_rfl)) h1 (fun x E=>F.same (J x (List.mem_append_left _ (List.mem_append_right _ E)))) (fun x E=>M x (List.mem_append_left _ (List.mem_append_right _ E)))) (WideElems.Trod_stays FW (by kernel_rfl) (of_decide_eq_true (by kernel_rfl)) O (fun x E=>F.same (J x (List.mem_append_right _ E))) (fun x E=>M x (List.mem_append_right _ E)))) rfl F (ok_one (by kernel_rfl) rfl (okWide_bool_mk Tryz.underlying4 _))⟩
theorem aDy:joinedFacts Tryz.checked.prog 3 Tryz.f3 Rows.wordStaysInsideSpec Rows.wordStaysInsideRow=true:=
 JK (by kernel_rfl) K1 K2 (by kernel_rfl) (by kernel_rfl) (by kernel_rfl) K5 (by kernel_rfl) K6 (by kernel_rfl) (by kernel_rfl) (by kernel_rfl) (by kernel_rfl) (by kernel_rfl) (by kernel_rfl) (by kernel_rfl) (by kernel_rfl) (by kernel_rfl) (by kernel_rfl) (by kernel_rfl) (by kernel_rfl) (by kernel_rfl) K7 (by kernel_rfl) K8 K9 Lc Ld (by kernel_rfl) (by kernel_rfl) (by kernel_rfl) (by kernel_rfl)
theorem wordStaysInside_row:Rows.WordStaysInsideSaid:=
 OpenClaim.holds_of_wide 3 Tryz.f3 rfl rfl rfl rfl rfl rfl rfl ⟨rfl,rfl,rfl,rfl,rfl⟩ rfl rfl rfl rfl rfl (by kernel_rfl) Tryz.func3 aDy
  (of_decide_eq_true (by kernel_rfl)) (by unfold Func.isWrapper;first|(rw [if_pos (by decide+kernel)];kernel_rfl)|(rw [if_neg (by decide+kernel)];exact⟨rfl,rfl⟩))
  (fun os h H enc _=>aDA os h H enc)
end Go.Proofs.YtjejejmeddkciaaGreatDoor.K
namespace Go.Proofs.YtjejejmeddkciaaGreatDoor
open Go
theorem aDz:false=Rows.wordStaysInsideRow.goesBy Tryz.checked.prog:=by kernel_rfl
theorem wordStaysInside_card:Rows.WordStaysInsideCardSaid:=
 Claim7.holds_tied_plain_at .later [] [.data,.data,.data,.listed,.data] true (true,"793a58bf8a29cd1efb571fba9c8b6e6ced56d04c95069783226657b6188cb9d0") true
  K.wordStaysInside_row (fun _ h=>by cases h) (by kernel_rfl) (fun _ h=>by cases h) wordStaysInside_row_tie rfl ⟨rfl,rfl⟩ Lf rfl
  (fun f fn E F=>by
   obtain rfl:f=3:=Option.some.inj ((show Tryz.prog.funcNamed "familycheck/familychecklaw06.WordStaysInside" =some 3 by kernel_rfl).symm.trans E) |>.symm
   obtain rfl:fn=Tryz.f3:=(Option.some.inj (Tryz.func3.symm.trans F)).symm;exact⟨Le,fun j t ht=>by
    rw [Tryz.params3] at ht;have G:t∈[27,35,24]:=by simpa using Array.mem_of_getElem? ht
    have C:([27,35,24].all fun u=>!Tryz.prog.wantsStandIn u)=true:=by kernel_rfl
    exact(show Tryz.prog.wantsStandIn t=false by simpa using List.all_eq_true.1 C t G)⟩)
  aDz
#print axioms wordStaysInside_card
end Go.Proofs.YtjejejmeddkciaaGreatDoor
