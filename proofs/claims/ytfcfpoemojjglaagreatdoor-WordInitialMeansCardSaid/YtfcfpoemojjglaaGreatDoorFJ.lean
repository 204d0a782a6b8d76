/-
  Part FJ of a proof.
-/
import Derived.Test.YtfcfpoemojjglaaGreatDoorPA
import Derived.Test.YtfcfpoemojjglaaGreatDoorFD
import Derived.Test.YtfcfpoemojjglaaGreatDoorCW
import Derived.Test.YtfcfpoemojjglaaGreatDoorPJ
set_option maxHeartbeats 16000000
set_option maxRecDepth 100000
set_option linter.unusedVariables false
set_option linter.unusedSimpArgs false
namespace Go.Proofs.YtfcfpoemojjglaaGreatDoor
open Go.RowKit
open K (Am AB At Ba PQX Ah)
attribute [-go_sem] loadCellsFrom
set_option maxHeartbeats 16000000
set_option maxRecDepth 100000
def Ej (w:World) (ec:Int) (L:Nat) (Λ:List Nat→Bool) (v:Value) (w':World):Prop:=
 Below w.heap.size w w'∧((ec≠0∧v=.tuple #[.agg BQ,.int .i64 ec])∨
  (ec=0∧∃t ac d,BH L t ac Λ∧ac.length≤1024∧v=.tuple #[d,.int .i64 0]∧∀w'',Ac w' w'' (fun k=>k<w.heap.size)→Bj w'' w''.heap.size d (AG L t ac)))
def LK:WA:=⟨0,0,[],[],[]⟩
theorem LM (w:World):Bj w w.heap.size (.agg BQ) LK:=⟨none,0,none,0,none,0,rfl,Sl.nil rfl,Sl.nil rfl,Sl.nil rfl,Nat.le_refl _⟩
theorem Ej.get {w w':World} {z:Int} {L:Nat} {Λ:List Nat→Bool} {r:Value} (h:Ej w z L Λ r w'):Below w.heap.size w w'∧∃(M:WA) (U:Value),r=.tuple #[U,.int .i64 z]∧Bj w' w'.heap.size U M∧
  (∀(w2 y:World) (E:Value),Ej w2 z L Λ E y→Below w2.heap.size w2 y∧∃O,E=.tuple #[O,.int .i64 z]∧Bj y y.heap.size O M)∧
  (z=0→∃t ac,BH L t ac Λ∧ac.length≤1024∧M=AG L t ac):=by
 obtain⟨W,⟨C,rfl⟩ | ⟨C,t,ac,d,V,a4,rfl,hI⟩⟩:=h
 ·refine⟨W,LK,_,rfl,LM _,fun w2 y E I=>?_,fun e=>absurd e C⟩
  obtain⟨J,⟨-,rfl⟩ | ⟨G,-⟩⟩:=I
  ·exact⟨J,_,rfl,LM _⟩
  ·exact absurd G C
 ·subst C
  refine⟨W,AG L t ac,d,rfl,hI w' (Ac.refl _ _),fun w2 y E I=>?_,fun _=>⟨t,ac,V,a4,rfl⟩⟩
  obtain⟨J,⟨G,-⟩ | ⟨-,t',a5,Z,a2,-,rfl,a3⟩⟩:=I
  ·exact absurd rfl G
  ·obtain⟨rfl,rfl⟩:=a2.unique V fun _ _=>rfl
   exact⟨J,Z,rfl,a3 y (Ac.refl _ _)⟩
theorem Hf {p:Am} {q:AB} (h:K.checkW K.nameOK p q=0):K.propE K.nameOK p q=0∧(p.topo=2∨p.topo=3)∧q.kind=1:=by
 unfold K.checkW at h
 obtain⟨z,C⟩:=AY.1 h
 have y:=(Gg (by decide)).1 C
 simp only [Bool.or_eq_false_iff,Bool.not_eq_false',Bool.or_eq_true,beq_iff_eq,bne_eq_false_iff_eq] at y
 exact⟨z,y.1,y.2⟩
theorem FK {p:Am} {q:AB} (h:K.checkW K.nameOK p q=0):Gi p q:=Qt (Hf h).1
theorem Iy {w:World} {cs ds:List Value} {p:Am} {q:AB} (h:At w w.heap.size cs p) (h':Ba w w.heap.size ds q) (ag:p.Small) (ah:q.Small) (hT:K.SpOK w) (hP:BV w):
  Calls Tryz.prog 11 #[.agg cs.toArray,.agg ds.toArray] w (Ret fun r w'=>Ej w (K.checkW K.nameOK p q) p.states.length (C6 (BS p q) (AU p q)) r w'):=by
 obtain⟨B1,d1,B2,d2,B3,d3,B4,d4,aC,-⟩:=h'.cells
 obtain⟨A1,c1,A2,c2,A3,c3,A4,c4,A5,c5,A6,c6,A7,c7,aB,-,-,aQ,-⟩:=h.cells
 obtain⟨w1,ce,av,aL,ba⟩:=Ae w cs.toArray 27
 obtain⟨w2,cf,aw,aM,bb⟩:=Ae w1 ds.toArray 30
 obtain⟨w3,cg,ab,ak,bd⟩:=Ae w2 BQ 35
 have a9:=av.trans (aw.mono av.size)
 have J:=hide (a9.trans (ab.mono a9.size))
 have a8:=hide (show PQX w3 w.heap.size w1.heap.size cs.toArray ds.toArray p q from⟨h.keep (fun _ hp=>J.out.cell hp) J.out.size,h'.keep (fun _ hp=>J.out.cell hp) J.out.size,(aL.below aw).below ab,aM.below ab,hT.below J.out⟩)
 have aW:=hide ak
 have bZ:=ak.lt
 have cb:=a9.size
 generalize bo:cs.toArray=C at*
 generalize bq:ds.toArray=E at*
 obtain⟨I,V⟩:∃e,Hid (K.checkW K.nameOK p q=e):=⟨_,rfl⟩
 have b4:Hid (∀y,Hid (PQX y w.heap.size w1.heap.size C E p q)→Calls Tryz.prog 32 #[.agg C,.agg E] y (Ret fun v w'=>v=.int .i64 I∧Below y.heap.size y w')):=hide (fun y M=>by
  rw [←V.out]
  exact K.check_any (cs:=C.toList) (ds:=E.toList) M.out.pr M.out.qr ag ah M.out.tab)
 have aR:=hide aB
 have aS:=hide aC
 have bn:=hide aQ
 have be:=Ah a8.out.b2 aB
 have bh:=Ah a8.out.b3 aC
 have bW:=hide hP
 have b9:Hid (I=0→∀y,Hid (PQX y w.heap.size w1.heap.size C E p q)→Below w.heap.size w y→Calls Tryz.prog 33 #[.agg C,.agg E] y (Ret fun r w'=>Below y.heap.size y w'∧∃t ac,BH p.states.length t ac (C6 (BS p q) (AU p q))∧ac.length≤1024∧∀w'',Ac w' w'' (fun k=>k<y.heap.size)→Br w'' w''.heap.size r t ac)):=hide (fun he y M b0=>by
  have bm:=FK (V.out.trans he)
  exact by
   have br:=fun(y:World) (C E:Array Value) (ga gb:Nat) (hX:PQX y ga gb C E p q)=>Tj (cs:=C.toList) (ds:=E.toList) (w:=y) hX.pr hX.qr ag ah hX.tab (fun wy bs bt bU bV hY=>by
    have:=K.propValidate_any (cs:=bs.toList) (ds:=bt.toList) hY.pr hY.qr ag ah hY.tab
    rw [(Hf (V.out.trans he)).1] at this
    exact this)
   refine Calls.ret (Qs (cs:=C.toList) (ds:=E.toList) M.out.pr M.out.qr bm M.out.tab (hP.below b0) br) ?_
   rintro r w' ⟨hb,t,ac,hC,hn,hD⟩
   exact⟨hb,t,ac,hC,by omega,hD⟩)
 rw [V.out]
 have al:Hid (I=0→p.states.length≤8):=hide (fun he=>by have:=(FK (V.out.trans he)).L.2; omega)
 clear h h' av aw ab a9 aL aM ak ba bb bd bo bq hT hP aB aC aQ ag ah V
 go_enter Tryz.func11,Tryz.ntmps11
 go_wp2_with fail
 refine Calls.ret (b4.out _ a8) ?_
 rintro v w4 ⟨rfl,ad⟩
 have ao:=hide (a8.out.at ad)
 have aa:=hide (J.out.trans (ad.mono J.out.size))
 have Z:=hide (aW.out.below ad)
 have bf:=Ah ao.out.b2 aR.out
 have bi:=Ah ao.out.b3 aS.out
 have bk:=Z.out.lt
 have b7:=Z.out.frozen
 have b1:=Z.out.cell
 clear ad be bh
 by_cases O:I=0
 case neg=>
  have bp:(I != 0)=true:=by simp [O]
  have W:=hide O
  obtain⟨wF,aD,a2,U⟩:=Dn Z.out (.int .i64 0) (.int .i64 0) sn0 sn0 sn0
  have ax:=hide (aa.out.trans (U.below aa.out.size fun b hb (e:b=w2.heap.size)=>by omega))
  have ay:(loadCellsFrom ⟨w2.heap.size,0,none⟩ 0 5 #[]).run Tryz.prog wF=.ok _ wF:=Ah a2 rfl
  unfold CK at aD
  clear O a2 U
  go_wp2_with fail
  refine bodyPost_ret (v:=.tuple #[.agg BQ,.int .i64 I]) (by simp [results,Tryz.results11,go_sem,ay]) rfl ⟨ax.out,.inl ⟨W.out,rfl⟩⟩
 have bp:(I != 0)=false:=by simp [O]
 have W:=hide O
 clear O
 have al:=hide (al.out W.out)
 have a5:=hide (ao.out.at (Ap w4))
 have bg:=Ah a5.out.b2 aR.out
 have bj:=Ah a5.out.b3 aS.out
 have b6:=a5.out.b2.cell
 have b5:w4.drew.cell? ⟨w.heap.size,2,none⟩=some (.slice A1 p.states.length c1):=by rw [a5.out.b2.cell]; exact bn.out
 have ar:=hide (aa.out.trans ((Ap w4).mono aa.out.size))
 clear b6
 go_wp2_with fail
 refine Reg.cC [0,0,3,0,8,24,63,127,255] [0,1,3,4,5,2,6,7,8] ?_
 refine Reg.rest_walk' [0,1,3,4,5] [2,6,7,8] rfl (by kernel_rfl) ?_
 intro Qf z
 go_wp2_with fail
 first | refine z _ _ ?_ | skip
 try clear z
 refine Reg.rest_act' 2 [6,7,8] [4] rfl (by kernel_rfl) ?_
 intro Qf z
 simp only [gT,gS,gZ]
 go_wp2_with fail
 refine Calls.ret (b9.out W.out _ a5 ar.out) ?_
 rintro r w5 ⟨a6,t,ac,hC,hn,hD⟩
 have aO:=hD w5 (Ac.refl _ _)
 obtain⟨A8,c8,A9,c9,rfl,-,-⟩:=hD w5 (Ac.refl _ _)
 go_wp2_with fail
 first | refine z _ _ ⟨Reg.same_below a6 [4] rfl,?_⟩ | refine⟨Reg.same_below a6 [4] rfl,?_⟩
 try clear z
 have au:=hide (ar.out.trans (a6.mono ar.out.size))
 have aN:=hide ((Z.out.below (Ap w4)).below a6)
 have aY:=Mk (L:=p.states.length) aO hC.ok al.out (by omega)
 have aX:=hide hC
 have bl:=hide hn
 clear a6 hC hn hD aO b1 b7 bk bf bi bg bj b5
 refine Reg.rest_act' 6 [7,8] [] rfl (by kernel_rfl) ?_
 intro Qf z
 simp only [gT,gS,gZ]
 go_wp2_with fail
 refine Calls.ret aY ?_
 rintro d w6 ⟨ae,G⟩
 obtain⟨aE,aH,aF,aJ,aG,aK,rfl,-,-,-,-⟩:=G w6 (Ac.refl _ _)
 go_wp2_with fail
 first | refine z _ _ ⟨Reg.nm,?_⟩ | refine⟨Reg.nm,?_⟩
 try clear z
 have a7:=hide (aN.out.below ae)
 have aZ:=hide (au.out.trans (ae.mono au.out.size))
 have bY:=a7.out.frozen
 have c0:=a7.out.lt
 have bX:=a7.out.cell
 have cd:=ae.size
 have cc:=au.out.size
 have ca:=aN.out.lt
 clear ae
 generalize (AG p.states.length t ac).letters=x0 at G ⊢
 generalize (AG p.states.length t ac).states=x1 at G ⊢
 generalize (AG p.states.length t ac).start.length=n1 at G ⊢
 generalize (AG p.states.length t ac).accept.length=n2 at G ⊢
 generalize (AG p.states.length t ac).edges.length=n3 at G ⊢
 obtain⟨wF,aD,a2,U⟩:=Dn a7.out (.int .i64 x0) (.int .i64 x1) (.slice aE n1 aH) (.slice aF n2 aJ) (.slice aG n3 aK)
 have ay:(loadCellsFrom ⟨w2.heap.size,0,none⟩ 0 5 #[]).run Tryz.prog wF=.ok _ wF:=Ah a2 rfl
 have ax:=hide (aZ.out.trans (U.below (by omega) fun b hb (e:b=w2.heap.size)=>by omega))
 have b8:=hide (fun w'' (hk:Ac wF w'' (fun k=>k<w.heap.size))=>G w'' ((U.mono (fun b _ (e:b=w2.heap.size)=>by omega)).trans hk (fun b _ (e:b<w.heap.size)=>by omega)))
 unfold CK at aD
 clear G a2 U
 refine Reg.rest_walk' [7,8] [] rfl (by kernel_rfl) ?_
 intro Qf z
 go_wp2_with fail
 first | refine z _ _ ?_ | skip
 try clear z
 refine Reg.rest_end ?_
 go_wp2_with fail
 refine bodyPost_ret (v:=.tuple #[.agg #[.int .i64 x0,.int .i64 x1,.slice aE n1 aH,.slice aF n2 aJ,.slice aG n3 aK],.int .i64 0]) (by simp [results,Tryz.results11,go_sem,ay]) rfl ⟨ax.out,.inr ⟨W.out,t,ac,_,aX.out,bl.out,rfl,b8.out⟩⟩
end Go.Proofs.YtfcfpoemojjglaaGreatDoor
