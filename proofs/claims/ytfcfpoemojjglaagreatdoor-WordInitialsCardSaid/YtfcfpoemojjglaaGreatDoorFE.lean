/-
  Part FE of a proof.
-/
import Derived.Test.YtfcfpoemojjglaaGreatDoorPA
import Derived.Test.YtfcfpoemojjglaaGreatDoorFD
import Derived.Test.YtfcfpoemojjglaaGreatDoorCY
import Derived.Test.YtfcfpoemojjglaaGreatDoorEH
import Derived.Test.YtfcfpoemojjglaaGreatDoorFB
import Derived.Test.YtfcfpoemojjglaaGreatDoorEB
import Derived.Test.YtfcfpoemojjglaaGreatDoorPM
import Derived.Test.YtfcfpoemojjglaaGreatDoorCX
set_option maxHeartbeats 16000000
set_option maxRecDepth 100000
set_option linter.unusedVariables false
set_option linter.unusedSimpArgs false
namespace Go.Proofs.YtfcfpoemojjglaaGreatDoor
open Go.RowKit
open K (Am AO Ay Bh PQX Aj)
attribute [-go_sem] loadCellsFrom
set_option maxHeartbeats 16000000
set_option maxRecDepth 100000
def Ew (w:World) (ec:Int) (L:Nat) (Λ:List Nat→Bool) (v:Value) (w':World):Prop:=
 Below w.heap.size w w'∧((ec≠0∧v=.tuple #[.agg BU,.int .i64 ec])∨
  (ec=0∧∃t ac d,BR L t ac Λ∧ac.length≤1024∧v=.tuple #[d,.int .i64 0]∧∀w'',Ac w' w'' (fun k=>k<w.heap.size)→Bk w'' w''.heap.size d (Be L t ac)))
def Lc:WA:=⟨0,0,[],[],[]⟩
theorem Ld (w:World):Bk w w.heap.size (.agg BU) Lc:=⟨none,0,none,0,none,0,rfl,Sl.nil rfl,Sl.nil rfl,Sl.nil rfl,Nat.le_refl _⟩
theorem Ew.get {w w':World} {z:Int} {L:Nat} {Λ:List Nat→Bool} {r:Value} (h:Ew w z L Λ r w'):Below w.heap.size w w'∧∃(M:WA) (U:Value),r=.tuple #[U,.int .i64 z]∧Bk w' w'.heap.size U M∧
  (∀(w2 y:World) (E:Value),Ew w2 z L Λ E y→Below w2.heap.size w2 y∧∃O,E=.tuple #[O,.int .i64 z]∧Bk y y.heap.size O M)∧
  (z=0→∃t ac,BR L t ac Λ∧ac.length≤1024∧M=Be L t ac):=by
 obtain⟨W,⟨C,rfl⟩ | ⟨C,t,ac,d,V,a4,rfl,hI⟩⟩:=h
 ·refine⟨W,Lc,_,rfl,Ld _,fun w2 y E I=>?_,fun e=>absurd e C⟩
  obtain⟨J,⟨-,rfl⟩ | ⟨G,-⟩⟩:=I
  ·exact⟨J,_,rfl,Ld _⟩
  ·exact absurd G C
 ·subst C
  refine⟨W,Be L t ac,d,rfl,hI w' (Ac.refl _ _),fun w2 y E I=>?_,fun _=>⟨t,ac,V,a4,rfl⟩⟩
  obtain⟨J,⟨G,-⟩ | ⟨-,t',a5,Z,a2,-,rfl,a3⟩⟩:=I
  ·exact absurd rfl G
  ·obtain⟨rfl,rfl⟩:=a2.unique V fun _ _=>rfl
   exact⟨J,Z,rfl,a3 y (Ac.refl _ _)⟩
theorem IO {p:Am} {q:AO} (h:K.checkW K.nameOK p q=0):K.propE K.nameOK p q=0∧(p.topo=2∨p.topo=3)∧q.kind=1:=by
 unfold K.checkW at h
 obtain⟨z,C⟩:=Bg.1 h
 have y:=(GT (by decide)).1 C
 simp only [Bool.or_eq_false_iff,Bool.not_eq_false',Bool.or_eq_true,beq_iff_eq,bne_eq_false_iff_eq] at y
 exact⟨z,y.1,y.2⟩
theorem G5 {p:Am} {q:AO} (h:K.checkW K.nameOK p q=0):Gb p q:=Px (IO h).1
theorem Py (L:Nat) (f s:List Int):¬(Ce L f s).nf.Large 4:=by
 rintro⟨i,l,h,G⟩
 have z:∀s∈l,s.length=2:=fun s C=>Tv (I:=fun s:List Bool=>s.length=2) (by rfl) (fun s x _ _=>by rw [NF.after_len]; exact WA.nf_n _) h C
 have:=KR l [[false,false],[false,true],[true,false],[true,true]] h.inv.nodup fun v E=>by
  have y:=z v E
  match v,y with
  | [a,b],_=>cases a <;> cases b <;> simp
 simp at this
 omega
theorem Li {w:World} {cs ds:List Value} {p:Am} {q:AO} (h:Ay w w.heap.size cs p) (h':Bh w w.heap.size ds q) (ag:p.Small) (ah:q.Small) (hT:K.SpOK w) (hP:BW w):
  Calls Tryz.prog 11 #[.agg cs.toArray,.agg ds.toArray] w (Ret fun r w'=>Ew w (K.checkW K.nameOK p q) p.states.length (Dw (B9 p q) (Ba p q)) r w'):=by
 obtain⟨B1,d1,B2,d2,B3,d3,B4,d4,aC,-⟩:=h'.cells
 obtain⟨A1,c1,A2,c2,A3,c3,A4,c4,A5,c5,A6,c6,A7,c7,aB,-,-,aQ,-⟩:=h.cells
 obtain⟨w1,ce,av,aL,ba⟩:=Ag w cs.toArray 27
 obtain⟨w2,cf,aw,aM,bb⟩:=Ag w1 ds.toArray 30
 obtain⟨w3,cg,ab,ak,bd⟩:=Ag w2 BU 35
 have a9:=av.trans (aw.mono av.size)
 have J:=hide (a9.trans (ab.mono a9.size))
 have a8:=hide (show PQX w3 w.heap.size w1.heap.size cs.toArray ds.toArray p q from⟨h.keep (fun _ hp=>J.out.cell hp) J.out.size,h'.keep (fun _ hp=>J.out.cell hp) J.out.size,(aL.below aw).below ab,aM.below ab,hT.below J.out⟩)
 have aW:=hide ak
 have bZ:=ak.lt
 have cb:=a9.size
 generalize bo:cs.toArray=C at*
 generalize bq:ds.toArray=E at*
 obtain⟨I,V⟩:∃e,Hid (K.checkW K.nameOK p q=e):=⟨_,rfl⟩
 have b4:Hid (∀y,Hid (PQX y w.heap.size w1.heap.size C E p q)→Calls Tryz.prog 32 #[.agg C,.agg E] y (Ret fun v w'=>v=.int .i64 I∧Below y.heap.size y w')):=hide (fun y M=>by
  rw [←V.out]
  exact K.check_any (cs:=C.toList) (ds:=E.toList) M.out.pr M.out.qr ag ah M.out.tab)
 have aR:=hide aB
 have aS:=hide aC
 have bn:=hide aQ
 have be:=Aj a8.out.b2 aB
 have bh:=Aj a8.out.b3 aC
 have bW:=hide hP
 have b9:Hid (I=0→∀y,Hid (PQX y w.heap.size w1.heap.size C E p q)→Below w.heap.size w y→Calls Tryz.prog 33 #[.agg C,.agg E] y (Ret fun r w'=>Below y.heap.size y w'∧∃t ac,BR p.states.length t ac (Dw (B9 p q) (Ba p q))∧ac.length≤1024∧∀w'',Ac w' w'' (fun k=>k<y.heap.size)→Bs w'' w''.heap.size r t ac)):=hide (fun he y M b0=>by
  have bm:=G5 (V.out.trans he)
  exact by
   have br:=fun(y:World) (C E:Array Value) (ga gb:Nat) (hX:PQX y ga gb C E p q)=>SA (cs:=C.toList) (ds:=E.toList) (w:=y) hX.pr hX.qr ag ah hX.tab (fun wy bs bt bU bV hY=>by
    have:=K.propValidate_any (cs:=bs.toList) (ds:=bt.toList) hY.pr hY.qr ag ah hY.tab
    rw [(IO (V.out.trans he)).1] at this
    exact this)
   refine Calls.ret (Pw (cs:=C.toList) (ds:=E.toList) M.out.pr M.out.qr bm M.out.tab (hP.below b0) br) ?_
   rintro r w' ⟨hb,t,ac,hC,hn,hD⟩
   exact⟨hb,t,ac,hC,by omega,hD⟩)
 rw [V.out]
 have al:Hid (I=0→p.states.length≤8):=hide (fun he=>by have:=(G5 (V.out.trans he)).L.2; omega)
 clear h h' av aw ab a9 aL aM ak ba bb bd bo bq hT hP aB aC aQ ag ah V
 go_enter Tryz.func11,Tryz.ntmps11
 go_wp2_with fail
 refine Calls.ret (b4.out _ a8) ?_
 rintro v w4 ⟨rfl,ad⟩
 have ao:=hide (a8.out.at ad)
 have aa:=hide (J.out.trans (ad.mono J.out.size))
 have Z:=hide (aW.out.below ad)
 have bf:=Aj ao.out.b2 aR.out
 have bi:=Aj ao.out.b3 aS.out
 have bk:=Z.out.lt
 have b7:=Z.out.frozen
 have b1:=Z.out.cell
 clear ad be bh
 by_cases O:I=0
 case neg=>
  have bp:(I != 0)=true:=by simp [O]
  have W:=hide O
  obtain⟨wF,aD,a2,U⟩:=Dk Z.out (.int .i64 0) (.int .i64 0) sn0 sn0 sn0
  have ax:=hide (aa.out.trans (U.below aa.out.size fun b hb (e:b=w2.heap.size)=>by omega))
  have ay:(loadCellsFrom ⟨w2.heap.size,0,none⟩ 0 5 #[]).run Tryz.prog wF=.ok _ wF:=Aj a2 rfl
  unfold CK at aD
  clear O a2 U
  go_wp2_with fail
  refine bodyPost_ret (v:=.tuple #[.agg BU,.int .i64 I]) (by simp [results,Tryz.results11,go_sem,ay]) rfl ⟨ax.out,.inl ⟨W.out,rfl⟩⟩
 have bp:(I != 0)=false:=by simp [O]
 have W:=hide O
 clear O
 have al:=hide (al.out W.out)
 have a5:=hide (ao.out.at (As w4))
 have bg:=Aj a5.out.b2 aR.out
 have bj:=Aj a5.out.b3 aS.out
 have b6:=a5.out.b2.cell
 have b5:w4.drew.cell? ⟨w.heap.size,2,none⟩=some (.slice A1 p.states.length c1):=by rw [a5.out.b2.cell]; exact bn.out
 have ar:=hide (aa.out.trans ((As w4).mono aa.out.size))
 clear b6
 go_wp2_with fail
 refine Reg.cC [0,0,3,0,8,24,63,127,255] [0,1,3,4,5,2,6,7,8] ?_
 refine Reg.rest_walk' [0,1,3,4,5] [2,6,7,8] rfl (by kernel_rfl) ?_
 intro Qf z
 go_wp2_with fail
 first | refine z _ _ ?_ | skip
 try clear z
 refine Reg.rest_act' 2 [6,7,8] [4] rfl (by kernel_rfl) ?_
 intro Qf z
 simp only [gT,gS,gZ]
 go_wp2_with fail
 refine Calls.ret (b9.out W.out _ a5 ar.out) ?_
 rintro r w5 ⟨a6,t,ac,hC,hn,hD⟩
 have aO:=hD w5 (Ac.refl _ _)
 obtain⟨A8,c8,A9,c9,rfl,-,-⟩:=hD w5 (Ac.refl _ _)
 go_wp2_with fail
 first | refine z _ _ ⟨Reg.same_below a6 [4] rfl,?_⟩ | refine⟨Reg.same_below a6 [4] rfl,?_⟩
 try clear z
 have au:=hide (ar.out.trans (a6.mono ar.out.size))
 have aN:=hide ((Z.out.below (As w4)).below a6)
 have aY:=LK (L:=p.states.length) aO hC.ok al.out (by omega)
 have aX:=hide hC
 have bl:=hide hn
 clear a6 hC hn hD aO b1 b7 bk bf bi bg bj b5
 refine Reg.rest_act' 6 [7,8] [] rfl (by kernel_rfl) ?_
 intro Qf z
 simp only [gT,gS,gZ]
 go_wp2_with fail
 refine Calls.ret aY ?_
 rintro d w6 ⟨ae,G⟩
 obtain⟨aE,aH,aF,aJ,aG,aK,rfl,-,-,-,-⟩:=G w6 (Ac.refl _ _)
 go_wp2_with fail
 first | refine z _ _ ⟨Reg.nm,?_⟩ | refine⟨Reg.nm,?_⟩
 try clear z
 have a7:=hide (aN.out.below ae)
 have aZ:=hide (au.out.trans (ae.mono au.out.size))
 have bY:=a7.out.frozen
 have c0:=a7.out.lt
 have bX:=a7.out.cell
 have cd:=ae.size
 have cc:=au.out.size
 have ca:=aN.out.lt
 clear ae
 generalize (Be p.states.length t ac).letters=x0 at G ⊢
 generalize (Be p.states.length t ac).states=x1 at G ⊢
 generalize (Be p.states.length t ac).start.length=n1 at G ⊢
 generalize (Be p.states.length t ac).accept.length=n2 at G ⊢
 generalize (Be p.states.length t ac).edges.length=n3 at G ⊢
 obtain⟨wF,aD,a2,U⟩:=Dk a7.out (.int .i64 x0) (.int .i64 x1) (.slice aE n1 aH) (.slice aF n2 aJ) (.slice aG n3 aK)
 have ay:(loadCellsFrom ⟨w2.heap.size,0,none⟩ 0 5 #[]).run Tryz.prog wF=.ok _ wF:=Aj a2 rfl
 have ax:=hide (aZ.out.trans (U.below (by omega) fun b hb (e:b=w2.heap.size)=>by omega))
 have b8:=hide (fun w'' (hk:Ac wF w'' (fun k=>k<w.heap.size))=>G w'' ((U.mono (fun b _ (e:b=w2.heap.size)=>by omega)).trans hk (fun b _ (e:b<w.heap.size)=>by omega)))
 unfold CK at aD
 clear G a2 U
 refine Reg.rest_walk' [7,8] [] rfl (by kernel_rfl) ?_
 intro Qf z
 go_wp2_with fail
 first | refine z _ _ ?_ | skip
 try clear z
 refine Reg.rest_end ?_
 go_wp2_with fail
 refine bodyPost_ret (v:=.tuple #[.agg #[.int .i64 x0,.int .i64 x1,.slice aE n1 aH,.slice aF n2 aJ,.slice aG n3 aK],.int .i64 0]) (by simp [results,Tryz.results11,go_sem,ay]) rfl ⟨ax.out,.inr ⟨W.out,t,ac,_,aX.out,bl.out,rfl,b8.out⟩⟩
theorem QU {w:World} {cs ds:List Value} {p:Am} {q:AO} (h:Ay w w.heap.size cs p) (h':Bh w w.heap.size ds q) (am:p.Small) (an:q.Small) (hT:K.SpOK w) (hP:BW w):
  Calls Tryz.prog 12 #[.agg cs.toArray,.agg ds.toArray] w (Ret fun r w'=>Ew w (K.checkW K.nameOK p q) p.states.length (Dw (B9 p q) (Ba p q)) r w'):=by
 obtain⟨B1,d1,B2,d2,B3,d3,B4,d4,al,-⟩:=h'.cells
 obtain⟨A1,c1,A2,c2,A3,c3,A4,c4,A5,c5,A6,c6,A7,c7,ak,-,-,aB,-⟩:=h.cells
 obtain⟨w1,bD,ae,ax,aM⟩:=Ag w cs.toArray 27
 obtain⟨w2,bE,af,ay,aN⟩:=Ag w1 ds.toArray 30
 obtain⟨w3,bF,a5,aa,aO⟩:=Ag w2 BU 35
 have a4:=ae.trans (af.mono ae.size)
 have E:=hide (a4.trans (a5.mono a4.size))
 have a3:=hide (show PQX w3 w.heap.size w1.heap.size cs.toArray ds.toArray p q from⟨h.keep (fun _ hp=>E.out.cell hp) E.out.size,h'.keep (fun _ hp=>E.out.cell hp) E.out.size,(ax.below af).below a5,ay.below a5,hT.below E.out⟩)
 have aC:=hide aa
 have bv:=aa.lt
 have bA:=a4.size
 generalize aW:cs.toArray=pc at*
 generalize aZ:ds.toArray=qc at*
 obtain⟨G,a8⟩:∃e,Hid (K.checkW K.nameOK p q=e):=⟨_,rfl⟩
 have aG:Hid (∀y,Hid (PQX y w.heap.size w1.heap.size pc qc p q)→Calls Tryz.prog 35 #[.agg pc,.agg qc] y (Ret fun v w'=>v=.int .i64 G∧Below y.heap.size y w')):=hide (fun y U=>by
  rw [←a8.out]
  exact K.refCheck_any (cs:=pc.toList) (ds:=qc.toList) U.out.pr U.out.qr am an U.out.tab)
 have aX:=hide ak
 have b0:=hide al
 have bz:=hide aB
 have aP:=Aj a3.out.b2 ak
 have aR:=Aj a3.out.b3 al
 have br:=hide hP
 have aL:Hid (G=0→∀y,Hid (PQX y w.heap.size w1.heap.size pc qc p q)→Below w.heap.size w y→Calls Tryz.prog 36 #[.agg pc,.agg qc] y (Ret fun r w'=>Below y.heap.size y w'∧∃t ac,BR p.states.length t ac (Dw (B9 p q) (Ba p q))∧ac.length≤1024∧∀w'',Ac w' w'' (fun k=>k<y.heap.size)→Bk w'' w''.heap.size r (Be p.states.length t ac))):=hide (fun he y U bs=>by
  have aV:=G5 (a8.out.trans he)
  exact by
   refine Calls.ret (QT (cs:=pc.toList) (ds:=qc.toList) U.out.pr U.out.qr aV am an (Py _ _ _)) ?_
   rintro r w' ⟨hb,t,ac,Z,hn,hI⟩
   exact⟨hb,t,ac,Z.congr (L:=p.states.length) fun z hz=>(Ls z hz).symm,by omega,hI⟩)
 rw [a8.out]
 clear h h' ae af a5 a4 ax ay aa aM aN aO aW aZ hT hP ak al aB am an a8
 go_enter Tryz.func12,Tryz.ntmps12
 go_wp2_with fail
 refine Calls.ret (aG.out _ a3) ?_
 rintro v w4 ⟨rfl,a6⟩
 have ab:=hide (a3.out.at a6)
 have O:=hide (E.out.trans (a6.mono E.out.size))
 have J:=hide (aC.out.below a6)
 have aQ:=Aj ab.out.b2 aX.out
 have aS:=Aj ab.out.b3 b0.out
 have aT:=J.out.lt
 have aJ:=J.out.frozen
 have aF:=J.out.cell
 clear a6 aP aR
 by_cases I:G=0
 case neg=>
  have aY:(G != 0)=true:=by simp [I]
  have W:=hide I
  obtain⟨wF,ao,V,M⟩:=Dk J.out (.int .i64 0) (.int .i64 0) sn0 sn0 sn0
  have ag:=hide (O.out.trans (M.below O.out.size fun b hb (e:b=w2.heap.size)=>by omega))
  have ah:(loadCellsFrom ⟨w2.heap.size,0,none⟩ 0 5 #[]).run Tryz.prog wF=.ok _ wF:=Aj V rfl
  unfold CK at ao
  clear I V M
  go_wp2_with fail
  refine bodyPost_ret (v:=.tuple #[.agg BU,.int .i64 G]) (by simp [results,Tryz.results12,go_sem,ah]) rfl ⟨ag.out,.inl ⟨W.out,rfl⟩⟩
 have aY:(G != 0)=false:=by simp [I]
 have W:=hide I
 clear I
 go_wp2_with fail
 refine Calls.ret (aL.out W.out _ ab O.out) ?_
 rintro r w6 ⟨a7,t,ac,Z,hn,C⟩
 obtain⟨ap,au,aq,av,ar,aw,rfl,-,-,-,-⟩:=C w6 (Ac.refl _ _)
 have aD:=hide Z
 have aU:=hide hn
 have a2:=hide (J.out.below a7)
 have aE:=hide (O.out.trans (a7.mono O.out.size))
 have bu:=a2.out.frozen
 have bw:=a2.out.lt
 have bt:=a2.out.cell
 have bC:=a7.size
 have bB:=O.out.size
 have bx:=J.out.lt
 clear a7 Z hn aF aJ aT aQ aS
 generalize (Be p.states.length t ac).letters=x0 at C ⊢
 generalize (Be p.states.length t ac).states=x1 at C ⊢
 generalize (Be p.states.length t ac).start.length=n1 at C ⊢
 generalize (Be p.states.length t ac).accept.length=n2 at C ⊢
 generalize (Be p.states.length t ac).edges.length=n3 at C ⊢
 obtain⟨wF,ao,V,M⟩:=Dk a2.out (.int .i64 x0) (.int .i64 x1) (.slice ap n1 au) (.slice aq n2 av) (.slice ar n3 aw)
 have ah:(loadCellsFrom ⟨w2.heap.size,0,none⟩ 0 5 #[]).run Tryz.prog wF=.ok _ wF:=Aj V rfl
 have ag:=hide (aE.out.trans (M.below (by omega) fun b hb (e:b=w2.heap.size)=>by omega))
 have aK:=hide (fun w'' (hk:Ac wF w'' (fun k=>k<w.heap.size))=>C w'' ((M.mono (fun b _ (e:b=w2.heap.size)=>by omega)).trans hk (fun b _ (e:b<w.heap.size)=>by omega)))
 unfold CK at ao
 clear C V M
 go_wp2_with fail
 refine bodyPost_ret (v:=.tuple #[.agg #[.int .i64 x0,.int .i64 x1,.slice ap n1 au,.slice aq n2 av,.slice ar n3 aw],.int .i64 0]) (by simp [results,Tryz.results12,go_sem,ah]) rfl ⟨ag.out,.inr ⟨W.out,t,ac,_,aD.out,aU.out,rfl,aK.out⟩⟩
end Go.Proofs.YtfcfpoemojjglaaGreatDoor
namespace Go.Proofs.YtfcfpoemojjglaaGreatDoor
open Go.RowKit
open K (Am AO Ay Bh PQX Aj Ee ID)
attribute [-go_sem] loadCellsFrom
set_option maxHeartbeats 16000000
set_option maxRecDepth 100000
theorem PR {w:World} {cs ds:List Value} {p:Am} {q:AO} (h:Ay w w.heap.size cs p) (h':Bh w w.heap.size ds q) (hf:p.Fits) (hg:q.Fits) (hT:K.SpOK w) (hP:BW w):
  Calls Tryz.prog 3 #[.agg cs.toArray,.agg ds.toArray] w (Ret fun v w'=>v=.bool true∧Below w.heap.size w w'):=by
 have af:=h.rules_at.1
 obtain⟨B1,d1,B2,d2,B3,d3,B4,d4,ag,-⟩:=h'.cells
 obtain⟨w1,bs,G,ai,aQ⟩:=Ag w cs.toArray 27
 obtain⟨w2,bt,a9,aj,aR⟩:=Ag w1 ds.toArray 30
 have z:=hide (G.trans (a9.mono G.size))
 have M:=hide (show PQX w2 w.heap.size w1.heap.size cs.toArray ds.toArray p q from⟨h.keep (fun _ O=>z.out.cell O) z.out.size,h'.keep (fun _ O=>z.out.cell O) z.out.size,ai.below a9,aj,hT.below z.out⟩)
 generalize cs.toArray=pc at*
 generalize ds.toArray=qc at*
 have az:Hid (Calls Tryz.prog 9 #[.agg pc,.agg qc] w2 (Ret fun v w'=>Ee v (p.Small∧q.Small)∧Below w2.heap.size w2 w')):=hide (ID (cs:=pc.toList) (ds:=qc.toList) M.out.pr M.out.qr hf hg)
 have aD:=hide af
 have aE:=hide ag
 have aS:=Aj M.out.b2 af
 have aV:=Aj M.out.b3 ag
 have Z:=hide hP
 clear h h' G a9 ai aj aQ aR hf hg af ag hT hP
 go_enter Tryz.func3,Tryz.ntmps3
 go_wp2_with fail
 refine Calls.ret az.out ?_
 rintro v w3 ⟨⟨b1,rfl,G⟩,aa⟩
 have aP:=hide G
 have a2:=hide (M.out.at aa)
 have E:=hide (z.out.trans (aa.mono z.out.size))
 clear G aa aS aV az
 cases b1
 case true=>
  go_wp2_with fail
  refine Calls.ret (Jx (Z.out.below E.out)) ?_
  rintro v w4 ⟨rfl,I⟩
  have aN:=hide (E.out.trans (I.mono E.out.size))
  clear I
  go_wp2_with fail
  go_ret
  exact⟨rfl,aN.out⟩
 have a3:=hide (aP.out rfl)
 obtain⟨W,ae⟩:∃e,Hid (K.checkW K.nameOK p q=e):=⟨_,rfl⟩
 have b4:Hid (∀y,Hid (PQX y w.heap.size w1.heap.size pc qc p q)→Below w.heap.size w y→Calls Tryz.prog 11 #[.agg pc,.agg qc] y (Ret fun v w'=>Ew y W p.states.length (Dw (B9 p q) (Ba p q)) v w')):=hide (fun y C ad=>by
  rw [←ae.out]
  exact Li (cs:=pc.toList) (ds:=qc.toList) C.out.pr C.out.qr a3.out.1 a3.out.2 C.out.tab (Z.out.below ad))
 have b5:Hid (∀y,Hid (PQX y w.heap.size w1.heap.size pc qc p q)→Below w.heap.size w y→Calls Tryz.prog 12 #[.agg pc,.agg qc] y (Ret fun v w'=>Ew y W p.states.length (Dw (B9 p q) (Ba p q)) v w')):=hide (fun y C ad=>by
  rw [←ae.out]
  exact QU (cs:=pc.toList) (ds:=qc.toList) C.out.pr C.out.qr a3.out.1 a3.out.2 C.out.tab (Z.out.below ad))
 have aT:=Aj a2.out.b2 aD.out
 have aW:=Aj a2.out.b3 aE.out
 have br:(W==W)=true:=by simp
 clear ae
 go_wp2_with fail
 refine Calls.ret (b4.out _ a2 E.out) ?_
 intro r w4 U
 obtain⟨I,mm,dv,rfl,am,aC,-⟩:=U.get
 obtain⟨E1,h1,E2,h2,E3,h3,w5,rfl,bu,av,ak,an⟩:=JB am
 have a4:=I.trans (av.mono I.size)
 have a7:=hide (E.out.trans (a4.mono E.out.size))
 have a6:=hide (a2.out.at a4)
 have aU:=Aj a6.out.b2 aD.out
 have aX:=Aj a6.out.b3 aE.out
 have b0:=hide aC
 have aK:=hide ak
 have aM:=hide an
 clear U I am aC av ak an a4 aT aW
 go_wp2_with fail
 refine Calls.ret (b5.out _ a6 a7.out) ?_
 intro r w6 U
 obtain⟨ab,d2,rfl,ao⟩:=b0.out _ _ _ U
 obtain⟨G1,g1,G2,g2,G3,g3,V,rfl,bv,aw,al,ap⟩:=JB ao
 have J:=ab.trans (aw.mono ab.size)
 have au:=hide (a7.out.trans (J.mono a7.out.size))
 have aJ:=hide (aK.out.below J)
 have aL:=hide al
 have aY:(loadCellsFrom ⟨w4.heap.size,0,none⟩ 0 5 #[]).run Tryz.prog V=.ok _ V:=Aj aJ.out rfl
 have aZ:(loadCellsFrom ⟨w6.heap.size,0,none⟩ 0 5 #[]).run Tryz.prog V=.ok _ V:=Aj aL.out rfl
 have ah:=RS (aM.out.keep (w':=V) (fun p O=>J.cell O) J.size) ap
 rw [decide_eq_true (rfl:mm=mm)] at ah
 clear U ab ao aw al ap J aU aX
 go_wp2_with fail
 refine Calls.ret ah ?_
 rintro r w8 ⟨rfl,ax⟩
 have a8:=hide (au.out.trans (ax.mono au.out.size))
 clear ax ah aY aZ
 go_wp2_with fail
 refine Calls.ret (Jx (Z.out.below a8.out)) ?_
 rintro r w9 ⟨rfl,ay⟩
 have aO:=hide (a8.out.trans (ay.mono a8.out.size))
 clear ay
 go_wp2_with fail
 go_ret
 exact⟨rfl,aO.out⟩
end Go.Proofs.YtfcfpoemojjglaaGreatDoor
