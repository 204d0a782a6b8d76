/-
  Part HF of a proof.
-/
import Derived.Test.YtfcfpoemojjglaaGreatDoorPA
import Derived.Test.YtfcfpoemojjglaaGreatDoorFB
import Derived.Test.YtfcfpoemojjglaaGreatDoorCW
import Derived.Test.YtfcfpoemojjglaaGreatDoorPJ
import Derived.Test.YtfcfpoemojjglaaGreatDoorPI
import Derived.Test.YtfcfpoemojjglaaGreatDoorHA
import Derived.Test.YtfcfpoemojjglaaGreatDoorCJ
import Derived.Test.YtfcfpoemojjglaaGreatDoorHC
import Derived.Test.YtfcfpoemojjglaaGreatDoorHD
set_option maxHeartbeats 16000000
set_option maxRecDepth 100000
set_option linter.unusedVariables false
set_option linter.unusedSimpArgs false
namespace Go.Proofs.YtfcfpoemojjglaaGreatDoor
open Go.RowKit
open K (Am AB At Ba PQX Ah)
attribute [-go_sem] loadCellsFrom
set_option maxHeartbeats 16000000
set_option maxRecDepth 100000
def Ej (w:World) (ec:Int) (L:Nat) (Λ:List Nat→Bool) (v:Value) (w':World):Prop:=
 Below w.heap.size w w'∧((ec≠0∧v=.tuple #[.agg BQ,.int .i64 ec])∨
  (ec=0∧∃t ac d,BH L t ac Λ∧ac.length≤1024∧v=.tuple #[d,.int .i64 0]∧∀w'',Ac w' w'' (fun k=>k<w.heap.size)→Bj w'' w''.heap.size d (AG L t ac)))
def LK:WA:=⟨0,0,[],[],[]⟩
theorem LM (w:World):Bj w w.heap.size (.agg BQ) LK:=⟨none,0,none,0,none,0,rfl,Sl.nil rfl,Sl.nil rfl,Sl.nil rfl,Nat.le_refl _⟩
theorem Ej.get {w w':World} {z:Int} {L:Nat} {Λ:List Nat→Bool} {r:Value} (h:Ej w z L Λ r w'):Below w.heap.size w w'∧∃(J:WA) (O:Value),r=.tuple #[O,.int .i64 z]∧Bj w' w'.heap.size O J∧
  (∀(w2 y:World) (E:Value),Ej w2 z L Λ E y→Below w2.heap.size w2 y∧∃M,E=.tuple #[M,.int .i64 z]∧Bj y y.heap.size M J)∧
  (z=0→∃t ac,BH L t ac Λ∧ac.length≤1024∧J=AG L t ac):=by
 obtain⟨V,⟨C,rfl⟩ | ⟨C,t,ac,d,U,a3,rfl,hI⟩⟩:=h
 ·refine⟨V,LK,_,rfl,LM _,fun w2 y E G=>?_,fun e=>absurd e C⟩
  obtain⟨I,⟨-,rfl⟩ | ⟨g1,-⟩⟩:=G
  ·exact⟨I,_,rfl,LM _⟩
  ·exact absurd g1 C
 ·subst C
  refine⟨V,AG L t ac,d,rfl,hI w' (Ac.refl _ _),fun w2 y E G=>?_,fun _=>⟨t,ac,U,a3,rfl⟩⟩
  obtain⟨I,⟨g1,-⟩ | ⟨-,t',a4,W,Z,-,rfl,a2⟩⟩:=G
  ·exact absurd rfl g1
  ·obtain⟨rfl,rfl⟩:=Z.unique U fun _ _=>rfl
   exact⟨I,W,rfl,a2 y (Ac.refl _ _)⟩
theorem Hf {p:Am} {q:AB} (h:K.checkW K.nameOK p q=0):K.propE K.nameOK p q=0∧(p.topo=2∨p.topo=3)∧q.kind=1:=by
 unfold K.checkW at h
 obtain⟨z,C⟩:=AY.1 h
 have y:=(Gg (by decide)).1 C
 simp only [Bool.or_eq_false_iff,Bool.not_eq_false',Bool.or_eq_true,beq_iff_eq,bne_eq_false_iff_eq] at y
 exact⟨z,y.1,y.2⟩
theorem FK {p:Am} {q:AB} (h:K.checkW K.nameOK p q=0):Gi p q:=Qt (Hf h).1
end Go.Proofs.YtfcfpoemojjglaaGreatDoor
namespace Go.Proofs.YtfcfpoemojjglaaGreatDoor
open Go.RowKit
open K (Am AB D9 At Ba Db BR PQX Ah)
attribute [-go_sem] loadCellsFrom
set_option maxHeartbeats 16000000
set_option maxRecDepth 100000
def UH (s:Sc3) (k:Nat):Nat:=match k with
 | 0=>s.c0
 | 1=>s.c1
 | _=>s.c2
theorem Vd {bad:List (List Int×Nat)} (E:bad.length≤3) (s:Sc3):((([s.c0,s.c1,s.c2].take bad.length).zip bad).all fun c=>decide (c.2.2≤c.1))=true↔∀j d,bad[j]?=some d→d.2≤UH s j:=by
 rcases bad with _ | ⟨a,_ | ⟨b,_ | ⟨c,_ | ⟨d,l⟩⟩⟩⟩
 ·simp
 ·constructor
  ·intro h j d hd
   match j with
   | 0=>simp at h hd; subst hd; exact h
   | j+1=>simp at hd
  ·intro h
   have y:=h 0 a rfl
   simpa [UH] using y
 ·constructor
  ·intro h j d hd
   match j with
   | 0=>simp at h hd; subst hd; exact h.1
   | 1=>simp at h hd; subst hd; exact h.2
   | j+2=>simp at hd
  ·intro h
   have y:=h 0 a rfl
   have z:=h 1 b rfl
   simp only [UH] at y z
   simp [y,z]
 ·constructor
  ·intro h j d hd
   match j with
   | 0=>simp at h hd; subst hd; exact h.1
   | 1=>simp at h hd; subst hd; exact h.2.1
   | 2=>simp at h hd; subst hd; exact h.2.2
   | j+3=>simp at hd
  ·intro h
   have y:=h 0 a rfl
   have z:=h 1 b rfl
   have C:=h 2 c rfl
   simp only [UH] at y z C
   simp [y,z,C]
 ·exact absurd E (by simp)
theorem U3 {bad:List (List Int×Nat)} (y:bad.length≤3) {adj:Option (Int×Int)} {s:Sc3} {j:Nat} {d:List Int×Nat} (hd:bad[j]?=some d) (h:UH s j<d.2):UG bad adj s=false:=by
 unfold UG scB
 have:((([s.c0,s.c1,s.c2].take bad.length).zip bad).all fun c=>decide (c.2.2≤c.1))=false:=by
  rw [←Bool.not_eq_true]
  intro z
  have:=(Vd y s).1 z j d hd
  omega
 show((((s.to bad.length).cn.zip bad).all _)&&_&&_)=false
 rw [show(s.to bad.length).cn=[s.c0,s.c1,s.c2].take bad.length from rfl,this]
 rfl
theorem VR {bad:List (List Int×Nat)} (y:bad.length≤3) {adj:Option (Int×Int)} {s:Sc3} (h:∀j d,bad[j]?=some d→d.2≤UH s j):UG bad adj s=(s.som&&(adj.isNone||s.fo||s.op&&s.cl)):=by
 unfold UG scB
 show((((s.to bad.length).cn.zip bad).all _)&&_&&_)=_
 rw [show(s.to bad.length).cn=[s.c0,s.c1,s.c2].take bad.length from rfl,(Vd y s).2 h]
 rfl
theorem V6 {w:World} {g1 g2:Nat} {qc:Array Value} {p:Am} {q:AB} (hq:Ba w w.heap.size qc.toList q) (a6:Blk w g1 30 qc) (hd:Blk w g2 4 #[.bool (decide (0<q.adj.length))]) (a3:UJ p q) (s:Sc3):
  Calls Tryz.prog 80 #[UA s,.pointer (some ⟨g1,0,none⟩),.pointer (some ⟨g2,0,none⟩)] w (Ret fun v w'=>v=.bool (UG (Uw q) (Uy q) s)∧Below w.heap.size w w'):=by
 obtain⟨B1,d1,B2,d2,B3,d3,B4,d4,aX,aS,aT,aU,ah,aV,aW,k1,k2,k3,k4⟩:=hq.cells
 replace ah:qc[3]?=some (.slice B2 q.bad.length d2):=ah
 have al:(Uw q).length≤3:=by rw [UV]; exact a3.b3
 have am:(Uy q).isNone= !decide (0<q.adj.length):=by
  unfold Uy
  rcases a3.adj with h | ⟨a,b,h,-,-⟩ <;> rw [h] <;> rfl
 obtain⟨C,s0,y,z,E,G,I⟩:=s
 obtain⟨w1,bl,ad,aa,aM⟩:=Ae w #[.bool C,.int .i64 (s0:Int),.int .i64 (y:Int),.int .i64 (z:Int),.bool E,.bool G,.bool I] 133
 have J:=hide ad
 have ak:=hide aa
 have au:=hide hd
 have bk:=hide a6
 have aR:=hide a3
 have aN:=hide k2
 have bj:=aa.lt
 have bh:=a6.lt
 have aE:=(a6.below ad).cell
 obtain⟨nb,af⟩:∃n,n=q.bad.length:=⟨_,rfl⟩
 have ax:=hide af
 have aQ:=a3.b3
 rw [←af] at ah aQ
 obtain⟨dm,av⟩:∃d,d=decide (0<q.adj.length):=⟨_,rfl⟩
 have an:=hide am
 rw [←av] at an au
 have a5:=hide al
 clear hq a6 hd a3 k1 k2 k3 k4 ad aa aM aS aT aU aV aW aX af av am al
 unfold UA
 go_enter Tryz.func80,Tryz.ntmps80
 go_wp2_with fail
 go_loopw [4,10] (fun rr ii wr=>rr=.bool false∧∃i:Nat,ii=.int .i64 (i:Int)∧i≤nb∧Hid (Below w1.heap.size w1 wr)∧Hid (∀j d,j<i→(Uw q)[j]?=some d→d.2≤UH ⟨C,s0,y,z,E,G,I⟩ j)) (fun _ ii _=>nb - (intOf ii).toNat)
 case atStart=>exact⟨rfl,0,rfl,Nat.zero_le _,Below.refl _ _,hide (fun j d h=>absurd h (Nat.not_lt_zero _))⟩
 case round=>
  obtain⟨rfl,i,rfl,hi,W,hS⟩:=hrel
  clear aE
  have a4:=hide (J.out.trans (W.out.mono J.out.size))
  by_cases aP:i<nb
  ·obtain⟨b,aB,c,cs,hA,bf,he,aY,ar,hR⟩:=(aN.out.keep (w':=wr) (B':=w.heap.size) (R':=Db wr w.heap.size) (fun _ hp=>a4.out.cell hp) (fun _ _ h=>h.keep (fun _ hp=>a4.out.cell hp) (Nat.le_refl _)) (Nat.le_refl _)).at (show i<q.bad.length by rw [←ax.out]; exact aP)
   obtain⟨E1,f1,rfl,aK⟩:=hR
   subst hA
   have ae:(loadCellsFrom ⟨b,aB+i*2,none⟩ 0 2 #[]).run Tryz.prog wr=.ok #[.slice E1 c.states.length f1,.int .i64 c.least] wr:=by
    have:=run_loadCells_list (P:=Tryz.prog) wr ⟨b,aB+i*2,none⟩ [.slice E1 c.states.length f1,.int .i64 c.least] (fun j v hv=>by rw [Addr.add_mid]; exact ar j v hv)
    simpa [loadCells] using this
   obtain⟨w5,b0,ap,ab,aO⟩:=Ae wr #[.slice E1 c.states.length f1,.int .i64 c.least] 119
   have U:=hide (U6 he)
   have V:=hide (aR.out.le c (List.mem_of_getElem? he))
   obtain⟨ns,ay⟩:∃n,n=c.states.length:=⟨_,rfl⟩
   rw [←ay] at ae b0 ab
   have a9:=W.out.trans (ap.mono W.out.size)
   have M:=hide (a9.trans ((Ap w5).mono a9.size))
   have aH:=(ak.out.below M.out).cell
   have be:=(ab.below (Ap w5)).cell
   clear W aO ab ap a9 ar aY he aK ay
   have aL:i=0∨i=1∨i=2:=by omega
   rcases aL with rfl | rfl | rfl
   ·by_cases aq:(s0:Int)<c.least
    ·have O:Hid (UG (Uw q) (Uy q) ⟨C,s0,y,z,E,G,I⟩=false):=hide (U3 a5.out U.out (by have:=V.out; show s0<c.least.toNat; omega))
     have Z:=hide (J.out.trans (M.out.mono J.out.size))
     simp only [Nat.zero_mul,Nat.add_zero] at ae
     go_wp2_with fail
     refine Reg.cP [0,0,3,7,0,16,63] ?_
     go_wp2_with fail
     go_ret
     exact⟨by rw [O.out]; rfl,Z.out⟩
    ·have a2:Hid (∀j d,j<0+1→(Uw q)[j]?=some d→d.2≤UH ⟨C,s0,y,z,E,G,I⟩ j):=hide (fun j d hj hd=>by
      by_cases e:j=0
      ·subst e
       rw [U.out] at hd
       rw [←Option.some.inj hd]
       show c.least.toNat≤s0
       have:=V.out
       omega
      ·exact hS.out j d (by omega) hd)
     simp only [Nat.zero_mul,Nat.add_zero] at ae
     go_wp2_with fail
     refine Reg.cP [0,0,3,7,0,16,63] ?_
     go_wp2_with fail
     exact⟨⟨rfl,0+1,by go_num,by omega,M,a2⟩,by simp [intOf]; omega⟩
   ·by_cases aq:(y:Int)<c.least
    ·have O:Hid (UG (Uw q) (Uy q) ⟨C,s0,y,z,E,G,I⟩=false):=hide (U3 a5.out U.out (by have:=V.out; show y<c.least.toNat; omega))
     have Z:=hide (J.out.trans (M.out.mono J.out.size))
     go_wp2_with fail
     refine Reg.cP [0,0,3,7,0,16,63] ?_
     go_wp2_with fail
     go_ret
     exact⟨by rw [O.out]; rfl,Z.out⟩
    ·have a2:Hid (∀j d,j<1+1→(Uw q)[j]?=some d→d.2≤UH ⟨C,s0,y,z,E,G,I⟩ j):=hide (fun j d hj hd=>by
      by_cases e:j=1
      ·subst e
       rw [U.out] at hd
       rw [←Option.some.inj hd]
       show c.least.toNat≤y
       have:=V.out
       omega
      ·exact hS.out j d (by omega) hd)
     go_wp2_with fail
     refine Reg.cP [0,0,3,7,0,16,63] ?_
     go_wp2_with fail
     exact⟨⟨rfl,1+1,by go_num,by omega,M,a2⟩,by simp [intOf]; omega⟩
   ·by_cases aq:(z:Int)<c.least
    ·have O:Hid (UG (Uw q) (Uy q) ⟨C,s0,y,z,E,G,I⟩=false):=hide (U3 a5.out U.out (by have:=V.out; show z<c.least.toNat; omega))
     have Z:=hide (J.out.trans (M.out.mono J.out.size))
     go_wp2_with fail
     refine Reg.cP [0,0,3,7,0,16,63] ?_
     go_wp2_with fail
     go_ret
     exact⟨by rw [O.out]; rfl,Z.out⟩
    ·have a2:Hid (∀j d,j<2+1→(Uw q)[j]?=some d→d.2≤UH ⟨C,s0,y,z,E,G,I⟩ j):=hide (fun j d hj hd=>by
      by_cases e:j=2
      ·subst e
       rw [U.out] at hd
       rw [←Option.some.inj hd]
       show c.least.toNat≤z
       have:=V.out
       omega
      ·exact hS.out j d (by omega) hd)
     go_wp2_with fail
     refine Reg.cP [0,0,3,7,0,16,63] ?_
     go_wp2_with fail
     exact⟨⟨rfl,2+1,by go_num,by omega,M,a2⟩,by simp [intOf]; omega⟩
  ·obtain rfl:i=nb:=by omega
   have ao:=hide (show ∀j d,(Uw q)[j]?=some d→d.2≤UH ⟨C,s0,y,z,E,G,I⟩ j from fun j d hd=>hS.out j d (by have:=AP hd; rw [UV,←ax.out] at this; exact this) hd)
   have O:Hid (UG (Uw q) (Uy q) ⟨C,s0,y,z,E,G,I⟩=(C&&(!dm||E||G&&I))):=hide ((VR a5.out ao.out).trans (by rw [an.out]))
   have aH:=(ak.out.below W.out).cell
   have bg:=(au.out.below a4.out).cell
   clear ao hS
   cases C <;> cases dm <;> cases E <;> cases G
   all_goals
    go_wp2_with fail
    go_ret
    exact⟨by rw [O.out]; simp,a4.out⟩
end Go.Proofs.YtfcfpoemojjglaaGreatDoor
namespace Go.Proofs.YtfcfpoemojjglaaGreatDoor
open Go.RowKit
open K (Am AB At Ba PQX Ah)
attribute [-go_sem] loadCellsFrom
set_option maxHeartbeats 16000000
set_option maxRecDepth 100000
def UL (p:Am) (q:AB) (z:List Nat):Bool:=UK (Uw q) (Uy q) (decide (p.topo=3)) z
theorem Vn {w:World} {cs ds:List Value} {p:Am} {q:AB} (h:At w w.heap.size cs p) (h':Ba w w.heap.size ds q) (E:UJ p q) (hT:K.SpOK w) (hP:BV w):
  Calls Tryz.prog 37 #[.agg cs.toArray,.agg ds.toArray] w (Ret fun r w'=>Below w.heap.size w w'∧∃t ac,BH p.states.length t ac (UL p q)∧ac.length≤1024∧∀w'',Ac w' w'' (fun k=>k<w.heap.size)→Br w'' w''.heap.size r t ac):=by
 obtain⟨B1,d1,B2,d2,B3,d3,B4,d4,aQ,aL,aM,aN,aO,aP,-⟩:=h'.cells
 obtain⟨A1,c1,A2,c2,A3,c3,A4,c4,A5,c5,A6,c6,A7,c7,aK,aH,aJ,bt,-⟩:=h.cells
 obtain⟨w1,bA,U,a6,aB⟩:=Ae w cs.toArray 27
 obtain⟨w2,bB,V,M,aC⟩:=Ae w1 ds.toArray 30
 obtain⟨w3,bC,C,a7,aD⟩:=Ae w2 #[sn0,sn0] 78
 obtain⟨w4,aR,J,a8,aE⟩:=Ae w3 #[.bool (decide (0<q.adj.length))] 4
 have ab:=U.trans (V.mono U.size)
 have ad:=ab.trans (C.mono ab.size)
 have y:=hide (ad.trans (J.mono ad.size))
 have O:=hide (show PQX w4 w.heap.size w1.heap.size cs.toArray ds.toArray p q from⟨h.keep (fun _ hp=>y.out.cell hp) y.out.size,h'.keep (fun _ hp=>y.out.cell hp) y.out.size,((a6.below V).below C).below J,(M.below C).below J,hT.below y.out⟩)
 have ai:=hide (a7.below J)
 have bj:=((M.below C)).cell
 have ao:=VH (w:=w4) (a:=w1.heap.size) (b:=w3.heap.size) (c:=w.heap.size) (L:=p.states.length) (δ:=Ux (Uw q) (Uy q) (decide (p.topo=3))) (f:=UG (Uw q) (Uy q))
  (fun wx G s x hs _=>V5 (O.out.at G) (a8.below G) E s x hs)
  (fun wx G s _=>V6 (O.out.at G).qr (O.out.at G).b3 (a8.below G) E s)
  (fun s x hs _=>VT (UU E) hs) (by have:=E.L.2; omega) (hP.below y.out)
 have al:(Uw q).length≤3:=by rw [UV]; exact E.b3
 have aA:=hide ao
 generalize cs.toArray=pc at*
 generalize ds.toArray=qc at*
 have bn:=a6.lt
 have bo:=M.lt
 have bp:=a7.lt
 have bv:=U.size
 have bw:=V.size
 have bx:=C.size
 have bk:=O.out.b2.cell
 have ay:=hide al
 obtain⟨na,ar⟩:∃n,n=q.adj.length:=⟨_,rfl⟩
 rw [←ar] at aP aR
 clear h h' E hT hP U V C J ab ad a6 M a7 a8 aB aC aD aE ao al aK aQ aH aJ aL aM aN aO ar
 have bs:(0:Int)<(na:Int)↔0<na:=by omega
 go_enter Tryz.func37,Tryz.ntmps37
 go_wp2_with fail
 refine Calls.ret aA.out ?_
 rintro r w8 ⟨W,t,ac,hC,hn,hD⟩
 obtain⟨Z,c8,A9,c9,rfl,-,-⟩:=hD w8 (Ac.refl _ _)
 have I:=ai.out.below W
 have bm:=I.frozen
 have br:=I.lt
 have bl:=I.cell
 have bz:=W.size
 have bu:=y.out.size
 have bq:=ai.out.lt
 have ax:=hide (hC.congr (Λ':=UL p q) fun z hz=>(VS ay.out (Uy q) (decide (p.topo=3)) hz).symm)
 have aG:=hide hn
 obtain⟨lt,af⟩:∃n,n=t.length:=⟨_,rfl⟩
 obtain⟨la,ae⟩:∃n,n=ac.length:=⟨_,rfl⟩
 rw [←af,←ae]
 obtain⟨wF,aS,aj,aa⟩:=Dm I (.slice Z lt c8) (.slice A9 la c9)
 have aF:(loadCellsFrom ⟨w2.heap.size,0,none⟩ 0 2 #[]).run Tryz.prog wF=.ok #[.slice Z lt c8,.slice A9 la c9] wF:=Ah aj rfl
 have az:=hide ((y.out.trans (W.mono y.out.size)).trans (aa.below (by omega) fun b hb (e:b=w2.heap.size)=>by omega))
 have ap:=hide (fun w'' (hk:Ac wF w'' (fun k=>k<w.heap.size))=>hD w'' ((aa.mono (fun b _ (e:b=w2.heap.size)=>by omega)).trans hk (fun b _ (e:b<w.heap.size)=>by omega)))
 rw [←af,←ae] at ap
 unfold CY at aS
 clear hC hn hD I W aj aa af ae
 go_wp2_with fail
 refine bodyPost_ret (v:=.agg #[.slice Z lt c8,.slice A9 la c9]) (by simp [results,Tryz.results37,go_sem,aF]) rfl ⟨az.out,t,ac,ax.out,aG.out,ap.out⟩
end Go.Proofs.YtfcfpoemojjglaaGreatDoor
namespace Go.Proofs.YtfcfpoemojjglaaGreatDoor
open Go.RowKit
open K (Am AB At Ba PQX Ah)
attribute [-go_sem] loadCellsFrom
set_option maxHeartbeats 16000000
set_option maxRecDepth 100000
theorem Vi {w:World} {cs ds:List Value} {p:Am} {q:AB} (h:At w w.heap.size cs p) (h':Ba w w.heap.size ds q) (aL:p.Small) (aM:q.Small) (hT:K.SpOK w) (hP:BV w):
  Calls Tryz.prog 14 #[.agg cs.toArray,.agg ds.toArray] w (Ret fun r w'=>Ej w (K.checkW K.nameOK p q) p.states.length (UL p q) r w'):=by
 obtain⟨B1,d1,B2,d2,B3,d3,B4,d4,ar,-⟩:=h'.cells
 obtain⟨A1,c1,A2,c2,A3,c3,A4,c4,A5,c5,A6,c6,A7,c7,aq,-,-,aH,-⟩:=h.cells
 obtain⟨w1,bU,ak,aB,b1⟩:=Ae w cs.toArray 27
 obtain⟨w2,bV,al,aC,b4⟩:=Ae w1 ds.toArray 30
 obtain⟨w3,bW,a6,ab,b5⟩:=Ae w2 BQ 35
 have a4:=ak.trans (al.mono ak.size)
 have E:=hide (a4.trans (a6.mono a4.size))
 have a3:=hide (show PQX w3 w.heap.size w1.heap.size cs.toArray ds.toArray p q from⟨h.keep (fun _ hp=>E.out.cell hp) E.out.size,h'.keep (fun _ hp=>E.out.cell hp) E.out.size,(aB.below al).below a6,aC.below a6,hT.below E.out⟩)
 have aP:=hide ab
 have bN:=ab.lt
 have bR:=a4.size
 generalize bh:cs.toArray=pc at*
 generalize bj:ds.toArray=qc at*
 obtain⟨C,M⟩:∃e,Hid (K.checkW K.nameOK p q=e):=⟨_,rfl⟩
 have aV:Hid (∀wx,Hid (PQX wx w.heap.size w1.heap.size pc qc p q)→Calls Tryz.prog 32 #[.agg pc,.agg qc] wx (Ret fun v w'=>v=.int .i64 C∧Below wx.heap.size wx w')):=hide (fun wx G=>by
  rw [←M.out]
  exact K.check_any (cs:=pc.toList) (ds:=qc.toList) G.out.pr G.out.qr aL aM G.out.tab)
 have aJ:=hide aq
 have aK:=hide ar
 have bg:=hide aH
 have b6:=Ah a3.out.b2 aq
 have b9:=Ah a3.out.b3 ar
 have bK:=hide hP
 have b0:Hid (C=0→∀wx,Hid (PQX wx w.heap.size w1.heap.size pc qc p q)→Below w.heap.size w wx→Calls Tryz.prog 37 #[.agg pc,.agg qc] wx (Ret fun r w'=>Below wx.heap.size wx w'∧∃t ac,BH p.states.length t ac (UL p q)∧ac.length≤1024∧∀w'',Ac w' w'' (fun k=>k<wx.heap.size)→Br w'' w''.heap.size r t ac)):=hide (fun he wx G aT=>by
  have bQ:=FK (M.out.trans he)
  exact by
   have ap:=Hf (M.out.trans he)
   exact Vn (cs:=pc.toList) (ds:=qc.toList) G.out.pr G.out.qr (U7 ap.1 ap.2.2 ap.2.1) G.out.tab (hP.below aT))
 rw [M.out]
 have af:Hid (C=0→p.states.length≤8):=hide (fun he=>by have:=(FK (M.out.trans he)).L.2; omega)
 clear h h' ak al a6 a4 aB aC ab b1 b4 b5 bh bj hT hP aq ar aH aL aM M
 go_enter Tryz.func14,Tryz.ntmps14
 go_wp2_with fail
 refine Calls.ret (aV.out _ a3) ?_
 rintro v w4 ⟨rfl,a7⟩
 have ah:=hide (a3.out.at a7)
 have a5:=hide (E.out.trans (a7.mono E.out.size))
 have U:=hide (aP.out.below a7)
 have b7:=Ah ah.out.b2 aJ.out
 have ba:=Ah ah.out.b3 aK.out
 have be:=U.out.lt
 have aY:=U.out.frozen
 have aU:=U.out.cell
 clear a7 b6 b9
 by_cases I:C=0
 case neg=>
  have bi:(C != 0)=true:=by simp [I]
  have O:=hide I
  obtain⟨wF,au,V,J⟩:=Dn U.out (.int .i64 0) (.int .i64 0) sn0 sn0 sn0
  have am:=hide (a5.out.trans (J.below a5.out.size fun b hb (e:b=w2.heap.size)=>by omega))
  have an:(loadCellsFrom ⟨w2.heap.size,0,none⟩ 0 5 #[]).run Tryz.prog wF=.ok _ wF:=Ah V rfl
  unfold CK at au
  clear I V J
  go_wp2_with fail
  refine bodyPost_ret (v:=.tuple #[.agg BQ,.int .i64 C]) (by simp [results,Tryz.results14,go_sem,an]) rfl ⟨am.out,.inl ⟨O.out,rfl⟩⟩
 have bi:(C != 0)=false:=by simp [I]
 have O:=hide I
 clear I
 have af:=hide (af.out O.out)
 have W:=hide (ah.out.at (Ap w4))
 have b8:=Ah W.out.b2 aJ.out
 have bd:=Ah W.out.b3 aK.out
 have aX:=W.out.b2.cell
 have aW:w4.drew.cell? ⟨w.heap.size,2,none⟩=some (.slice A1 p.states.length c1):=by rw [W.out.b2.cell]; exact bg.out
 have ai:=hide (a5.out.trans ((Ap w4).mono a5.out.size))
 clear aX
 go_wp2_with fail
 refine Reg.cC [0,0,3,0,8,24,63,127,255] [0,1,3,4,5,2,6,7,8] ?_
 refine Reg.rest_walk' [0,1,3,4,5] [2,6,7,8] rfl (by kernel_rfl) ?_
 intro Qf y
 go_wp2_with fail
 first | refine y _ _ ?_ | skip
 try clear y
 refine Reg.rest_act' 2 [6,7,8] [4] rfl (by kernel_rfl) ?_
 intro Qf y
 simp only [gT,gS,gZ]
 go_wp2_with fail
 refine Calls.ret (b0.out O.out _ W ai.out) ?_
 rintro r w5 ⟨Z,t,ac,hC,hn,hD⟩
 have aE:=hD w5 (Ac.refl _ _)
 obtain⟨A8,c8,A9,c9,rfl,-,-⟩:=hD w5 (Ac.refl _ _)
 go_wp2_with fail
 first | refine y _ _ ⟨Reg.same_below Z [4] rfl,?_⟩ | refine⟨Reg.same_below Z [4] rfl,?_⟩
 try clear y
 have aj:=hide (ai.out.trans (Z.mono ai.out.size))
 have aD:=hide ((U.out.below (Ap w4)).below Z)
 have aR:=Mk (L:=p.states.length) aE hC.ok af.out (by omega)
 have aQ:=hide hC
 have bf:=hide hn
 clear Z hC hn hD aE aU aY be b7 ba b8 bd aW
 refine Reg.rest_act' 6 [7,8] [] rfl (by kernel_rfl) ?_
 intro Qf y
 simp only [gT,gS,gZ]
 go_wp2_with fail
 refine Calls.ret aR ?_
 rintro d w6 ⟨a8,z⟩
 obtain⟨av,ay,aw,az,ax,aA,rfl,-,-,-,-⟩:=z w6 (Ac.refl _ _)
 go_wp2_with fail
 first | refine y _ _ ⟨Reg.nm,?_⟩ | refine⟨Reg.nm,?_⟩
 try clear y
 have a2:=hide (aD.out.below a8)
 have aS:=hide (aj.out.trans (a8.mono aj.out.size))
 have bM:=a2.out.frozen
 have bO:=a2.out.lt
 have bL:=a2.out.cell
 have bT:=a8.size
 have bS:=aj.out.size
 have bP:=aD.out.lt
 clear a8
 generalize (AG p.states.length t ac).letters=x0 at z ⊢
 generalize (AG p.states.length t ac).states=x1 at z ⊢
 generalize (AG p.states.length t ac).start.length=n1 at z ⊢
 generalize (AG p.states.length t ac).accept.length=n2 at z ⊢
 generalize (AG p.states.length t ac).edges.length=n3 at z ⊢
 obtain⟨wF,au,V,J⟩:=Dn a2.out (.int .i64 x0) (.int .i64 x1) (.slice av n1 ay) (.slice aw n2 az) (.slice ax n3 aA)
 have an:(loadCellsFrom ⟨w2.heap.size,0,none⟩ 0 5 #[]).run Tryz.prog wF=.ok _ wF:=Ah V rfl
 have am:=hide (aS.out.trans (J.below (by omega) fun b hb (e:b=w2.heap.size)=>by omega))
 have aZ:=hide (fun w'' (hk:Ac wF w'' (fun k=>k<w.heap.size))=>z w'' ((J.mono (fun b _ (e:b=w2.heap.size)=>by omega)).trans hk (fun b _ (e:b<w.heap.size)=>by omega)))
 unfold CK at au
 clear z V J
 refine Reg.rest_walk' [7,8] [] rfl (by kernel_rfl) ?_
 intro Qf y
 go_wp2_with fail
 first | refine y _ _ ?_ | skip
 try clear y
 refine Reg.rest_end ?_
 go_wp2_with fail
 refine bodyPost_ret (v:=.tuple #[.agg #[.int .i64 x0,.int .i64 x1,.slice av n1 ay,.slice aw n2 az,.slice ax n3 aA],.int .i64 0]) (by simp [results,Tryz.results14,go_sem,an]) rfl ⟨am.out,.inr ⟨O.out,t,ac,_,aQ.out,bf.out,rfl,aZ.out⟩⟩
end Go.Proofs.YtfcfpoemojjglaaGreatDoor
