/-
  Part HF of a proof.
-/
import Derived.Test.YtfcfpoemojjglaaGreatDoorPA
import Derived.Test.YtfcfpoemojjglaaGreatDoorFB
import Derived.Test.YtfcfpoemojjglaaGreatDoorCW
import Derived.Test.YtfcfpoemojjglaaGreatDoorPJ
import Derived.Test.YtfcfpoemojjglaaGreatDoorPI
import Derived.Test.YtfcfpoemojjglaaGreatDoorHA
import Derived.Test.YtfcfpoemojjglaaGreatDoorCJ
import Derived.Test.YtfcfpoemojjglaaGreatDoorHC
import Derived.Test.YtfcfpoemojjglaaGreatDoorHD
set_option maxHeartbeats 16000000
set_option maxRecDepth 100000
set_option linter.unusedVariables false
set_option linter.unusedSimpArgs false
namespace Go.Proofs.YtfcfpoemojjglaaGreatDoor
open Go.RowKit
open K (Am AB At Ba PQX Ah)
attribute [-go_sem] loadCellsFrom
set_option maxHeartbeats 16000000
set_option maxRecDepth 100000
def Ej (w:World) (ec:Int) (L:Nat) (Λ:List Nat->Bool) (v:Value) (w':World):Prop:=
 Below w.heap.size w w'/\((ec≠0/\v=.tuple #[.agg BQ,.int .i64 ec])\/
  (ec=0/\∃t ac d,BH L t ac Λ/\ac.length<=1024/\v=.tuple #[d,.int .i64 0]/\∀w'',Ac w' w'' (fun k=>k<w.heap.size)->Bj w'' w''.heap.size d (AG L t ac)))
def LK:WA:=⟨0,0,[],[],[]⟩
theorem LM (w:World):Bj w w.heap.size (.agg BQ) LK:=⟨none,0,none,0,none,0,rfl,Sl.nil rfl,Sl.nil rfl,Sl.nil rfl,Nat.le_refl _⟩
theorem Ej.get {w w':World} {l:Int} {L:Nat} {Λ:List Nat->Bool} {r:Value} (h:Ej w l L Λ r w'):Below w.heap.size w w'/\∃(G:WA) (J:Value),r=.tuple #[J,.int .i64 l]/\Bj w' w'.heap.size J G/\
  (∀(w2 j:World) (r2:Value),Ej w2 l L Λ r2 j->Below w2.heap.size w2 j/\∃I,r2=.tuple #[I,.int .i64 l]/\Bj j j.heap.size I G)/\
  (l=0->∃t ac,BH L t ac Λ/\ac.length<=1024/\G=AG L t ac):=by
 obtain⟨O,⟨y,rfl⟩|⟨y,t,ac,d,M,a2,rfl,W⟩⟩:=h
 ·refine⟨O,LK,_,rfl,LM _,fun w2 j r2 C=>?_,fun e=>absurd e y⟩;obtain⟨E,⟨-,rfl⟩|⟨g1,-⟩⟩:=C
  ·exact⟨E,_,rfl,LM _⟩
  ·exact absurd g1 y
 ·subst y;refine⟨O,AG L t ac,d,rfl,W w' (Ac.refl _ _),fun w2 j r2 C=>?_,fun _=>⟨t,ac,M,a2,rfl⟩⟩;obtain⟨E,⟨g1,-⟩|⟨-,t',a3,U,V,-,rfl,Z⟩⟩:=C
  ·exact absurd rfl g1
  ·obtain⟨rfl,rfl⟩:=V.unique M fun _ _=>rfl;exact⟨E,U,rfl,Z j (Ac.refl _ _)⟩
theorem Hf {p:Am} {q:AB} (h:K.checkW K.nameOK p q=0):K.propE K.nameOK p q=0/\(p.topo=2\/p.topo=3)/\q.kind=1:=by
 unfold K.checkW at h;obtain⟨j,l⟩:=AY.1 h;have d:=(Gg (by decide)).1 l;simp only [Bool.or_eq_false_iff,Bool.not_eq_false',Bool.or_eq_true,beq_iff_eq,bne_eq_false_iff_eq] at d;exact⟨j,d.1,d.2⟩
theorem FK {p:Am} {q:AB} (h:K.checkW K.nameOK p q=0):Gi p q:=Qt (Hf h).1
end Go.Proofs.YtfcfpoemojjglaaGreatDoor
namespace Go.Proofs.YtfcfpoemojjglaaGreatDoor
open Go.RowKit
open K (Am AB D9 At Ba Db BR PQX Ah)
attribute [-go_sem] loadCellsFrom
set_option maxHeartbeats 16000000
set_option maxRecDepth 100000
def UH (s:Sc3) (k:Nat):Nat:=match k with
 | 0=>s.c0
 | 1=>s.c1
 | _=>s.c2
theorem Vd {bad:List (List Int×Nat)} (I:bad.length<=3) (s:Sc3):((([s.c0,s.c1,s.c2].take bad.length).zip bad).all fun c=>decide (c.2.2<=c.1))=true↔∀j d,bad[j]?=some d->d.2<=UH s j:=by
 rcases bad with _|⟨a,_|⟨b,_|⟨c,_|⟨d,l⟩⟩⟩⟩
 ·simp
 ·constructor
  ·intro h j d y
   match j with
   | 0=>simp at h y;subst y;exact h
   | j+1=>simp at y
  ·intro h;have C:=h 0 a rfl;simpa [UH] using C
 ·constructor
  ·intro h j d y
   match j with
   | 0=>simp at h y;subst y;exact h.1
   | 1=>simp at h y;subst y;exact h.2
   | j+2=>simp at y
  ·intro h;have C:=h 0 a rfl;have E:=h 1 b rfl;simp only [UH] at C E;simp [C,E]
 ·constructor
  ·intro h j d y
   match j with
   | 0=>simp at h y;subst y;exact h.1
   | 1=>simp at h y;subst y;exact h.2.1
   | 2=>simp at h y;subst y;exact h.2.2
   | j+3=>simp at y
  ·intro h;have C:=h 0 a rfl;have E:=h 1 b rfl;have G:=h 2 c rfl;simp only [UH] at C E G;simp [C,E,G]
 ·exact absurd I (by simp)
theorem U3 {bad:List (List Int×Nat)} (l:bad.length<=3) {adj:Option (Int×Int)} {s:Sc3} {j:Nat} {d:List Int×Nat} (y:bad[j]?=some d) (h:UH s j<d.2):UG bad adj s=false:=by
 unfold UG scB;have:((([s.c0,s.c1,s.c2].take bad.length).zip bad).all fun c=>decide (c.2.2<=c.1))=false:=by
  rw [<-Bool.not_eq_true];intro C;have:=(Vd l s).1 C j d y;omega
 show((((s.to bad.length).cn.zip bad).all _)&&_&&_)=false
 rw [show(s.to bad.length).cn=[s.c0,s.c1,s.c2].take bad.length from rfl,this];rfl
theorem VR {bad:List (List Int×Nat)} (l:bad.length<=3) {adj:Option (Int×Int)} {s:Sc3} (h:∀j d,bad[j]?=some d->d.2<=UH s j):UG bad adj s=(s.som&&(adj.isNone||s.fo||s.op&&s.cl)):=by
 unfold UG scB;show((((s.to bad.length).cn.zip bad).all _)&&_&&_)=_
 rw [show(s.to bad.length).cn=[s.c0,s.c1,s.c2].take bad.length from rfl,(Vd l s).2 h];rfl
theorem V6 {w:World} {g1 g2:Nat} {qc:Array Value} {p:Am} {q:AB} (hq:Ba w w.heap.size qc.toList q) (a7:Blk w g1 30 qc) (l:Blk w g2 4 #[.bool (decide (0<q.adj.length))]) (a4:UJ p q) (s:Sc3):
  Calls Tryz.prog 80 #[UA s,.pointer (some ⟨g1,0,none⟩),.pointer (some ⟨g2,0,none⟩)] w (Ret fun v w'=>v=.bool (UG (Uw q) (Uy q) s)/\Below w.heap.size w w'):=by
 obtain⟨B1,d1,B2,d2,B3,d3,B4,d4,aY,aT,aU,aV,aj,aW,aX,k1,k2,k3,k4⟩:=hq.cells;replace aj:qc[3]?=some (.slice B2 q.bad.length d2):=aj;have an:(Uw q).length<=3:=by rw [UV];exact a4.b3
 have ao:(Uy q).isNone= !decide (0<q.adj.length):=by
  unfold Uy;rcases a4.adj with h|⟨a,b,h,-,-⟩ <;> rw [h] <;> rfl
 obtain⟨E,s0,y,C,G,I,J⟩:=s;obtain⟨w1,bl,af,ad,aN⟩:=Ae w #[.bool E,.int .i64 (s0:Int),.int .i64 (y:Int),.int .i64 (C:Int),.bool G,.bool I,.bool J] 133;have M:=hide af;have am:=hide ad;have aw:=hide l;have bk:=hide a7;have aS:=hide a4;have aO:=hide k2;have bj:=ad.lt;have bh:=a7.lt;have aF:=(a7.below af).cell;obtain⟨nb,ah⟩:∃n,n=q.bad.length:=⟨_,rfl⟩;have az:=hide ah;have aR:=a4.b3;rw [<-ah] at aj aR;obtain⟨dm,ax⟩:∃d,d=decide (0<q.adj.length):=⟨_,rfl⟩;have ap:=hide ao;rw [<-ax] at ap aw;have a6:=hide an;clear hq a7 l a4 k1 k2 k3 k4 af ad aN aT aU aV aW aX aY ah ax ao an;unfold UA;go_enter Tryz.func80,Tryz.ntmps80;go_wp2_with fail;go_loopw [4,10] (fun rr ii wr=>rr=.bool false/\∃i:Nat,ii=.int .i64 (i:Int)/\i<=nb/\Hid (Below w1.heap.size w1 wr)/\Hid (∀j d,j<i->(Uw q)[j]?=some d->d.2<=UH ⟨E,s0,y,C,G,I,J⟩ j)) (fun _ ii _=>nb - (intOf ii).toNat)
 case atStart=>exact⟨rfl,0,rfl,Nat.zero_le _,Below.refl _ _,hide (fun j d h=>absurd h (Nat.not_lt_zero _))⟩
 case round=>
  obtain⟨rfl,i,rfl,hi,Z,hS⟩:=hrel;clear aF;have a5:=hide (M.out.trans (Z.out.mono M.out.size));by_cases aQ:i<nb
  ·obtain⟨b,aC,c,cs,hA,bf,he,aZ,av,hR⟩:=(aO.out.keep (w':=wr) (B':=w.heap.size) (R':=Db wr w.heap.size) (fun _ hp=>a5.out.cell hp) (fun _ _ h=>h.keep (fun _ hp=>a5.out.cell hp) (Nat.le_refl _)) (Nat.le_refl _)).at (show i<q.bad.length by rw [<-az.out];exact aQ);obtain⟨E1,f1,rfl,aL⟩:=hR;subst hA;have ag:(loadCellsFrom ⟨b,aC+i*2,none⟩ 0 2 #[]).run Tryz.prog wr=.ok #[.slice E1 c.states.length f1,.int .i64 c.least] wr:=by
    have:=run_loadCells_list (P:=Tryz.prog) wr ⟨b,aC+i*2,none⟩ [.slice E1 c.states.length f1,.int .i64 c.least] (fun j v hv=>by rw [Addr.add_mid];exact av j v hv);simpa [loadCells] using this
   obtain⟨w5,b4,ar,ae,aP⟩:=Ae wr #[.slice E1 c.states.length f1,.int .i64 c.least] 119;have V:=hide (U6 he);have W:=hide (aS.out.le c (List.mem_of_getElem? he));obtain⟨ns,aA⟩:∃n,n=c.states.length:=⟨_,rfl⟩;rw [<-aA] at ag b4 ae;have ab:=Z.out.trans (ar.mono Z.out.size);have O:=hide (ab.trans ((Ap w5).mono ab.size));have aJ:=(am.out.below O.out).cell;have be:=(ae.below (Ap w5)).cell;clear Z aP ae ar ab av aZ he aL aA;have aM:i=0\/i=1\/i=2:=by omega
   rcases aM with rfl|rfl|rfl
   ·by_cases au:(s0:Int)<c.least
    ·have U:Hid (UG (Uw q) (Uy q) ⟨E,s0,y,C,G,I,J⟩=false):=hide (U3 a6.out V.out (by have:=W.out;show s0<c.least.toNat;omega));have a2:=hide (M.out.trans (O.out.mono M.out.size));simp only [Nat.zero_mul,Nat.add_zero] at ag;go_wp2_with fail;refine Reg.cP [0,0,3,7,0,16,63] ?_;go_wp2_with fail;go_ret;exact⟨by rw [U.out];rfl,a2.out⟩
    ·have a3:Hid (∀j d,j<0+1->(Uw q)[j]?=some d->d.2<=UH ⟨E,s0,y,C,G,I,J⟩ j):=hide (fun j d hj l=>by
      by_cases e:j=0
      ·subst e;rw [V.out] at l;rw [<-Option.some.inj l];show c.least.toNat<=s0
       have:=W.out;omega
      ·exact hS.out j d (by omega) l)
     simp only [Nat.zero_mul,Nat.add_zero] at ag;go_wp2_with fail;refine Reg.cP [0,0,3,7,0,16,63] ?_;go_wp2_with fail;exact⟨⟨rfl,0+1,by go_num,by omega,O,a3⟩,by simp [intOf];omega⟩
   ·by_cases au:(y:Int)<c.least
    ·have U:Hid (UG (Uw q) (Uy q) ⟨E,s0,y,C,G,I,J⟩=false):=hide (U3 a6.out V.out (by have:=W.out;show y<c.least.toNat;omega));have a2:=hide (M.out.trans (O.out.mono M.out.size));go_wp2_with fail;refine Reg.cP [0,0,3,7,0,16,63] ?_;go_wp2_with fail;go_ret;exact⟨by rw [U.out];rfl,a2.out⟩
    ·have a3:Hid (∀j d,j<1+1->(Uw q)[j]?=some d->d.2<=UH ⟨E,s0,y,C,G,I,J⟩ j):=hide (fun j d hj l=>by
      by_cases e:j=1
      ·subst e;rw [V.out] at l;rw [<-Option.some.inj l];show c.least.toNat<=y
       have:=W.out;omega
      ·exact hS.out j d (by omega) l)
     go_wp2_with fail;refine Reg.cP [0,0,3,7,0,16,63] ?_;go_wp2_with fail;exact⟨⟨rfl,1+1,by go_num,by omega,O,a3⟩,by simp [intOf];omega⟩
   ·by_cases au:(C:Int)<c.least
    ·have U:Hid (UG (Uw q) (Uy q) ⟨E,s0,y,C,G,I,J⟩=false):=hide (U3 a6.out V.out (by have:=W.out;show C<c.least.toNat;omega));have a2:=hide (M.out.trans (O.out.mono M.out.size));go_wp2_with fail;refine Reg.cP [0,0,3,7,0,16,63] ?_;go_wp2_with fail;go_ret;exact⟨by rw [U.out];rfl,a2.out⟩
    ·have a3:Hid (∀j d,j<2+1->(Uw q)[j]?=some d->d.2<=UH ⟨E,s0,y,C,G,I,J⟩ j):=hide (fun j d hj l=>by
      by_cases e:j=2
      ·subst e;rw [V.out] at l;rw [<-Option.some.inj l];show c.least.toNat<=C
       have:=W.out;omega
      ·exact hS.out j d (by omega) l)
     go_wp2_with fail;refine Reg.cP [0,0,3,7,0,16,63] ?_;go_wp2_with fail;exact⟨⟨rfl,2+1,by go_num,by omega,O,a3⟩,by simp [intOf];omega⟩
  ·obtain rfl:i=nb:=by omega
   have aq:=hide (show ∀j d,(Uw q)[j]?=some d->d.2<=UH ⟨E,s0,y,C,G,I,J⟩ j from fun j d l=>hS.out j d (by have:=AP l;rw [UV,<-az.out] at this;exact this) l);have U:Hid (UG (Uw q) (Uy q) ⟨E,s0,y,C,G,I,J⟩=(E&&(!dm||G||I&&J))):=hide ((VR a6.out aq.out).trans (by rw [ap.out]));have aJ:=(am.out.below Z.out).cell;have bg:=(aw.out.below a5.out).cell;clear aq hS;cases E <;> cases dm <;> cases G <;> cases I
   all_goals
    go_wp2_with fail;go_ret;exact⟨by rw [U.out];simp,a5.out⟩
end Go.Proofs.YtfcfpoemojjglaaGreatDoor
namespace Go.Proofs.YtfcfpoemojjglaaGreatDoor
open Go.RowKit
open K (Am AB At Ba PQX Ah)
attribute [-go_sem] loadCellsFrom
set_option maxHeartbeats 16000000
set_option maxRecDepth 100000
def UL (p:Am) (q:AB) (z:List Nat):Bool:=UK (Uw q) (Uy q) (decide (p.topo=3)) z
theorem Vn {w:World} {cs ds:List Value} {p:Am} {q:AB} (h:At w w.heap.size cs p) (h':Ba w w.heap.size ds q) (l:UJ p q) (hT:K.SpOK w) (hP:BV w):
  Calls Tryz.prog 37 #[.agg cs.toArray,.agg ds.toArray] w (Ret fun r w'=>Below w.heap.size w w'/\∃t ac,BH p.states.length t ac (UL p q)/\ac.length<=1024/\∀w'',Ac w' w'' (fun k=>k<w.heap.size)->Br w'' w''.heap.size r t ac):=by
 obtain⟨B1,d1,B2,d2,B3,d3,B4,d4,aO,aJ,aK,aL,aM,aN,-⟩:=h'.cells;obtain⟨A1,c1,A2,c2,A3,c3,A4,c4,A5,c5,A6,c6,A7,c7,aH,aF,aG,bn,-⟩:=h.cells;obtain⟨w1,bt,J,a3,az⟩:=Ae w cs.toArray 27;obtain⟨w2,bu,M,G,aA⟩:=Ae w1 ds.toArray 30;obtain⟨w3,bv,j,a4,aB⟩:=Ae w2 #[sn0,sn0] 78;obtain⟨w4,aP,E,a5,aC⟩:=Ae w3 #[.bool (decide (0<q.adj.length))] 4;have a8:=J.trans (M.mono J.size);have a9:=a8.trans (j.mono a8.size);have d:=hide (a9.trans (E.mono a9.size));have I:=hide (show PQX w4 w.heap.size w1.heap.size cs.toArray ds.toArray p q from⟨h.keep (fun _ hp=>d.out.cell hp) d.out.size,h'.keep (fun _ hp=>d.out.cell hp) d.out.size,((a3.below M).below j).below E,(G.below j).below E,hT.below d.out⟩);have af:=hide (a4.below E);have bd:=((G.below j)).cell
 have al:=VH (w:=w4) (a:=w1.heap.size) (b:=w3.heap.size) (c:=w.heap.size) (L:=p.states.length) (δ:=Ux (Uw q) (Uy q) (decide (p.topo=3))) (f:=UG (Uw q) (Uy q))
  (fun wx y s x hs _=>V5 (I.out.at y) (a5.below y) l s x hs)
  (fun wx y s _=>V6 (I.out.at y).qr (I.out.at y).b3 (a5.below y) l s)
  (fun s x hs _=>VT (UU l) hs) (by have:=l.L.2;omega) (hP.below d.out)
 have ai:(Uw q).length<=3:=by rw [UV];exact l.b3
 have ax:=hide al;generalize cs.toArray=pc at*;generalize ds.toArray=qc at*;have bh:=a3.lt;have bi:=G.lt;have bj:=a4.lt;have bp:=J.size;have bq:=M.size;have br:=j.size;have be:=I.out.b2.cell;have av:=hide ai;obtain⟨na,ao⟩:∃n,n=q.adj.length:=⟨_,rfl⟩;rw [<-ao] at aN aP;clear h h' l hT hP J M j E a8 a9 a3 G a4 a5 az aA aB aC al ai aH aO aF aG aJ aK aL aM ao;have bm:(0:Int)<(na:Int)↔0<na:=by omega
 go_enter Tryz.func37,Tryz.ntmps37;go_wp2_with fail;refine Calls.ret ax.out ?_;rintro r w8 ⟨O,t,ac,hC,hn,hD⟩;obtain⟨U,W,V,Z,rfl,-,-⟩:=hD w8 (Ac.refl _ _);have C:=af.out.below O;have bg:=C.frozen;have bl:=C.lt;have bf:=C.cell;have bs:=O.size;have bo:=d.out.size;have bk:=af.out.lt;have au:=hide (hC.congr (Λ':=UL p q) fun z hz=>(VS av.out (Uy q) (decide (p.topo=3)) hz).symm);have aE:=hide hn;obtain⟨lt,ab⟩:∃n,n=t.length:=⟨_,rfl⟩;obtain⟨la,aa⟩:∃n,n=ac.length:=⟨_,rfl⟩;rw [<-ab,<-aa];obtain⟨wF,aQ,ag,a7⟩:=Dm C (.slice U lt W) (.slice V la Z);have aD:(loadCellsFrom ⟨w2.heap.size,0,none⟩ 0 2 #[]).run Tryz.prog wF=.ok #[.slice U lt W,.slice V la Z] wF:=Ah ag rfl;have aw:=hide ((d.out.trans (O.mono d.out.size)).trans (a7.below (by omega) fun b hb (e:b=w2.heap.size)=>by omega));have am:=hide (fun w'' (hk:Ac wF w'' (fun k=>k<w.heap.size))=>hD w'' ((a7.mono (fun b _ (e:b=w2.heap.size)=>by omega)).trans hk (fun b _ (e:b<w.heap.size)=>by omega)));rw [<-ab,<-aa] at am;unfold CY at aQ;clear hC hn hD C O ag a7 ab aa;go_wp2_with fail;refine bodyPost_ret (v:=.agg #[.slice U lt W,.slice V la Z]) (by simp [results,Tryz.results37,go_sem,aD]) rfl ⟨aw.out,t,ac,au.out,aE.out,am.out⟩
end Go.Proofs.YtfcfpoemojjglaaGreatDoor
namespace Go.Proofs.YtfcfpoemojjglaaGreatDoor
open Go.RowKit
open K (Am AB At Ba PQX Ah)
attribute [-go_sem] loadCellsFrom
set_option maxHeartbeats 16000000
set_option maxRecDepth 100000
theorem Vi {w:World} {cs ds:List Value} {p:Am} {q:AB} (h:At w w.heap.size cs p) (h':Ba w w.heap.size ds q) (aK:p.Small) (aL:q.Small) (hT:K.SpOK w) (hP:BV w):
  Calls Tryz.prog 14 #[.agg cs.toArray,.agg ds.toArray] w (Ret fun r w'=>Ej w (K.checkW K.nameOK p q) p.states.length (UL p q) r w'):=by
 obtain⟨B1,d1,B2,d2,B3,d3,B4,d4,aq,-⟩:=h'.cells;obtain⟨A1,c1,A2,c2,A3,c3,A4,c4,A5,c5,A6,c6,A7,c7,ap,-,-,aG,-⟩:=h.cells;obtain⟨w1,bQ,aj,aA,b0⟩:=Ae w cs.toArray 27;obtain⟨w2,bR,ak,aB,b4⟩:=Ae w1 ds.toArray 30;obtain⟨w3,bS,a5,aa,b5⟩:=Ae w2 BQ 35;have a3:=aj.trans (ak.mono aj.size);have C:=hide (a3.trans (a5.mono a3.size));have a2:=hide (show PQX w3 w.heap.size w1.heap.size cs.toArray ds.toArray p q from⟨h.keep (fun _ hp=>C.out.cell hp) C.out.size,h'.keep (fun _ hp=>C.out.cell hp) C.out.size,(aA.below ak).below a5,aB.below a5,hT.below C.out⟩);have aN:=hide aa;have bJ:=aa.lt;have bN:=a3.size;generalize bh:cs.toArray=pc at*;generalize bj:ds.toArray=qc at*;obtain⟨y,J⟩:∃e,Hid (K.checkW K.nameOK p q=e):=⟨_,rfl⟩;have aT:Hid (∀wx,Hid (PQX wx w.heap.size w1.heap.size pc qc p q)->Calls Tryz.prog 32 #[.agg pc,.agg qc] wx (Ret fun v w'=>v=.int .i64 y/\Below wx.heap.size wx w')):=hide (fun wx E=>by
  rw [<-J.out];exact K.check_any (cs:=pc.toList) (ds:=qc.toList) E.out.pr E.out.qr aK aL E.out.tab)
 have aH:=hide ap;have aJ:=hide aq;have bg:=hide aG;have b6:=Ah a2.out.b2 ap;have b9:=Ah a2.out.b3 aq;have bG:=hide hP;have aY:Hid (y=0->∀wx,Hid (PQX wx w.heap.size w1.heap.size pc qc p q)->Below w.heap.size w wx->Calls Tryz.prog 37 #[.agg pc,.agg qc] wx (Ret fun r w'=>Below wx.heap.size wx w'/\∃t ac,BH p.states.length t ac (UL p q)/\ac.length<=1024/\∀w'',Ac w' w'' (fun k=>k<wx.heap.size)->Br w'' w''.heap.size r t ac)):=hide (fun he wx E aR=>by
  have bM:=FK (J.out.trans he);exact by
   have ao:=Hf (J.out.trans he);exact Vn (cs:=pc.toList) (ds:=qc.toList) E.out.pr E.out.qr (U7 ao.1 ao.2.2 ao.2.1) E.out.tab (hP.below aR))
 rw [J.out];have ae:Hid (y=0->p.states.length<=8):=hide (fun he=>by have:=(FK (J.out.trans he)).L.2;omega);clear h h' aj ak a5 a3 aA aB aa b0 b4 b5 bh bj hT hP ap aq aG aK aL J;go_enter Tryz.func14,Tryz.ntmps14;go_wp2_with fail;refine Calls.ret (aT.out _ a2) ?_;rintro v w4 ⟨rfl,a6⟩;have ag:=hide (a2.out.at a6);have a4:=hide (C.out.trans (a6.mono C.out.size));have O:=hide (aN.out.below a6);have b7:=Ah ag.out.b2 aH.out;have ba:=Ah ag.out.b3 aJ.out;have be:=O.out.lt;have aW:=O.out.frozen;have aS:=O.out.cell;clear a6 b6 b9;by_cases G:y=0
 case neg=>
  have bi:(y != 0)=true:=by simp [G]
  have M:=hide G;obtain⟨wF,ar,U,I⟩:=Dn O.out (.int .i64 0) (.int .i64 0) sn0 sn0 sn0;have al:=hide (a4.out.trans (I.below a4.out.size fun b hb (e:b=w2.heap.size)=>by omega));have am:(loadCellsFrom ⟨w2.heap.size,0,none⟩ 0 5 #[]).run Tryz.prog wF=.ok _ wF:=Ah U rfl;unfold CK at ar;clear G U I;go_wp2_with fail;refine bodyPost_ret (v:=.tuple #[.agg BQ,.int .i64 y]) (by simp [results,Tryz.results14,go_sem,am]) rfl ⟨al.out,.inl ⟨M.out,rfl⟩⟩
 have bi:(y != 0)=false:=by simp [G]
 have M:=hide G;clear G;have ae:=hide (ae.out M.out);have V:=hide (ag.out.at (Ap w4));have b8:=Ah V.out.b2 aH.out;have bd:=Ah V.out.b3 aJ.out;have aV:=V.out.b2.cell;have aU:w4.drew.cell? ⟨w.heap.size,2,none⟩=some (.slice A1 p.states.length c1):=by rw [V.out.b2.cell];exact bg.out
 have ah:=hide (a4.out.trans ((Ap w4).mono a4.out.size));clear aV;go_wp2_with fail;refine Reg.cC [0,0,3,0,8,24,63,127,255] [0,1,3,4,5,2,6,7,8] ?_;refine Reg.rest_walk' [0,1,3,4,5] [2,6,7,8] rfl (by kernel_rfl) ?_;intro Qf j;go_wp2_with fail;first|refine j _ _ ?_|skip
 (try clear j);refine Reg.rest_act' 2 [6,7,8] [4] rfl (by kernel_rfl) ?_;intro Qf j;simp only [gT,gS,gZ];go_wp2_with fail;refine Calls.ret (aY.out M.out _ V ah.out) ?_;rintro r w5 ⟨W,t,ac,hC,hn,hD⟩;have aD:=hD w5 (Ac.refl _ _);obtain⟨A8,c8,A9,c9,rfl,-,-⟩:=hD w5 (Ac.refl _ _);go_wp2_with fail;first|refine j _ _ ⟨Reg.same_below W [4] rfl,?_⟩|refine⟨Reg.same_below W [4] rfl,?_⟩
 (try clear j);have ai:=hide (ah.out.trans (W.mono ah.out.size));have aC:=hide ((O.out.below (Ap w4)).below W);have aP:=Mk (L:=p.states.length) aD hC.ok ae.out (by omega);have aO:=hide hC;have bf:=hide hn;clear W hC hn hD aD aS aW be b7 ba b8 bd aU;refine Reg.rest_act' 6 [7,8] [] rfl (by kernel_rfl) ?_;intro Qf j;simp only [gT,gS,gZ];go_wp2_with fail;refine Calls.ret aP ?_;rintro d w6 ⟨a7,l⟩;obtain⟨au,ax,av,ay,aw,az,rfl,-,-,-,-⟩:=l w6 (Ac.refl _ _);go_wp2_with fail;first|refine j _ _ ⟨Reg.nm,?_⟩|refine⟨Reg.nm,?_⟩
 (try clear j);have Z:=hide (aC.out.below a7);have aQ:=hide (ai.out.trans (a7.mono ai.out.size));have bI:=Z.out.frozen;have bK:=Z.out.lt;have bH:=Z.out.cell;have bP:=a7.size;have bO:=ai.out.size;have bL:=aC.out.lt;clear a7;generalize (AG p.states.length t ac).letters=x0 at l ⊢;generalize (AG p.states.length t ac).states=x1 at l ⊢;generalize (AG p.states.length t ac).start.length=n1 at l ⊢;generalize (AG p.states.length t ac).accept.length=n2 at l ⊢;generalize (AG p.states.length t ac).edges.length=n3 at l ⊢;obtain⟨wF,ar,U,I⟩:=Dn Z.out (.int .i64 x0) (.int .i64 x1) (.slice au n1 ax) (.slice av n2 ay) (.slice aw n3 az);have am:(loadCellsFrom ⟨w2.heap.size,0,none⟩ 0 5 #[]).run Tryz.prog wF=.ok _ wF:=Ah U rfl;have al:=hide (aQ.out.trans (I.below (by omega) fun b hb (e:b=w2.heap.size)=>by omega));have aX:=hide (fun w'' (hk:Ac wF w'' (fun k=>k<w.heap.size))=>l w'' ((I.mono (fun b _ (e:b=w2.heap.size)=>by omega)).trans hk (fun b _ (e:b<w.heap.size)=>by omega)));unfold CK at ar;clear l U I;refine Reg.rest_walk' [7,8] [] rfl (by kernel_rfl) ?_;intro Qf j;go_wp2_with fail;first|refine j _ _ ?_|skip
 (try clear j);refine Reg.rest_end ?_;go_wp2_with fail;refine bodyPost_ret (v:=.tuple #[.agg #[.int .i64 x0,.int .i64 x1,.slice au n1 ax,.slice av n2 ay,.slice aw n3 az],.int .i64 0]) (by simp [results,Tryz.results14,go_sem,am]) rfl ⟨al.out,.inr ⟨M.out,t,ac,_,aO.out,bf.out,rfl,aX.out⟩⟩
end Go.Proofs.YtfcfpoemojjglaaGreatDoor
