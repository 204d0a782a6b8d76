/-
  Part TM of a proof.
-/
import Derived.Test.YtfcfpoemojjglaaGreatDoorPA
import Derived.Test.YtfcfpoemojjglaaGreatDoorTL
import Derived.Test.YtfcfpoemojjglaaGreatDoorTC
import Derived.Test.YtfcfpoemojjglaaGreatDoorSA
import Derived.Test.YtfcfpoemojjglaaGreatDoorUB
import Derived.Test.YtfcfpoemojjglaaGreatDoorCX
set_option maxHeartbeats 16000000
set_option maxRecDepth 100000
set_option linter.unusedVariables false
set_option linter.unusedSimpArgs false
namespace Go.Proofs.YtfcfpoemojjglaaGreatDoor
open Go.RowKit
open K (Am Az At AW C0 Ah SpOK nameOK protE Ad orE Dv DY)
attribute [-go_sem] loadCellsFrom storeCells
set_option maxHeartbeats 16000000
set_option maxRecDepth 100000
theorem ZC {p:Am} (h:AC p=0) {i:Nat} {r:Az} (y:p.rules[i]?=some r) {u v:List Int} (E:Let p.states.length u) {S:List Stp} (hS:∀t,t∈S↔EnS p u t):
  (decide (u.length=v.length)&&(A0 p r).tr.rel u v)=S.any fun t=>decide (t.1=i)&&decide (AE r u t.2.1 t.2.2=v):=by
 rw [Bool.eq_iff_iff,Bool.and_eq_true,decide_eq_true_eq,List.any_eq_true]
 constructor
 ·rintro⟨x,I⟩
  obtain⟨n,k,G,C⟩:=(Yc h y E x).1 I
  exact⟨(i,n,k),(hS _).2 ⟨r,y,G⟩,by simp [C]⟩
 ·rintro⟨t,ht,ho⟩
  rw [Bool.and_eq_true,decide_eq_true_eq,decide_eq_true_eq] at ho
  obtain⟨rfl,C⟩:=ho
  obtain⟨J,h1,F⟩:=(hS t).1 ht
  have e:r=J:=Option.some.inj (y.symm.trans h1)
  subst e
  have x:u.length=v.length:=by
   rw [←C]
   unfold AE
   split <;> simp
  exact⟨x,(Yc h y E x).2 ⟨_,_,F,C.symm⟩⟩
theorem Qc.fin1 {wd wc:World} {t1 t2:TypeId} {c1 c2:Array Value} {o2:Option Nat} {m y:Nat} {l:List Int} {v:Value} (h:Qc wd wc t1 t2 c1 c2 (some y) o2 (some v) m l) (M:3≠t1) (a1:Array Value) (h1:a1.size=c1.size) (O:a1.all (·.oneCell')=true):
  ∃C,(storeCells ⟨y,0,none⟩ a1.toList 0).run Tryz.prog wc=.ok () C∧Below wd.heap.size wd C∧Blk C y t1 a1∧C.ownsRow wd.heap.size 3 1 v m (l.map fun x=>.int .i64 x):=by
 obtain⟨U,E⟩:=h.b1 y rfl
 have G:=h.own v rfl
 obtain⟨C,J,I,F⟩:=Wn E a1 h1 O
 exact⟨C,J,h.below.trans (F.below h.below.size fun b hb (e:b=y)=>by omega),I,F.ownsRow G fun g hv (e:g=y)=>Aw G E M (by rw [hv,e])⟩
theorem ZN {w:World} {b o:Nat} {x y z:Value} (h0:w.cell? ⟨b,o,none⟩=some x) (h1:w.cell? ⟨b,o+1,none⟩=some y) (C:w.cell? ⟨b,o+2,none⟩=some z):(loadCellsFrom ⟨b,o,none⟩ 0 3 #[]).run Tryz.prog w=.ok #[x,y,z] w:=by
 have:=run_loadCells_list (P:=Tryz.prog) w ⟨b,o,none⟩ [x,y,z] (fun j v h=>by
  match j,h with
  | 0,h=>rw [show v=x by simpa using h.symm]; exact h0
  | 1,h=>rw [show v=y by simpa using h.symm]; exact h1
  | 2,h=>rw [show v=z by simpa using h.symm]; exact C)
 simpa [loadCells] using this
theorem W8 (w:World) (vs:Array Value) (E:vs.size=5) (h1:vs.all (·.oneCell')=true):∃h,Below w.heap.size w h∧Blk h w.heap.size 55 vs∧∀c:Array Value,c.size=5→(storeCells ⟨w.heap.size,0,none⟩ vs.toList 0).run Tryz.prog (w.alloc (.cells c 55))=.ok () h:=by
 obtain⟨h,F,y,x,-⟩:=Ae w vs 55
 exact⟨h,y,x,fun c C=>by rw [←F]; exact Dv w 55 5 (by kernel_rfl) E h1 c C⟩
theorem ZB {w:World} {cs:List Value} {p:Am} {z:Int} {A A':Option Addr} {c c':Nat} {u v:List Int} (h:At w w.heap.size cs p) (hf:p.Fits) (hu:Sl w w.heap.size 1 Ai A u) (hv:Sl w w.heap.size 1 Ai A' v) (hT:SpOK w) (hP:BV w):
    Calls Tryz.prog 7 #[.agg cs.toArray,.int .i64 z,.agg #[.slice A u.length c,.slice A' v.length c']] w (Ret fun r w'=>r=.bool true∧Below w.heap.size w w'):=by
  obtain⟨A1,c1,A2,c2,A3,c3,A4,c4,A5,c5,A6,c6,A7,c7,bD,q0,q1,q2,q3,q4,q5,q6,q7,q8,q9,-⟩:=h.cells
  obtain⟨nu,aj⟩:∃n,n=u.length:=⟨_,rfl⟩
  obtain⟨nv,b7⟩:∃n,n=v.length:=⟨_,rfl⟩
  rw [←aj,←b7]
  obtain⟨w1,eU,an,bb,-⟩:=Ae w cs.toArray 27
  obtain⟨w2,eV,b0,bd,-⟩:=Ae w1 #[.slice A nu c,.slice A' nv c'] 51
  have aY:=an.trans (b0.mono an.size)
  have dQ:=Ah (bb.below b0) bD
  have dI:=bd.cell
  have ct:=hide (K.Mp (h.keep (w':=w2) (B':=w2.heap.size) (fun _ F=>aY.cell F) aY.size) hf)
  have dj:=hide (bb.below b0)
  have dp:=hide bd
  have aC:=hide bD
  have cj:=hide aY
  have eN:=hide hT
  have aV:=hide hP
  have cR:=hide hu
  have cS:=hide hv
  have bA:=hide aj
  have cG:=hide b7
  have dY:=hu.1
  have dZ:=hv.1
  rw [←aj] at dY
  rw [←b7] at dZ
  obtain⟨ns,bz⟩:∃n,n=p.states.length:=⟨_,rfl⟩
  rw [←bz] at q2
  have ee:=hide q2
  have cF:=hide bz
  have eM:=hide h
  have bo:p.Small→C1 p z≠0→Hid (∀C,Below w.heap.size w C→Calls Tryz.prog 21 #[.agg cs.toArray,.int .i64 z] C (Ret fun v w'=>Below C.heap.size C w'∧v=.tuple #[.agg H6,.int .i64 (C1 p z)])):=fun I G=>hide fun C E=>
    aAy (h.keep (fun _ F=>E.cell F) E.size) I (hT.below E) G
  have bp:p.Small→C1 p z≠0→Hid (∀C,Below w.heap.size w C→Calls Tryz.prog 22 #[.agg cs.toArray,.int .i64 z] C (Ret fun v w'=>Below C.heap.size C w'∧v=.tuple #[.agg H6,.int .i64 (C1 p z)])):=fun I G=>hide fun C E=>
    aAa (h.keep (fun _ F=>E.cell F) E.size) I (hT.below E) G
  have bB:p.Small→AC p=0→Hid (∀C (i:Nat) r,Below w.heap.size w C→p.rules[i]?=some r→Calls Tryz.prog 21 #[.agg cs.toArray,.int .i64 (i:Int)] C (Ret fun v w'=>Xh C 0 (A0 p r).tr v w')):=fun I G=>hide fun C i r E V=>
    aAz (h.keep (fun _ F=>E.cell F) E.size) I (hT.below E) G V
  have bC:p.Small→AC p=0→Hid (∀C (i:Nat) r,Below w.heap.size w C→p.rules[i]?=some r→Calls Tryz.prog 22 #[.agg cs.toArray,.int .i64 (i:Int)] C (Ret (Xw C 0))):=fun I G=>hide fun C i r E V=>
    aAb (h.keep (fun _ F=>E.cell F) E.size) I (hT.below E) G V
  have cw:Hid (∀C,nu≤8→Below w.heap.size w C→Calls Tryz.prog 18 #[.slice A nu c] C (Ret fun v w'=>Below C.heap.size C w'∧∃J cap,v=.agg #[.slice none 0 0,.slice J nu cap,.int .i64 (nu:Int),.slice none 0 0,.slice none 0 0,.int .i64 0]∧w'.ownsRow C.heap.size 3 1 (.slice J nu cap) nu (u.map fun x=>.int .i64 x))):=hide fun C h8 E=>Yz (cR.out.keep (fun _ F=>E.cell F) E.size) aj (by omega)
  have bH:p.Small→AC p=0→nu≤8→Let p.states.length u→Hid (∀C J cap,Below w.heap.size w C→Sl C C.heap.size 1 Ai J u→Calls Tryz.prog 24 #[.agg cs.toArray,.agg #[.int .i64 (nu:Int),.int .i64 0,.int .i64 0],.agg #[.slice none 0 0,.slice J nu cap,.int .i64 (nu:Int),.slice none 0 0,.slice none 0 0,.int .i64 0]] C (Ret fun v w'=>Below C.heap.size C w'∧∃(y:Value) (e:Int),v=.tuple #[y,.int .i64 e]∧WW p u y w')):=fun I G h8 bq=>hide fun C J cap E hs=>
    Yo (h.keep (fun _ F=>E.cell F) E.size) I (hT.below E) G hs aj bq h8
  have bl:p.Small→AC p=0→nu≤8→Let p.states.length u→Hid (∀C J cap (t:Stp) r,Below w.heap.size w C→Sl C C.heap.size 1 Ai J u→p.rules[t.1]?=some r→EnR p.topo r u t.2.1 t.2.2→Calls Tryz.prog 25 #[.agg cs.toArray,.agg #[.int .i64 (nu:Int),.int .i64 0,.int .i64 0],.agg #[.slice none 0 0,.slice J nu cap,.int .i64 (nu:Int),.slice none 0 0,.slice none 0 0,.int .i64 0],.agg #[.int .i64 (t.1:Int),.int .i64 (t.2.1:Int),.int .i64 t.2.2]] C (Ret fun v w'=>Below C.heap.size C w'∧∃y,v=.tuple #[y,.int .i64 0]∧Wo C nu (AE r u t.2.1 t.2.2) y w')):=fun I G h8 bq=>hide fun C J cap t r E hs V hE=>
    Yh (h.keep (fun _ F=>E.cell F) E.size) I (hT.below E) G hs aj h8 bq V hE
  generalize cs.toArray=pc at*
  clear h hf hu hv hT hP an bb b0 bd aY bD q0 q1 q2 q3 q4 q5 q6 q7 q8 q9 aj b7 bz
  go_enter Tryz.func7,Tryz.ntmps7
  go_wp2_with fail
  refine Calls.ret ct.out ?_
  rintro r w3 ⟨⟨b1,rfl,an⟩,b4⟩
  have dG:=hide an
  have a5:=hide (cj.out.trans (b4.mono cj.out.size))
  have bc:=hide (dj.out.below b4)
  have bZ:=hide (dp.out.below b4)
  have cD:=Ah bc.out aC.out
  have dJ:=bZ.out.cell
  have cB:=hide (W7 (aV.out.below a5.out))
  clear an b4 dQ dI ct
  by_cases aq:b1=true∨(b1=false∧8<nu)∨(b1=false∧¬8<nu∧8<nv)
  · rcases aq with rfl | ⟨rfl,h1⟩ | ⟨rfl,h1,h2⟩
    all_goals
      try have g1:(8:Int)<(nu:Int):=by omega
      try have eJ:¬(8:Int)<(nu:Int):=by omega
      try have g2:(8:Int)<(nv:Int):=by omega
      go_wp2_with fail
      refine Calls.ret cB.out ?_
      rintro r W ⟨rfl,U⟩
      have ae:=hide (a5.out.trans (U.mono a5.out.size))
      clear U
      go_wp2_with fail
      go_ret
      exact⟨rfl,ae.out⟩
  · have hs:b1=false∧¬8<nu∧¬8<nv:=by
      cases b1
      · refine⟨rfl,fun x=>aq (.inr (.inl ⟨rfl,x⟩)),fun x=>aq (.inr (.inr ⟨rfl,fun y=>aq (.inr (.inl ⟨rfl,y⟩)),x⟩))⟩
      · exact absurd (.inl rfl) aq
    obtain⟨rfl,h1,h2⟩:=hs
    clear aq
    have g1:¬(8:Int)<(nu:Int):=by omega
    have g2:¬(8:Int)<(nv:Int):=by omega
    have I:=dG.out rfl
    by_cases G:C1 p z=0
    case neg=>
      have co:=hide ((bo I G).out w3 a5.out)
      have cp:=bp I G
      have dM:=hide G
      obtain⟨e,cx⟩:∃e,e=C1 p z:=⟨_,rfl⟩
      rw [←cx] at co cp dM G
      have eQ:(e != 0)=true:=by simp [G]
      have hq:(e != e)=false:=by simp
      clear bo bp bB bC bH bl cx G
      go_wp2_with fail
      refine Calls.ret co.out ?_
      rintro r W ⟨U,rfl⟩
      have ae:=hide (a5.out.trans (U.mono a5.out.size))
      obtain⟨w5,a4,aw,ar⟩:=W8 W H6 rfl (by simp [Value.oneCell'])
      have bG:∀c:Array Value,c.size=5→(storeCells ⟨W.heap.size,0,none⟩ [.int .i64 0,.int .i64 0,.slice none 0 0,.slice none 0 0,.slice none 0 0] 0).run Tryz.prog (W.alloc (.cells c 55))=.ok () w5:=ar
      have af:=hide (ae.out.trans (a4.mono ae.out.size))
      have br:=Ah ((bc.out.below U).below (a4.mono (Nat.le_refl _))) aC.out
      have dU:=hide (cp.out w5 af.out)
      have aR:=hide aw
      clear ar aw a4 U cD
      go_wp2_with fail
      refine Calls.ret dU.out ?_
      rintro r w6 ⟨ag,rfl⟩
      have ck:=hide (af.out.trans (ag.mono af.out.size))
      obtain⟨Z,ap,be,aE⟩:=W8 w6 H6 rfl (by simp [Value.oneCell'])
      have cO:∀c:Array Value,c.size=5→(storeCells ⟨w6.heap.size,0,none⟩ [.int .i64 0,.int .i64 0,.slice none 0 0,.slice none 0 0,.slice none 0 0] 0).run Tryz.prog (w6.alloc (.cells c 55))=.ok () Z:=aE
      have a3:=hide (ck.out.trans (ap.mono ck.out.size))
      have ax:=hide ((aR.out.below ag).below ap)
      have e1:Z.cell? ⟨W.heap.size,1,none⟩=some (.int .i64 0):=ax.out.cell 1
      have e4:Z.cell? ⟨W.heap.size,4,none⟩=some (.slice none 0 0):=ax.out.cell 4
      have dN:=hide (W7 (aV.out.below a3.out))
      clear aE be ap ag br bG
      go_wp2_with fail
      refine Calls.ret dN.out ?_
      rintro r w8 ⟨rfl,ad⟩
      have a6:=hide (a3.out.trans (ad.mono a3.out.size))
      clear ad
      go_wp2_with fail
      go_ret
      exact⟨rfl,a6.out⟩
    case pos=>
      have a8:AC p=0:=by
        unfold C1 at G
        split at G
        · rename_i h0; exact absurd G h0
        · rename_i h0; simpa using h0
      have e5:0≤z∧z<p.rules.length:=by
        unfold C1 at G
        rw [if_neg (by simp [a8])] at G
        split at G
        · rename_i h0; exact h0
        · cases G
      obtain⟨i,rfl⟩:∃i:Nat,z=(i:Int):=⟨z.toNat,by omega⟩
      obtain⟨r,V⟩:=An (l:=p.rules) (i:=i) (by omega)
      have bE:=hide V
      have eT:=hide a8
      have bh:=hide ((bB I a8).out w3 i r a5.out V)
      have dw:=bC I a8
      have cL:=bH I a8 (by omega)
      have cg:=bl I a8 (by omega)
      have aT:Hid ((A0 p r).tr.letters=(ns:Int)∧(A0 p r).tr.states≤36∧(A0 p r).tr.In):=hide (by
        have:=(X3 a8).at (A0 p r).tr (List.mem_map.2 ⟨r,List.mem_of_getElem? V,rfl⟩)
        exact⟨by rw [this.2.2.1,cF.out],this.2.2.2,this.1⟩)
      have bs:Hid (∀S:List Stp,Let p.states.length u→(∀t,t∈S↔EnS p u t)→(decide (u.length=v.length)&&(A0 p r).tr.rel u v)=S.any fun t=>decide (t.1=i)&&decide (AE r u t.2.1 t.2.2=v)):=hide fun S hu hS=>ZC a8 V hu hS
      obtain⟨T,cf⟩:∃T,T=(A0 p r).tr:=⟨_,rfl⟩
      rw [←cf] at bh aT bs
      clear bo bp bB bC bH bl G cf e5 V a8
      go_wp2_with fail
      refine Calls.ret bh.out ?_
      rintro q W ⟨U,⟨h0,-⟩ | ⟨-,d,rfl,M⟩⟩
      case inl=>exact absurd rfl h0
      have ae:=hide (a5.out.trans (U.mono a5.out.size))
      obtain⟨E1,k1,E2,k2,E3,k3,hd,-⟩:=M W (Ac.refl _ _)
      subst hd
      obtain⟨w5,a4,aw,ar⟩:=W8 W #[.int .i64 T.letters,.int .i64 T.states,.slice E1 T.start.length k1,.slice E2 T.accept.length k2,.slice E3 T.moves.length k3] rfl (by simp [Value.oneCell'])
      have af:=hide (ae.out.trans (a4.mono ae.out.size))
      have bW:=hide ((bc.out.below U).below a4)
      have dm:=hide ((bZ.out.below U).below a4)
      have bf:=hide (fun C (E:Below w5.heap.size w5 C)=>M C (Ac.of_below (a4.trans (E.mono a4.size)) _))
      have aR:=hide aw
      have br:=Ah bW.out aC.out
      have ce:=hide (dw.out w5 i r af.out bE.out)
      obtain⟨TL,aW⟩:∃z,z=T.letters:=⟨_,rfl⟩
      obtain⟨TS,aX⟩:∃z,z=T.states:=⟨_,rfl⟩
      obtain⟨n1,bu⟩:∃z,z=T.start.length:=⟨_,rfl⟩
      obtain⟨n2,bv⟩:∃z,z=T.accept.length:=⟨_,rfl⟩
      obtain⟨n3,bw⟩:∃z,z=T.moves.length:=⟨_,rfl⟩
      have dy:TL=(ns:Int):=by rw [aW]; exact aT.out.1
      have eO:TS≤36:=by rw [aX]; exact aT.out.2.1
      have aB:=hide (And.intro aW (And.intro aX (And.intro bu (And.intro bv bw))))
      rw [←aW,←aX,←bu,←bv,←bw] at ar aR ⊢
      subst dy
      have bG:∀c:Array Value,c.size=5→(storeCells ⟨W.heap.size,0,none⟩ [.int .i64 (ns:Int),.int .i64 TS,.slice E1 n1 k1,.slice E2 n2 k2,.slice E3 n3 k3] 0).run Tryz.prog (W.alloc (.cells c 55))=.ok () w5:=ar
      clear ar M aw a4 U cD dJ cB aW aX bu bv bw bh
      go_wp2_with fail
      refine Calls.ret ce.out ?_
      rintro q w6 ⟨ag,a2,b2,F1,m1,j1,F2,m2,j2,F3,m3,j3,rfl⟩
      obtain⟨Z,ap,be,aE⟩:=W8 w6 #[.int .i64 a2,.int .i64 b2,.slice F1 m1 j1,.slice F2 m2 j2,.slice F3 m3 j3] rfl (by simp [Value.oneCell'])
      have cO:∀c:Array Value,c.size=5→(storeCells ⟨w6.heap.size,0,none⟩ [.int .i64 a2,.int .i64 b2,.slice F1 m1 j1,.slice F2 m2 j2,.slice F3 m3 j3] 0).run Tryz.prog (w6.alloc (.cells c 55))=.ok () Z:=aE
      have ao:=hide (ag.trans (ap.mono ag.size))
      have a3:=hide (af.out.trans (ao.out.mono af.out.size))
      have di:=hide (bW.out.below ao.out)
      have c0:=hide (dm.out.below ao.out)
      have ax:=hide (aR.out.below ao.out)
      have dK:=c0.out.cell
      have dR:=Ah ax.out (n:=5) rfl
      obtain⟨G1,y1,G2,y2,G3,y3,hd,dx⟩:=bf.out Z ao.out
      have hrel:=Yl (c:=c) (c':=c') (bf.out Z ao.out) (cR.out.keep (w':=Z) (B':=Z.heap.size) (fun _ F=>a3.out.cell F) a3.out.size) (cS.out.keep (w':=Z) (B':=Z.heap.size) (fun _ F=>a3.out.cell F) a3.out.size) (Nat.le_refl _) (Nat.le_refl _)
      rw [←bA.out,←cG.out,←aB.out.1,←aB.out.2.1,←aB.out.2.2.1,←aB.out.2.2.2.1,←aB.out.2.2.2.2] at hrel
      obtain⟨x,E⟩:∃x,x=(T.relV u v&&decide (u.length=v.length)&&T.rel u v):=⟨_,rfl⟩
      have cc:T.relR u v=.tuple #[.bool x,.int .i64 (De (T.relV u v))]:=by rw [E]; rfl
      rw [cc] at hrel
      have cK:=hide hrel
      have e2:=hide E
      clear aE be ap ag br bG hrel cc E hd dx bf ce
      go_wp2_with fail
      refine Calls.ret cK.out ?_
      rintro q w8 ⟨rfl,ad⟩
      have a6:=hide (a3.out.trans (ad.mono a3.out.size))
      have bX:=hide (di.out.below ad)
      have c8:=hide (c0.out.below ad)
      have dt:=hide (ax.out.below ad)
      have dc:=dt.out.cell
      have db:=(bX.out.cell 2).trans ee.out
      have eK:TS≤400:=by omega
      clear ad cK cO dR dK
      cases ak:T.relV u v
      case false=>
        rw [show De false=1 from rfl]
        have dO:=hide (W7 (aV.out.below a6.out))
        clear ak
        go_wp2_with fail
        refine Calls.ret dO.out ?_
        rintro q w9 ⟨rfl,a7⟩
        have az:=hide (a6.out.trans (a7.mono a6.out.size))
        clear a7
        go_wp2_with fail
        go_ret
        exact⟨rfl,az.out⟩
      case true=>
        rw [show De true=0 from rfl]
        have aU:Let p.states.length u:=by
          unfold TR.relV at ak
          rw [aT.out.1,cF.out] at ak
          simp only [Bool.and_eq_true,List.all_eq_true] at ak
          exact ak.1.2
        have cT:Hid (∀S:List Stp,(∀t,t∈S↔EnS p u t)→x=S.any fun t=>decide (t.1=i)&&decide (AE r u t.2.1 t.2.2=v)):=hide fun S hS=>by
          rw [e2.out,ak,Bool.true_and]
          exact bs.out S aU hS
        have cM:=cL aU
        have dD:=cg aU
        have bm:=a6.out.trans ((Ap w8).mono a6.out.size)
        have cv:=hide (fun C (E:Below w8.drew.heap.size w8.drew C)=>cw.out C (by omega) (bm.trans (E.mono bm.size)))
        clear ak bs aU cL cg cw
        go_wp2_with fail
        refine aAw (u:=u) c8.out cv.out ?_ ?_
        · repeat (first | refine Reg.NoQ.then ?_ | refine Reg.NoQ.inBlock ?_ | exact Reg.NoQ.body (fun _ _ h=>h) (fun _ h=>h))
        iterate 7 (intro _)
        intro w9 eH eI J cap a7 eo ep bi bj ay
        have a7:=(Ap w8).trans (a7.mono (Ap w8).size)
        have az:=hide (a6.out.trans (a7.mono a6.out.size))
        have bY:=hide (bX.out.below a7)
        have dn:=hide (c8.out.below a7)
        have dz:=hide bi
        have dB:=hide bj
        have bF:Sl w9 w9.heap.size 1 Ai J u:=by
          obtain⟨Aq,cq,eq,hq⟩:=B8 (B:=w9.heap.size) ay bA.out.symm (Nat.le_refl _) (by omega)
          cases eq
          exact hq
        have dW:=hide bF
        have e7:=Ah bY.out aC.out
        have e8:=Ah bi (n:=3) rfl
        have e9:=Ah bj (n:=6) rfl
        have cQ:=hide (cM.out w9 J cap az.out bF)
        clear a7 bi bj ay bF cM cv bm eo ep dc db
        go_wp2_with fail
        refine Calls.ret cQ.out ?_
        rintro q aL ⟨ac,yv,eG,rfl,S,er,ez,rfl,bg,bt⟩
        have ci:=hide (az.out.trans (ac.mono az.out.size))
        have dh:=hide (bY.out.below ac)
        have dl:=hide (dn.out.below ac)
        have dA:=hide (dz.out.below ac)
        have dC:=hide (dB.out.below ac)
        have dV:=hide (dW.out.keep (w':=aL) (B':=aL.heap.size) (fun _ F=>ac.cell F) ac.size)
        have du:=hide bg
        have e3:=hide (cT.out S bt)
        have dT:=hide bt
        have dv:=bg.1
        clear ac bg bt cQ cT e7 e8 e9
        obtain⟨nS,bx⟩:∃n,n=S.length:=⟨_,rfl⟩
        rw [←bx] at dv ⊢
        have cE:=hide bx
        clear bx
        go_wp2_with fail
        go_loopw [17,18] (fun yy ii wr=>∃(j:Nat) (y:Bool),yy=.bool y∧ii=.int .i64 (j:Int)∧j≤nS∧Hid (y=(S.take j).any fun t=>decide (t.1=i)&&decide (AE r u t.2.1 t.2.2=v))∧Hid (Below aL.heap.size aL wr)) (fun _ ii _=>nS - (intOf ii).toNat)
        case atStart=>exact⟨0,false,rfl,rfl,Nat.zero_le _,by show _=_; simp,Below.refl _ _⟩
        case round=>
          obtain⟨j,y,rfl,rfl,hj,hy,ai⟩:=hrel
          have aA:=hide (ci.out.trans (ai.out.mono ci.out.size))
          have dk:=hide (dh.out.below ai.out)
          have dr:=hide (dl.out.below ai.out)
          by_cases dS:j<nS
          · have cd:=du.out.keep (w':=wr) (B':=aL.heap.size) (fun _ F=>ai.out.cell F) (Nat.le_refl _)
            obtain⟨b,off,t,hA,eP,ht,b5⟩:=cd.at (show j<S.length by rw [←cE.out]; exact dS)
            subst hA
            obtain⟨a,n,k⟩:=t
            have dX:=hide ht
            have b6:Hid ((S.take (j+1)).any (fun t=>decide (t.1=i)&&decide (AE r u t.2.1 t.2.2=v))=(y||(decide (a=i)&&decide (AE r u n k=v)))):=hide (by rw [B5 ht,List.any_append,←hy.out]; simp)
            have h0:wr.cell? ⟨b,off+j*3,none⟩=some (.int .i64 (a:Int)):=b5 0 (by decide)
            have h1:wr.cell? ⟨b,off+j*3+1,none⟩=some (.int .i64 (n:Int)):=b5 1 (by decide)
            have h2:wr.cell? ⟨b,off+j*3+2,none⟩=some (.int .i64 k):=b5 2 (by decide)
            have eS:(j:Int)<(nS:Int):=by omega
            clear cd b5 ht
            by_cases bk:a=i
            case neg=>
              have dE:((a:Int)==(i:Int))=false:=by simp; omega
              have aG:Hid (y=(S.take (j+1)).any fun t=>decide (t.1=i)&&decide (AE r u t.2.1 t.2.2=v)):=hide (by rw [b6.out]; simp [bk])
              clear bk h1 h2
              go_wp2_with fail
              exact⟨⟨j+1,y,rfl,by go_num,by omega,aG,ai⟩,by simp [intOf]; omega⟩
            subst bk
            have dE:((a:Int)==(a:Int))=true:=by simp
            have hE:EnR p.topo r u n k:=by
              obtain⟨r',q1,q2⟩:=(dT.out _).1 (List.mem_of_getElem? dX.out)
              have e:r=r':=Option.some.inj (bE.out.symm.trans q1)
              subst e
              exact q2
            have ah:=ai.out.trans ((Ap wr).mono ai.out.size)
            have aZ:=hide (aA.out.trans ((Ap wr).mono aA.out.size))
            have l1:=Ah (dk.out.below (Ap wr)) aC.out
            have l2:=Ah (dA.out.below ah) (n:=3) rfl
            have l3:=Ah (dC.out.below ah) (n:=6) rfl
            have l4:(loadCellsFrom ⟨b,off+j*3,none⟩ 0 3 #[]).run Tryz.prog wr.drew=.ok #[.int .i64 (a:Int),.int .i64 (n:Int),.int .i64 k] wr.drew:=ZN (h0:wr.drew.cell? ⟨b,off+j*3,none⟩=_) (h1:wr.drew.cell? ⟨b,off+j*3+1,none⟩=_) (h2:wr.drew.cell? ⟨b,off+j*3+2,none⟩=_)
            have ch:=hide (fun C (E:Below wr.drew.heap.size wr.drew C)=>dD.out C J cap (a,n,k) r (aZ.out.trans (E.mono aZ.out.size)) (dV.out.keep (w':=C) (B':=C.heap.size) (fun _ F=>(ah.trans (E.mono ah.size)).cell F) (Nat.le_trans ah.size E.size)) bE.out hE)
            have M:Hid (Qc wr.drew wr.drew 46 44 #[.slice none 0 0,.slice none 0 0,.int .i64 0,.slice none 0 0,.slice none 0 0,.int .i64 0] #[] none none none nu (AE r u n k)):=hide ⟨Below.refl _ _,fun g e=>(by cases e),fun g e=>(by cases e),fun g e=>(by cases e)⟩
            have dq:=hide (dr.out.below (Ap wr))
            have cr:=hide ah
            have cH:Hid ((AE r u n k).length=nu):=hide (by rw [ZY,bA.out])
            obtain⟨ol,cJ⟩:∃x,x=AE r u n k:=⟨_,rfl⟩
            rw [←cJ] at ch M b6 cH
            clear cJ
            clear hE ah h1 h2
            go_wp2_with fail
            refine Reg.region_spl [0,0,0,0,0,24,56,127,255,511,511,0,3071,8191] (.node 7 11 (.leaf [0,1,2,3,4,5,6,7,8,9,10,11,12,13]) (.leaf [0,1,2,3,4,5,6,11,7,8,9,10,12,13])) (by kernel_rfl) ?_ ?_
            · repeat (first | refine Reg.NoQ.then ?_ | refine Reg.NoQ.inBlock ?_ | exact Reg.NoQ.body (fun _ _ h=>h) (fun _ h=>h))
            dsimp only [Reg.Spl.goal]
            refine And.intro ?_ ?_
            all_goals
              refine Reg.rest_walkE [0,1,2,3,4,5,6] _ rfl rfl (by kernel_rfl) ?_
              intro Qf O
              go_wp2_with fail
              first | refine O _ _ ?_ | skip
              try clear O
              clear l1 l2 l3 l4 h0
              iterate 2
                first
                | (refine Reg.rest_walkE [11] _ rfl rfl (by kernel_rfl) ?_
                   intro Qf O
                   obtain⟨wn,e0,aa,cA⟩:=M.out.put1
                   obtain⟨bV,cz⟩:=Ws cA
                   rw [cz] at aa
                   have aa:=hide aa
                   go_wp2_with fail
                   first | refine O _ _ ?_ | skip
                   try clear O
                   clear M e0 cz cA
                   have M:=aa
                   clear aa)
                | (refine Reg.rest_act' 7 _ [] rfl (by kernel_rfl) ?_
                   intro Qf O
                   try simp only [gT,gS,gZ]
                   go_wp2_with fail
                   refine Calls.ret (ch.out _ M.out.below) ?_
                   rintro q wm ⟨cu,yy,rfl,Z0,z0,S1,s1,Z3,z3,Z4,z4,rfl,ay⟩
                   have aa:=hide (M.out.row cu ay)
                   clear M ay
                   go_wp2_with fail
                   first | refine O _ _ ⟨Reg.nm,?_⟩ | refine⟨Reg.nm,?_⟩
                   try clear O
                   clear cu
                   have M:=aa
                   clear aa
                   refine Reg.rest_walkE [8,9,10] _ rfl rfl (by kernel_rfl) ?_
                   intro Qf O
                   go_wp2_with fail
                   first | refine O _ _ ?_ | skip
                   try clear O)
              refine Reg.rest_walkE [12,13] [] rfl rfl (by kernel_rfl) ?_
              intro Qf O
              obtain⟨wF,hF,hB,B1,hO⟩:=M.out.fin1 (by decide) #[.slice Z0 0 z0,.slice S1 nu s1,.int .i64 (nu:Int),.slice Z3 0 z3,.slice Z4 0 z4,.int .i64 0] rfl (by simp [Value.oneCell'])
              have eL:(storeCells ⟨bV,0,none⟩ [.slice Z0 0 z0,.slice S1 nu s1,.int .i64 (nu:Int),.slice Z3 0 z3,.slice Z4 0 z4,.int .i64 0] 0).run Tryz.prog _=.ok () wF:=hF
              have bn:=hide (cr.out.trans (hB.mono cr.out.size))
              have cl:=hide (aZ.out.trans (hB.mono aZ.out.size))
              have eA:wF.cell? ⟨bV,1,none⟩=some (.slice S1 nu s1):=B1.cell 1
              have eD:=(dq.out.below hB).cell
              have dL:Hid (Calls Tryz.prog 26 #[.slice S1 nu s1,.slice A' nv c'] wF (Ret fun r w'=>r=.bool (decide (ol=v))∧Below wF.heap.size wF w')):=hide (by
                obtain⟨Aq,cq,eq,hq⟩:=B8 (B:=wF.heap.size) hO cH.out (Nat.le_refl _) (by omega)
                cases eq
                have:=KX (w:=wF) (c1:=s1) (c2:=c') hq (cS.out.keep (w':=wF) (B':=wF.heap.size) (fun _ F=>cl.out.cell F) cl.out.size) (Nat.le_refl _) (Nat.le_refl _)
                rw [←cG.out] at this
                exact this)
              clear hB B1 hO M hF
              go_wp2_with fail
              first | refine O _ _ ?_ | skip
              try clear O
              refine Reg.rest_end ?_
              cases y
              · go_wp2_with fail
                refine Calls.ret dL.out ?_
                rintro q eY ⟨rfl,cn⟩
                have dH:=hide (bn.out.trans (cn.mono bn.out.size))
                have aG:Hid (decide (ol=v)=(S.take (j+1)).any fun t=>decide (t.1=a)&&decide (AE r u t.2.1 t.2.2=v)):=hide (by rw [b6.out]; simp)
                clear cn
                go_wp2_with fail
                exact⟨⟨j+1,_,rfl,by go_num,by omega,aG,dH⟩,by simp [intOf]; omega⟩
              · have aG:Hid (true=(S.take (j+1)).any fun t=>decide (t.1=a)&&decide (AE r u t.2.1 t.2.2=v)):=hide (by rw [b6.out]; simp)
                go_wp2_with fail
                exact⟨⟨j+1,true,rfl,by go_num,by omega,aG,bn⟩,by simp [intOf]; omega⟩
          · obtain rfl:nS=j:=by omega
            have cV:x=y:=by rw [e3.out,hy.out,List.take_of_length_le (by rw [←cE.out]; exact Nat.le_refl _)]
            have eW:(x==y)=true:=by simp [cV]
            have dP:=hide (W7 (aV.out.below aA.out))
            clear cV
            go_wp2_with fail
            refine Calls.ret dP.out ?_
            rintro q eX ⟨rfl,cm⟩
            have dF:=hide (aA.out.trans (cm.mono aA.out.size))
            clear cm
            go_wp2_with fail
            go_ret
            exact⟨rfl,dF.out⟩
end Go.Proofs.YtfcfpoemojjglaaGreatDoor
