/-
  Part PG of a proof.
-/
import Derived.WalkMore
import Derived.ScopeJumps
import Derived.Test.YtfcfpoemojjglaaGreatDoorPA
import Derived.Test.YtfcfpoemojjglaaGreatDoorPF
set_option maxHeartbeats 16000000
set_option maxRecDepth 100000
set_option linter.unusedVariables false
set_option linter.unusedSimpArgs false
namespace Go.Proofs.YtfcfpoemojjglaaGreatDoor
open Go.RowKit
set_option maxHeartbeats 16000000
set_option maxRecDepth 100000
def Bc (m:List Bool):List Nat:=(List.range m.length).filter fun q=>m.getD q false
theorem Fx (m:List Bool):AJ m=Ak (Bc m):=rfl
theorem SY {m k:List Bool} (y:m.length=k.length) (h:Bc m=Bc k):m=k:=SX y (by rw [Fx,Fx,h])
theorem GW {m:List Bool} {n:Nat} (y:m.length=n):∀x∈Bc m,x<n:=fun x h=>by
 have:=List.mem_range.1 (List.mem_filter.1 h).1
 omega
def DA (l:List Nat):ByteArray:=⟨(Cw l).toArray⟩
theorem QE (a b:List Nat) (h:DA a=DA b):a=b:=by
 unfold DA at h
 injection h with h
 exact JM (by simpa using congrArg Array.toList h)
def Dq (l:List Nat):Value:=.string (DA l)
theorem FV:El Tryz.prog 9 Dq:=QL Tryz.underlying9 DA QE
theorem Fa (w:World):(zeroValue 3).run Tryz.prog w=.ok (.int .i64 0) w:=by kernel_rfl
def Ax {S:Type} [DecidableEq S] (l:List S) (a:S):Nat:=l.idxOf a
theorem JY {S T:Type} [DecidableEq S] [DecidableEq T] {f:S→T}:∀{l:List S} {a:S},(∀b∈l,f b=f a→b=a)→Ax (l.map f) (f a)=Ax l a∧(f a∈l.map f↔a∈l)
 | [],a,_=>⟨rfl,by simp⟩
 | b::l,a,h=>by
  obtain⟨C,I⟩:=JY (f:=f) (l:=l) (a:=a) fun c J=>h c (List.mem_cons_of_mem _ J)
  by_cases e:b=a
  ·subst e
   simp [Ax]
  ·have z:f b≠f a:=fun M=>e (h b List.mem_cons_self M)
   have E:(f b==f a)=false:=by simpa using z
   have G:(b==a)=false:=by simpa using e
   unfold Ax at C ⊢
   rw [List.map_cons,List.idxOf_cons,List.idxOf_cons,E,G]
   refine⟨by rw [C],?_⟩
   rw [List.mem_cons,List.mem_cons,I]
   constructor
   ·rintro(y | y)
    ·exact absurd y.symm z
    ·exact .inr y
   ·rintro(y | y)
    ·exact absurd y.symm e
    ·exact .inr y
structure BK (w0 wr:World) (a:NF) (g2 g4 g6 g7 gm:Nat) (cs:Array Value) (vN vA vS:Value) (all:List (List Bool)) (t:List (List Nat)) (us ws:List Value) (N:Nat→Prop):Prop where
 below:Below w0.heap.size w0 wr
 b2:Blk wr g2 88 cs
 b4:Blk wr g4 78 #[vN,vA]
 b6:Blk wr g6 221 #[.map (some gm)]
 b7:Blk wr g7 75 #[vS]
 map:Bw wr gm ((all.map Bc).map Dq)
 sets:wr.ownsRow w0.heap.size 24 1 vS all.length us
 setR:Cl wr w0.heap.size N us (all.map AJ)
 acc:wr.ownsRow w0.heap.size 4 1 vA all.length ((all.map a.has).map Value.bool)
 nxt:wr.ownsRow w0.heap.size 24 1 vN t.length ws
 nxtR:Cl wr w0.heap.size N ws (t.map Ak)
 sep:∀g,vS.ownBlock=some g→vN.ownBlock≠some g
 ge:w0.heap.size≤g2∧w0.heap.size≤g4∧w0.heap.size≤g6∧w0.heap.size≤g7∧w0.heap.size≤gm
 len:∀m∈all,m.length=a.n
section
variable {w0 wr w':World} {a:NF} {g2 g4 g6 g7 gm:Nat} {cs:Array Value} {vN vA vS:Value} {all:List (List Bool)} {t:List (List Nat)} {us ws:List Value} {N:Nat→Prop}
theorem BK.keep (h:BK w0 wr a g2 g4 g6 g7 gm cs vN vA vS all t us ws N) (y:Below wr.heap.size wr w'):BK w0 w' a g2 g4 g6 g7 gm cs vN vA vS all t us ws N:=
 ⟨h.below.trans (y.mono h.below.size),h.b2.below y,h.b4.below y,h.b6.below y,h.b7.below y,h.map.keep (y.block _ h.map.lt),Bt h.sets y,
  h.setR.keep (Ac.of_below y (fun _=>False)) (fun _ _ _ e=>e.elim) (fun _ _ x=>x) (Nat.le_refl _),Bt h.acc y,Bt h.nxt y,h.nxtR.keep (Ac.of_below y (fun _=>False)) (fun _ _ _ e=>e.elim) (fun _ _ x=>x) (Nat.le_refl _),h.sep,h.ge,h.len⟩
theorem BK.weak {N':Nat→Prop} (h:BK w0 wr a g2 g4 g6 g7 gm cs vN vA vS all t us ws N) (y:∀g,g<wr.heap.size→N g→N' g):BK w0 wr a g2 g4 g6 g7 gm cs vN vA vS all t us ws N':=
 ⟨h.below,h.b2,h.b4,h.b6,h.b7,h.map,h.sets,h.setR.keep (Ac.refl wr (fun _=>False)) (fun _ _ _ e=>e.elim) y (Nat.le_refl _),h.acc,h.nxt,h.nxtR.keep (Ac.refl wr (fun _=>False)) (fun _ _ _ e=>e.elim) y (Nat.le_refl _),h.sep,h.ge,h.len⟩
theorem BK.idx (h:BK w0 wr a g2 g4 g6 g7 gm cs vN vA vS all t us ws N) {m:List Bool} (z:m.length=a.n):Ax (all.map Bc) (Bc m)=Ax all m∧(Bc m∈all.map Bc↔m∈all):=
 JY fun b y e=>SY ((h.len b y).trans z.symm) e
theorem BK.add {m:List Bool} {r vS' vA':Value} {wm w1 w2 w3 Z:World} (h:BK w0 wr a g2 g4 g6 g7 gm cs vN vA vS all t us ws N) (hm:m.length=a.n)
  (hr:wr.ownsRow w0.heap.size 3 1 r (AJ m).length ((AJ m).map (Value.int .i64))) (ay:∀g,r.ownBlock=some g→N g)
  (ad:Bw wm gm (((all.map Bc)++[Bc m]).map Dq)) (z:wr.grownBy wm (some gm)) (aK:wm.heap.size=wr.heap.size)
  (M:Ac wm w1 (fun k=>vS.ownBlock=some k)) (av:w1.ownsRow w0.heap.size 24 1 vS' (all.length+1) (us++[r])) (au:BJ wm vS vS')
  (aA:w2=w1.setCell ⟨g7,0,none⟩ vS') (G:Below w2.heap.size w2 w3)
  (C:Ac w3 Z (fun k=>vA.ownBlock=some k)) (aw:Z.ownsRow w0.heap.size 4 1 vA' (all.length+1) ((all.map a.has).map Value.bool++[.bool (a.has m)])):
  BK w0 (Z.setCell ⟨g4,1,none⟩ vA') a g2 g4 g6 g7 gm cs vN vA' vS' (all++[m]) t (us++[r]) ws N∧∀g cs,Blk wr g 3 cs→Blk (Z.setCell ⟨g4,1,none⟩ vA') g 3 cs:=by
 subst aA
 have U:Ac wr wm (fun k=>k=gm):=(Ac.of_grown z).mono fun b _ e=>(Option.some.inj e).symm
 have I:=(Ac.refl w1 (fun k=>k=g7)).setCell (p:=⟨g7,0,none⟩) (fun _=>rfl) vS'
 have aq:Ac (w1.setCell ⟨g7,0,none⟩ vS') w3 (fun _=>False):=Ac.of_below G _
 have O:=(Ac.refl Z (fun k=>k=g4)).setCell (p:=⟨g4,1,none⟩) (fun _=>rfl) vA'
 have nm:∀{g e} {cs:Array Value},Blk wr g e cs→g≠gm:=fun y e=>BT y h.map e
 have m2:=h.b2.kept U (nm h.b2)
 have m4:=h.b4.kept U (nm h.b4)
 have m6:=h.b6.kept U (nm h.b6)
 have m7:=h.b7.kept U (nm h.b7)
 have W:=U.ownsRow h.sets fun g z e=>Di h.sets h.map (by rw [z,e])
 have mA:=U.ownsRow h.acc fun g z e=>Di h.acc h.map (by rw [z,e])
 have mN:=U.ownsRow h.nxt fun g z e=>Di h.nxt h.map (by rw [z,e])
 have n2:=m2.kept M (Aw W m2 (by decide))
 have n4:=m4.kept M (Aw W m4 (by decide))
 have n6:=m6.kept M (Aw W m6 (by decide))
 have J:=m7.kept M (Aw W m7 (by decide))
 have nA:=AK M mA (F4 W (by decide))
 have nN:=M.ownsRow mN fun g z e=>h.sep g e z
 have a7:=ad.kept M (fun e=>Di W ad e)
 have o2:=(n2.kept I (n2.ne_ J (by decide))).below G
 have o4:=(n4.kept I (n4.ne_ J (by decide))).below G
 have o6:=(n6.kept I (n6.ne_ J (by decide))).below G
 have o7:Blk w3 g7 75 #[vS']:=(J.set_ 0 vS').below G
 have oS:=Bt (AK I av (fun g cs e y=>by subst e; exact y.ne_ J (by decide) rfl)) G
 have E:=Bt (AK I nA (fun g cs e y=>by subst e; exact y.ne_ J (by decide) rfl)) G
 have oN:=Bt (AK I nN (fun g cs e y=>by subst e; exact y.ne_ J (by decide) rfl)) G
 have om:=(a7.kept I (fun e=>BT J a7 e.symm)).keep (G.block _ (a7.kept I (fun e=>BT J a7 e.symm)).lt)
 have V:=o4.kept C (Aw E o4 (by decide))
 have pm:=om.kept C (fun e=>Di E om e)
 have az:=h.below.size
 have a3:Ac wr (Z.setCell ⟨g4,1,none⟩ vA') (fun k=>k=gm∨vS.ownBlock=some k∨k=g7∨vA.ownBlock=some k∨k=g4):=
  ((((U.mono fun _ _ e=>.inl e).trans M fun _ _ e=>.inr (.inl e)).trans I fun _ _ e=>.inr (.inr (.inl e))).trans aq fun _ _ e=>e.elim).trans C (fun _ _ e=>.inr (.inr (.inr (.inl e)))) |>.trans O fun _ _ e=>.inr (.inr (.inr (.inr e)))
 have a6:∀g cs,(g=gm∨vS.ownBlock=some g∨g=g7∨vA.ownBlock=some g∨g=g4)→¬Blk wr g 3 cs:=by
  rintro g cs (e | e | e | e | e) y
  ·exact nm y e
  ·exact Aw h.sets y (by decide) e
  ·exact y.ne_ h.b7 (by decide) e
  ·exact Aw h.acc y (by decide) e
  ·exact y.ne_ h.b4 (by decide) e
 have aJ:=h.ge
 have ap:∀g,vS'.ownBlock=some g→vN.ownBlock≠some g:=fun g z e=>by
  rcases au with hh | ⟨g',hh,aL⟩
  ·exact h.sep g (by rw [←hh]; exact z) e
  ·rw [z] at hh
   injection hh with hh
   have:=Cj mN e
   omega
 refine⟨⟨h.below.trans (a3.below az ?_),?_,?_,?_,?_,?_,?_,?_,?_,?_,?_,ap,h.ge,?_⟩,fun g cs y=>y.kept a3 (fun e=>a6 g cs e y)⟩
 ·rintro b hb (e | e | e | e | e)
  ·omega
  ·have:=Bb h.sets e; omega
  ·omega
  ·have:=Bb h.acc e; omega
  ·omega
 ·exact(o2.kept C (Aw E o2 (by decide))).kept O ((o2.kept C (Aw E o2 (by decide))).ne_ V (by decide))
 ·have:=V.set_ 1 vA'
  exact this
 ·exact(o6.kept C (Aw E o6 (by decide))).kept O ((o6.kept C (Aw E o6 (by decide))).ne_ V (by decide))
 ·exact(o7.kept C (Aw E o7 (by decide))).kept O ((o7.kept C (Aw E o7 (by decide))).ne_ V (by decide))
 ·rw [List.map_append]
  exact pm.kept O (fun e=>BT V pm e.symm)
 ·rw [List.length_append]
  exact AK O (AK C oS (F4 E (by decide))) (fun g cs e y=>by subst e; exact y.ne_ V (by decide) rfl)
 ·rw [List.map_append]
  refine Cl.snoc (h.setR.keep a3 (fun g cs _ e=>a6 g cs e) (fun _ _ x=>x) (Nat.le_refl _)) ?_ ay
  exact AK a3 hr a6
 ·rw [List.length_append,List.map_append,List.map_append]
  exact AK O aw (fun g cs e y=>by subst e; exact y.ne_ V (by decide) rfl)
 ·exact AK O (AK C oN (F4 E (by decide))) (fun g cs e y=>by subst e; exact y.ne_ V (by decide) rfl)
 ·exact h.nxtR.keep a3 (fun g cs _ e=>a6 g cs e) (fun _ _ x=>x) (Nat.le_refl _)
 ·intro x hx
  rcases List.mem_append.1 hx with hx | hx
  ·exact h.len x hx
  ·rw [List.mem_singleton.1 hx]; exact hm
end
end Go.Proofs.YtfcfpoemojjglaaGreatDoor
namespace Go.Proofs.YtfcfpoemojjglaaGreatDoor
open Go.RowKit
set_option maxHeartbeats 16000000
set_option maxRecDepth 100000
section
variable {w0 wr:World} {a:NF} {g2 g4 g6 g7 gm:Nat} {v0 v1 v2 v3 vN vA vS:Value} {all:List (List Bool)} {t:List (List Nat)} {us ws:List Value} {N:Nat→Prop} {m:List Bool} {r:Value}
theorem F0 {S:Type} [DecidableEq S] {l:List S} {s:S} (h:s∈l):Bs l s=l:=if_pos h
theorem FZ {S:Type} [DecidableEq S] {l:List S} {s:S} (h:s∉l):Bs l s=l++[s]:=if_neg h
theorem ES {S:Type} [DecidableEq S] {l:List S} {s:S} (h:s∉l):Ax (l++[s]) s=l.length:=by
 unfold Ax
 rw [List.idxOf_append,if_neg h]
 simp
theorem JO {w:World} {B c:Nat} {A:Option Addr} (h:Sl w B 1 Ai A (AJ m)) (y:B≤w.heap.size) (C:m.length=a.n) (G:a.n≤200000) (z:BV w):
  Calls Tryz.prog 164 #[.slice A (AJ m).length c] w (Ret fun r w'=>r=Dq (Bc m)∧Below w.heap.size w w'):=by
 have I:=Fw m
 have e:(Bc m).length=(AJ m).length:=by rw [Fx]; simp [Ak]
 exact JN (l:=Bc m) h y (fun x E=>by have:=GW C x E; omega) (by omega) z
theorem Ts (h:BK w0 wr a g2 g4 g6 g7 gm #[v0,v1,v2,v3] vN vA vS all t us ws N) (M:m.length=a.n) (U:wr.ownsRow w0.heap.size 3 1 r (AJ m).length ((AJ m).map (Value.int .i64)))
  (hn:a.n≤200000) (C:BV wr) (O:m∈all):
  Calls Tryz.prog 163 #[r,.pointer (some ⟨g6,0,none⟩),.pointer (some ⟨g7,0,none⟩),.pointer (some ⟨g4,0,none⟩),.pointer (some ⟨g2,0,none⟩)] wr (Ret fun v w'=>v=.int .i64 (Ax all m:Int)∧Below wr.heap.size wr w'):=by
 have a5:=Fw m
 obtain⟨A,c,rfl,hS⟩:=B8 U rfl (Nat.le_refl _) (by omega)
 have J:=JO (c:=c) hS (Nat.le_refl _) M hn C
 obtain⟨I,G⟩:=h.idx M
 have V:=hide h
 have W:=hide I
 have Z:=hide (G.2 O)
 clear h hS U I G O C
 go_enter Tryz.func163,Tryz.ntmps163
 go_wp2_with fail
 refine Calls.ret J ?_
 rintro v w1 ⟨rfl,E⟩
 unfold Dq DA
 have y:=V.out.keep E
 have a4:=y.b6.cell
 have a2:=Ft FV Tryz.underlying221 Fa y.map (Bc m)
 have z:=Z.out
 simp only [z,if_true,decide_true,Dq,DA] at a2
 clear z
 clear J y
 go_wp2_with fail
 go_ret
 exact⟨by rw [←W.out]; rfl,E⟩
theorem Tr (h:BK w0 wr a g2 g4 g6 g7 gm #[v0,v1,v2,v3] vN vA vS all t us ws N) (ay:Cn w0 w0.heap.size (.agg #[v0,v1,v2,v3]) a) (ha:a.acc.length=a.n) (hm:m.length=a.n) (hr:wr.ownsRow w0.heap.size 3 1 r (AJ m).length ((AJ m).map (Value.int .i64))) (aH:∀g,r.ownBlock=some g→N g)
  (hn:a.n≤200000) (hl:all.length≤60000) (hT:BV wr) (aF:m∉all):
  Calls Tryz.prog 163 #[r,.pointer (some ⟨g6,0,none⟩),.pointer (some ⟨g7,0,none⟩),.pointer (some ⟨g4,0,none⟩),.pointer (some ⟨g2,0,none⟩)] wr (Ret fun v w'=>v=.int .i64 (all.length:Int)∧∃vA' vS' br,BK w0 w' a g2 g4 g6 g7 gm #[v0,v1,v2,v3] vN vA' vS' (all++[m]) t br ws N∧∀g cs,Blk wr g 3 cs→Blk w' g 3 cs):=by
 have bI:=Fw m
 have bl:=hide hr
 have bm:=hide aH
 obtain⟨A,c,rfl,hS⟩:=B8 hr rfl (Nat.le_refl _) (by omega)
 have aD:=JO (c:=c) hS (Nat.le_refl _) hm hn hT
 obtain⟨be,aB⟩:=h.idx hm
 have hH:=hide h
 have hM:=hide (show ¬Bc m∈all.map Bc from fun hh=>aF (aB.1 hh))
 have bv:=hide hS
 have aj:=hide hm
 have aV:=hide ha
 clear h hS hr be aB aF hT aH
 go_enter Tryz.func163,Tryz.ntmps163
 go_wp2_with fail
 refine Calls.ret aD ?_
 rintro v w1 ⟨rfl,a9⟩
 unfold Dq DA
 have E:=hH.out.keep a9
 have aG:=Bt bl.out a9
 have b0:=E.b6.cell
 have b1:=E.b7.cell
 have aE:=Ft FV Tryz.underlying221 Fa E.map (Bc m)
 obtain⟨wm,ao,aJ,hg,ah⟩:=EY FV Tryz.underlying221 E.map (Bc m) hM.out
 have ax:=hM.out
 rw [List.length_map] at ao
 simp only [ax,if_false,decide_false,Dq,DA] at aE
 simp only [Dq,DA] at ao
 have I:Ac w1 wm (fun k=>k=gm):=(Ac.of_grown hg).mono fun b _ e=>(Option.some.inj e).symm
 have af:=E.b7.kept I (fun e=>BT E.b7 E.map e)
 have b5:=af.cell
 have J:=I.ownsRow E.sets fun g Z e=>Di E.sets E.map (by rw [Z,e])
 obtain⟨AS,cS,rfl⟩:=AH E.sets
 have bo:=ah
 have bn:=E.below.size
 have y:=hide E
 have an:=hide aG
 have ba:=hide hg
 have bb:=hide ah
 have bp:=hide aJ
 have aY:w0.heap.size≤wm.heap.size:=by omega
 clear ax aD E aG hg ah aJ bo
 go_wp2_with (at_builtin; refine BP F9 rfl _ _ rfl w0.heap.size (.slice AS all.length cS) all.length _ rfl J [.slice A (AJ m).length c] 1 rfl rfl (by simp [Value.oneCell']) (by omega) aY ?_; intro g aP w2 bi M bg bB; have U:=af.kept M (Aw J af (by decide)); have b3:=U.cell; have b8:=U.frozen 0; have bf:=U.lt)
 obtain⟨C,a4⟩:∃C,C=w2.setCell ⟨g7,0,none⟩ (.slice (some ⟨g,0,none⟩) (all.length+1) aP):=⟨_,rfl⟩
 rw [←a4]
 have a2:Ac w2 C (fun k=>k=g7):=by rw [a4]; exact(Ac.refl w2 (fun k=>k=g7)).setCell (p:=⟨g7,0,none⟩) (fun _=>rfl) _
 have ab:Blk C g4 78 #[vN,vA]:=((y.out.b4.kept I (fun e=>BT y.out.b4 y.out.map e)).kept M (Aw J (y.out.b4.kept I (fun e=>BT y.out.b4 y.out.map e)) (by decide))).kept a2 (((y.out.b4.kept I (fun e=>BT y.out.b4 y.out.map e)).kept M (Aw J (y.out.b4.kept I (fun e=>BT y.out.b4 y.out.map e)) (by decide))).ne_ U (by decide))
 have aA:Blk C g2 88 #[v0,v1,v2,v3]:=((y.out.b2.kept I (fun e=>BT y.out.b2 y.out.map e)).kept M (Aw J (y.out.b2.kept I (fun e=>BT y.out.b2 y.out.map e)) (by decide))).kept a2 (((y.out.b2.kept I (fun e=>BT y.out.b2 y.out.map e)).kept M (Aw J (y.out.b2.kept I (fun e=>BT y.out.b2 y.out.map e)) (by decide))).ne_ U (by decide))
 have au:C.ownsRow w0.heap.size 4 1 vA all.length ((all.map a.has).map Value.bool):=AK a2 (AK M (I.ownsRow y.out.acc fun g Z e=>Di y.out.acc y.out.map (by rw [Z,e])) (F4 J (by decide))) (fun g cs e W=>by subst e; exact W.ne_ U (by decide) rfl)
 have bk:C.ownsRow w0.heap.size 3 1 (.slice A (AJ m).length c) (AJ m).length ((AJ m).map (Value.int .i64)):=AK a2 (AK M (I.ownsRow an.out fun g Z e=>Di an.out y.out.map (by rw [Z,e])) (F4 J (by decide))) (fun g cs e W=>by subst e; exact W.ne_ U (by decide) rfl)
 have V:Below w0.heap.size w0 C:=y.out.below.trans ((((I.mono (fun _ _ e=>.inl e)).trans M (fun _ _ e=>.inr (.inl e))).trans a2 (fun _ _ e=>.inr (.inr e)):Ac w1 C (fun k=>k=gm∨(Value.slice AS all.length cS).ownBlock=some k∨k=g7)).below bn (by
  rintro b hb (e | e | e)
  ·have:=y.out.ge; omega
  ·have:=Bb J e; omega
  ·have:=y.out.ge; omega))
 have a8:∃A' c',Value.slice A (AJ m).length c=.slice A' (AJ m).length c'∧Sl C C.heap.size 1 Ai A' (AJ m):=B8 bk rfl (Nat.le_refl _) (by omega)
 obtain⟨A',c',eA,a8⟩:=a8
 injection eA with eA _ ec
 subst eA
 clear ec
 have aW:∀O:World,Below C.heap.size C O→Calls Tryz.prog 44 #[.agg #[v0,v1,v2,v3],.slice A (AJ m).length c] O (Ret fun r w'=>r=.bool (a.has m)∧Below O.heap.size O w'):=fun O hx=>by
  have aT:Cn O O.heap.size (.agg #[v0,v1,v2,v3]) a:=ay.keep (fun p hp=>(hx.cell (by have:=V.size; omega)).trans (V.cell hp)) (by have:=V.size; have:=hx.size; omega)
  have:=IM (c:=c) aT aV.out (a8.keep (w':=O) (fun p hp=>hx.cell hp) hx.size) (Nat.le_refl _) (Ik aj.out)
  rwa [JD aj.out] at this
 have bz:=ab.cell
 have bx:=aA.cell
 obtain⟨AA,cA,rfl⟩:=AH au
 have bG:=V.size
 have aX:=hide ab
 have bu:=hide V
 have bq:=hide a4
 clear aE ao b0 b1 b5 b3 b8 bf ab aA a4 ay V
 refine Reg.cC [0,1,0,0,12,28,63,127,255] [0,1,2,3,4,5,6,7,8] ?_
 refine Reg.rest_walk' [0,1,2,3] [4,5,6,7,8] rfl (by kernel_rfl) ?_
 intro Qf G
 go_wp2_with fail
 first | refine G _ _ ?_ | skip
 try clear G
 refine Reg.rest_act' 4 [5,6,7,8] [1] rfl (by kernel_rfl) ?_
 intro Qf G
 simp only [gT,gS,gZ]
 go_wp2_with fail
 refine Calls.ret (aW _ (Ap C)) ?_
 rintro v w4 ⟨rfl,aa⟩
 have a3:Below C.heap.size C w4:=(Ap C).trans aa
 go_wp2_with fail
 first | refine G _ _ ⟨Reg.same_below aa _ rfl,?_⟩ | refine⟨Reg.same_below aa _ rfl,?_⟩
 try clear G
 have av:=Bt au a3
 have ad:=aX.out.below a3
 have bH:=a3.size
 refine Reg.rest_walk' [5] [6,7,8] rfl (by kernel_rfl) ?_
 intro Qf G
 go_wp2_with fail
 first | refine G _ _ ?_ | skip
 try clear G
 refine Reg.rest_act' 6 [7,8] [1] rfl (by kernel_rfl) ?_
 intro Qf G
 simp only [gT,gS,gZ]
 refine BP GM rfl _ _ rfl w0.heap.size (.slice AA all.length cA) all.length _ rfl av [.bool (a.has m)] 1 rfl rfl (by simp [Value.oneCell']) (by omega) (by omega) ?_
 intro g' bs w5 bj aC bF bC
 have ae:=ad.kept aC (Aw av ad (by decide))
 have aZ:=ae.cell
 have bA:=ae.frozen 1
 have bE:=ae.lt
 refine G _ _ ⟨?_,?_⟩
 ·intro z hz q hq
  simp only [List.mem_singleton] at hz
  subst hz
  injection hq with hq
  subst hq
  exact Reg.same_load1 rfl rfl ((ad.kept ((Ac.refl w4 (fun _=>False)).alloc (.cells #[.bool (a.has m)] 4)) id).cell 1) (aZ 1) Tryz.underlying76 rfl
 clear G
 refine Reg.rest_walk' [7,8] [] rfl (by kernel_rfl) ?_
 intro Qf G
 go_wp2_with fail
 first | refine G _ _ ?_ | skip
 try clear G
 refine Reg.rest_end ?_
 obtain⟨b9,aR⟩:=y.out.add aj.out an.out bm.out bp.out ba.out bb.out M bi bg bq.out a3 aC bj
 go_wp2_with fail
 go_ret
 exact⟨rfl,_,_,_,b9,fun g cs W=>aR g cs (W.below a9)⟩
theorem Lt (h:BK w0 wr a g2 g4 g6 g7 gm #[v0,v1,v2,v3] vN vA vS all t us ws N) (M:Cn w0 w0.heap.size (.agg #[v0,v1,v2,v3]) a) (O:a.acc.length=a.n) (E:m.length=a.n) (I:wr.ownsRow w0.heap.size 3 1 r (AJ m).length ((AJ m).map (Value.int .i64))) (V:∀g,r.ownBlock=some g→N g)
  (G:a.n≤200000) (U:all.length≤60000) (z:BV wr):
  Calls Tryz.prog 163 #[r,.pointer (some ⟨g6,0,none⟩),.pointer (some ⟨g7,0,none⟩),.pointer (some ⟨g4,0,none⟩),.pointer (some ⟨g2,0,none⟩)] wr (Ret fun v w'=>v=.int .i64 (Ax (Bs all m) m:Int)∧∃vA' vS' W,BK w0 w' a g2 g4 g6 g7 gm #[v0,v1,v2,v3] vN vA' vS' (Bs all m) t W ws N∧∀g cs,Blk wr g 3 cs→Blk w' g 3 cs):=by
 by_cases y:m∈all
 ·rw [F0 y]
  refine Calls.ret (Ts h E I G z y) ?_
  rintro v w' ⟨rfl,C⟩
  exact⟨rfl,vA,vS,us,h.keep C,fun g cs J=>J.below C⟩
 ·rw [FZ y,ES y]
  exact Tr h M O E I V G U z y
end
end Go.Proofs.YtfcfpoemojjglaaGreatDoor
namespace Go.Proofs.YtfcfpoemojjglaaGreatDoor
open Go.RowKit
set_option maxHeartbeats 16000000
set_option maxRecDepth 100000
def BG (a:NF) (all:List (List Bool)) (i:Nat):List (List Nat):=(all.take i).map fun s=>(List.range a.L).map fun x=>Ax all (a.after s x)
theorem ET {S:Type} [DecidableEq S] {l k:List S} (h:l<+:k) {s:S} (y:s∈l):Ax k s=Ax l s:=P7 h y
theorem Sv {a:NF} {all all':List (List Bool)} {i:Nat} (h:Exp a.L a.after a.st i all) (C:all<+:all'):BG a all' i=BG a all i:=by
 have z:=h.inv.le
 unfold BG
 obtain⟨t,rfl⟩:=C
 rw [List.take_append_of_le_length z]
 refine List.map_congr_left fun s E=>List.map_congr_left fun x G=>?_
 obtain⟨j,y⟩:=List.mem_iff_getElem?.1 E
 rw [List.getElem?_take] at y
 split at y
 ·exact ET (List.prefix_append _ _) (h.inv.closed j s (by assumption) y x (List.mem_range.1 G))
 ·cases y
theorem Sw {a:NF} {all:List (List Bool)} {i:Nat} {s:List Bool} (h:all[i]?=some s):BG a all (i+1)=BG a all i++[(List.range a.L).map fun x=>Ax all (a.after s x)]:=by
 unfold BG
 rw [B5 h,List.map_append]
 rfl
theorem GQ {a:NF} {all:List (List Bool)} {i:Nat} (h:i≤all.length):(BG a all i).length=i:=by simp [BG]; omega
section
variable {w0 wr w':World} {a:NF} {g2 g4 g6 g7 gm:Nat} {cs:Array Value} {vN vA vS:Value} {all:List (List Bool)} {t:List (List Nat)} {us ws:List Value} {N:Nat→Prop}
theorem BK.other (h:BK w0 wr a g2 g4 g6 g7 gm cs vN vA vS all t us ws N) {gr:Nat} {G:Array Value} (E:∀g,N g→g≠gr) (y:Blk wr gr 3 G) (J:w0.heap.size≤gr) (hk:Ac wr w' (fun k=>k=gr)):BK w0 w' a g2 g4 g6 g7 gm cs vN vA vS all t us ws N:=
 ⟨h.below.trans (hk.below h.below.size fun b I e=>by omega),h.b2.kept hk (h.b2.ne_ y (by decide)),h.b4.kept hk (h.b4.ne_ y (by decide)),h.b6.kept hk (h.b6.ne_ y (by decide)),h.b7.kept hk (h.b7.ne_ y (by decide)),
  h.map.kept hk (fun e=>BT y h.map e.symm),AK hk h.sets (fun g cs e z=>by subst e; exact z.ne_ y (by decide) rfl),h.setR.keep hk (fun g cs C e _=>E g C e) (fun _ _ x=>x) (Nat.le_refl _),
  AK hk h.acc (fun g cs e z=>by subst e; exact z.ne_ y (by decide) rfl),AK hk h.nxt (fun g cs e z=>by subst e; exact z.ne_ y (by decide) rfl),h.nxtR.keep hk (fun g cs C e _=>E g C e) (fun _ _ x=>x) (Nat.le_refl _),h.sep,h.ge,h.len⟩
theorem BK.rowAdd {row:List Nat} {gr c:Nat} {vN':Value} {w2:World} (h:BK w0 wr a g2 g4 g6 g7 gm cs vN vA vS all t us ws N)
  (hr:wr.ownsRow w0.heap.size 3 1 (.slice (some ⟨gr,0,none⟩) row.length c) row.length (row.map fun y:Nat=>Value.int .i64 (y:Int)))
  (hk:Ac wr w2 (fun k=>vN.ownBlock=some k)) (ho:w2.ownsRow w0.heap.size 24 1 vN' (t.length+1) (ws++[.slice (some ⟨gr,0,none⟩) row.length c])) (a2:BJ wr vN vN'):
  BK w0 (w2.setCell ⟨g4,0,none⟩ vN') a g2 g4 g6 g7 gm cs vN' vA vS all (t++[row]) us (ws++[.slice (some ⟨gr,0,none⟩) row.length c]) (fun _=>True):=by
 have V:=(Ac.refl w2 (fun k=>k=g4)).setCell (p:=⟨g4,0,none⟩) (fun _=>rfl) vN'
 have hs:=h.below.size
 have W:=h.b4.kept hk (Aw h.nxt h.b4 (by decide))
 have z:Ac wr (w2.setCell ⟨g4,0,none⟩ vN') (fun k=>vN.ownBlock=some k∨k=g4):=(hk.mono fun _ _ e=>.inl e).trans V fun _ _ e=>.inr e
 have I:∀{e:TypeId},e≠24→e≠78→∀g cs,(vN.ownBlock=some g∨g=g4)→¬Blk wr g e cs:=by
  rintro e M O g cs (J | J) C
  ·exact Aw h.nxt C (fun E=>M E.symm) J
  ·exact C.ne_ h.b4 O J
 have hS:wr.ownsRow w0.heap.size 24 1 vS all.length us:=h.sets
 have U:∀{g:Nat} {e:TypeId} {cs:Array Value},e≠24→e≠78→Blk wr g e cs→Blk (w2.setCell ⟨g4,0,none⟩ vN') g e cs:=fun M O C=>C.kept z fun hx=>I M O _ _ hx C
 have a9:=h.ge
 refine⟨h.below.trans (z.below hs ?_),U (by decide) (by decide) h.b2,?_,U (by decide) (by decide) h.b6,U (by decide) (by decide) h.b7,?_,?_,?_,AK z h.acc (I (by decide) (by decide)),?_,?_,?_,h.ge,h.len⟩
 ·rintro b hb (e | e)
  ·have:=Bb h.nxt e; omega
  ·omega
 ·exact W.set_ 0 vN'
 ·exact h.map.kept z (by
   rintro(e | e)
   ·exact Di h.nxt h.map e
   ·exact BT h.b4 h.map e.symm)
 ·refine z.ownsRow h.sets fun g G e=>?_
  rcases e with e | e
  ·exact h.sep g G e
  ·exact Aw h.sets h.b4 (by decide) (by rw [G,e])
 ·exact h.setR.keep z (fun g cs _ e=>I (by decide) (by decide) g cs e) (fun _ _ _=>trivial) (Nat.le_refl _)
 ·rw [List.length_append]
  exact AK V ho (fun g cs e C=>by subst e; exact C.ne_ W (by decide) rfl)
 ·rw [List.map_append]
  refine Cl.snoc (h.nxtR.keep z (fun g cs _ e=>I (by decide) (by decide) g cs e) (fun _ _ _=>trivial) (Nat.le_refl _)) ?_ (fun _ _=>trivial)
  have:=AK z hr (I (by decide) (by decide))
  have e:(Ak row).map (Value.int .i64)=row.map fun y:Nat=>Value.int .i64 (y:Int):=by simp [Ak]
  have Z:(Ak row).length=row.length:=by simp [Ak]
  rw [e,Z]
  exact this
 ·intro g G e
  rcases a2 with E | ⟨g',E,aa⟩
  ·exact h.sep g G (by rw [←E]; exact e)
  ·rw [e] at E
   injection E with E
   have:=Cj h.sets G
   omega
theorem LD {w:World} {B:Nat} {A:Option Addr} {t:List (List Nat)} (h:VSl R1 w B A (t.map Ak)):VSl R1n w B A t:=by
 refine⟨by simpa using h.1,fun C=>?_⟩
 obtain⟨b,E,e,y,z⟩:=h.2 (by simpa using C)
 exact⟨b,E,e,y,fun k d hd=>z k (Ak d) (AX hd)⟩
theorem BK.fin {wF:World} (h:BK w0 wr a g2 g4 g6 g7 gm cs vN vA vS all t us ws N) (hk:Ac wr wF (fun k=>k=g4)) (V:∀r∈t,r.length≤4000000) (ht:t.length≤4000000) (Z:all.length≤4000000):
  Br wF wF.heap.size (.agg #[vN,vA]) t (all.map a.has)∧Below w0.heap.size w0 wF:=by
 have a3:=h.ge
 have O:=AK hk h.nxt (fun g cs e y=>by subst e; exact y.ne_ h.b4 (by decide) rfl)
 have M:=AK hk h.acc (fun g cs e y=>by subst e; exact y.ne_ h.b4 (by decide) rfl)
 have U:=h.nxtR.keep (N':=N) hk (fun g cs _ e y=>by subst e; exact y.ne_ h.b4 (by decide) rfl) (fun _ _ x=>x) (Nat.le_refl _)
 obtain⟨C,c1,z,I⟩:=Cl.read U O ht (Nat.le_refl _) (fun d hd=>by
  obtain⟨r,W,rfl⟩:=List.mem_map.1 hd
  have:=V r W
  simpa [Ak] using this)
 obtain⟨E,c2,G,J⟩:=Kg (B:=wF.heap.size) M (by simp) (Nat.le_refl _) (by omega)
 rw [List.length_map] at z
 exact⟨⟨C,c1,E,c2,by rw [z,G],LD I,J⟩,h.below.trans (hk.below h.below.size fun b hb e=>by omega)⟩
end
end Go.Proofs.YtfcfpoemojjglaaGreatDoor
namespace Go.Proofs.YtfcfpoemojjglaaGreatDoor
open Go.RowKit
set_option maxHeartbeats 16000000
set_option maxRecDepth 100000
def Ih:Code→Code
 | .scope c=>c
 | .seq a b=>match Ih a with
  | .skip=>Ih b
  | c=>c
 | _=>.skip
def JQ (f:Func) (l:Nat):Code:=match f.body with
 | some c=>(findLabel (Ih c) l).getD .skip
 | none=>.skip
def JR (f:Func) (l:Nat):Code:=match JQ f l with
 | .seq .skip c=>c
 | c=>c
def CY (w:World) (g:Nat) (v0 v1:Value):World:=(w.setCell ⟨g,0,none⟩ v0).setCell ⟨g,1,none⟩ v1
theorem Dm {w:World} {g:Nat} {e:TypeId} {a0 a1:Value} (h:Blk w g e #[a0,a1]) (v0 v1:Value):∃wF,CY w g v0 v1=wF∧Blk wF g e #[v0,v1]∧Ac w wF (fun k=>k=g):=
 ⟨_,rfl,(h.set_ 0 v0).set_ 1 v1,((Ac.refl w (fun k=>k=g)).setCell (p:=⟨g,0,none⟩) (fun _=>rfl) _).setCell (p:=⟨g,1,none⟩) (fun _=>rfl) _⟩
theorem RA {a:NF} {s:List Bool} {all:List (List Bool)} {x y:Nat} (h:y<x):Ax (AZ a.after s all (x+1)) (a.after s y)=Ax (AZ a.after s all x) (a.after s y):=by
 rw [Cr]
 exact ET (F6 _ _) (Gb s all h)
theorem Ic {S:Type} [DecidableEq S] {δ:S→Nat→S} (s:S) (l:List S):∀k,(AZ δ s l k).length≤l.length+k
 | 0=>Nat.le_refl _
 | k+1=>by
  rw [Cr]
  have:=Ic (δ:=δ) s l k
  unfold Bs
  split
  ·omega
  ·rw [List.length_append,List.length_singleton]; omega
theorem Jq {S:Type} [DecidableEq S] {L:Nat} {δ:S→Nat→S} {s0:S} {i:Nat} {l:List S} (h:Exp L δ s0 i l):l.length≤1+i*L:=by
 induction h with
 | start=>simp
 | row _ _ ih=>
  have:=Ic (δ:=δ) (by assumption) (by assumption) L
  rw [Nat.succ_mul]
  omega
theorem Gf (A:Act) (F:(Nat→Value)→Act) (h:A=F (fun n=>A.tmps.getD n undef)):∃u,A=F u:=⟨_,h⟩
structure Gm (w0 wr:World) (a:NF) (g2 g4 g6 g7 gm:Nat) (cs:Array Value) (i:Nat) (all:List (List Bool)) (vN vA vS:Value) (us ws:List Value):Prop where
 mem:BK w0 wr a g2 g4 g6 g7 gm cs vN vA vS all (BG a all i) us ws (fun _=>True)
 exp:Exp a.L a.after a.st i all
theorem Lw {w0 wr:World} {a:NF} {g2 g4 g6 g7 gm i k:Nat} {v1 v2 v3 vN vA vS va:Value} {all:List (List Bool)} {us ws:List Value} (u:Nat→Value)
  (hI:Gm w0 wr a g2 g4 g6 g7 gm #[.int .i64 (a.L:Int),v1,v2,v3] i all vN vA vS us ws) (aU:Cn w0 w0.heap.size (.agg #[.int .i64 (a.L:Int),v1,v2,v3]) a) (bf:a.OK) (hn:a.n≤200000) (hL:a.L≤8) (hk:k≤50000) (c9:i≤k) (hT:BV w0)
  (bF:∀m x,m.length=a.n→x<a.L→(a.cat (AJ m) x).length≤4000000)
  {Q:Exit→Act→World→Prop} (hN:Reg.NoQ Q)
  (bI:∀(ac:Act) (w':World) (all':List (List Bool)) (vN vA vS:Value) (us ws:List Value),i<k→Gm w0 w' a g2 g4 g6 g7 gm #[.int .i64 (a.L:Int),v1,v2,v3] (i+1) all' vN vA vS us ws→(∃u:Nat→Value,ac=⟨List.toArray ((va)::(.int .i64 (k:Int))::(.pointer (some ⟨g2,0,none⟩))::u 3::(.pointer (some ⟨g4,0,none⟩))::(.bool false)::(.pointer (some ⟨g6,0,none⟩))::(.pointer (some ⟨g7,0,none⟩))::(.func (.func 163) #[] #[.pointer (some ⟨g6,0,none⟩),.pointer (some ⟨g7,0,none⟩),.pointer (some ⟨g4,0,none⟩),.pointer (some ⟨g2,0,none⟩)])::(.int .i64 ((i+1:Nat):Int))::u 10::u 11::u 12::u 13::u 14::u 15::u 16::u 17::u 18::u 19::u 20::u 21::u 22::u 23::u 24::u 25::u 26::u 27::u 28::u 29::u 30::u 31::u 32::u 33::u 34::u 35::u 36::u 37::u 38::u 39::u 40::u 41::u 42::u 43::u 44::u 45::u 46::u 47::u 48::u 49::u 50::u 51::u 52::u 53::u 54::u 55::u 56::u 57::u 58::u 59::u 60::u 61::u 62::[]),[]⟩)→Q (.goto 0) ac w')
  (aC:∀(ac:Act) (w':World) (vN vA:Value) (b:Bool),Blk w' g4 78 #[vN,vA]→Below w0.heap.size w0 w'→Br w' w'.heap.size (.agg #[vN,vA]) (BG a all i) (all.map a.has)→b=decide (all.length≤k)→(i<all.length→k<all.length)→Exp a.L a.after a.st i all→(∃u:Nat→Value,ac=⟨List.toArray ((va)::(.int .i64 (k:Int))::(.pointer (some ⟨g2,0,none⟩))::u 3::(.pointer (some ⟨g4,0,none⟩))::(.bool b)::(.pointer (some ⟨g6,0,none⟩))::(.pointer (some ⟨g7,0,none⟩))::(.func (.func 163) #[] #[.pointer (some ⟨g6,0,none⟩),.pointer (some ⟨g7,0,none⟩),.pointer (some ⟨g4,0,none⟩),.pointer (some ⟨g2,0,none⟩)])::u 9::u 10::u 11::u 12::u 13::u 14::u 15::u 16::u 17::u 18::u 19::u 20::u 21::u 22::u 23::u 24::u 25::u 26::u 27::u 28::u 29::u 30::u 31::u 32::u 33::u 34::u 35::u 36::u 37::u 38::u 39::u 40::u 41::u 42::u 43::u 44::u 45::u 46::u 47::u 48::u 49::u 50::u 51::u 52::u 53::u 54::u 55::u 56::u 57::u 58::u 59::u 60::u 61::u 62::[]),[]⟩)→Q .ret ac w'):
  (JR Tryz.f111 0).wp Tryz.prog Q ⟨List.toArray ((va)::(.int .i64 (k:Int))::(.pointer (some ⟨g2,0,none⟩))::u 3::(.pointer (some ⟨g4,0,none⟩))::(.bool false)::(.pointer (some ⟨g6,0,none⟩))::(.pointer (some ⟨g7,0,none⟩))::(.func (.func 163) #[] #[.pointer (some ⟨g6,0,none⟩),.pointer (some ⟨g7,0,none⟩),.pointer (some ⟨g4,0,none⟩),.pointer (some ⟨g2,0,none⟩)])::(.int .i64 (i:Int))::u 10::u 11::u 12::u 13::u 14::u 15::u 16::u 17::u 18::u 19::u 20::u 21::u 22::u 23::u 24::u 25::u 26::u 27::u 28::u 29::u 30::u 31::u 32::u 33::u 34::u 35::u 36::u 37::u 38::u 39::u 40::u 41::u 42::u 43::u 44::u 45::u 46::u 47::u 48::u 49::u 50::u 51::u 52::u 53::u 54::u 55::u 56::u 57::u 58::u 59::u 60::u 61::u 62::[]),[]⟩ wr:=by
 conv=>arg 2; whnf
 have b0:=hI.mem.b2.cell
 have b1:=hI.mem.b4.cell
 have ai:=hI.mem.b7.cell
 obtain⟨AS,cS,rfl⟩:=AH hI.mem.sets
 have E:=hide hI
 have aV:=hide aU
 have ap:=hI.exp.inv.le
 clear hI aU
 by_cases aa:i<all.length
 ·by_cases a9:all.length≤k
  ·obtain⟨s,hs⟩:=An aa
   obtain⟨gr,w1,bb,ax,aw,c7⟩:=Et wr a.L (by omega)
   rw [Fo] at ax
   have aE:=hide hs
   have cc:=aw.size
   have cb:=E.out.mem.below.size
   have bw:Hid (BK w0 w1 a g2 g4 g6 g7 gm #[.int .i64 (a.L:Int),v1,v2,v3] vN vA (.slice AS all.length cS) (AZ a.after s all 0) (BG a all i) us ws (fun g=>g≠gr)):=
    (E.out.mem.weak fun g hg _=>by omega).keep aw
   have bA:Hid (Blk w1 gr 3 (Bi a.L fun y=>if y<0 then Value.int .i64 (Ax (AZ a.after s all 0) (a.after s y):Int) else .int .i64 0)):=by
    show Blk _ _ _ _
    rw [D4 (g:=fun _=>Value.int .i64 0) (fun y _=>by rw [if_neg (by omega)])]
    exact ax
   clear hs ax aw
   go_wp2_with fail
   go_loopw [34] (fun ii bo=>∃(x:Nat),ii=.int .i64 (x:Int)∧x≤a.L∧Hid (∃vA vS us,BK w0 bo a g2 g4 g6 g7 gm #[.int .i64 (a.L:Int),v1,v2,v3] vN vA vS (AZ a.after s all x) (BG a all i) us ws (fun g=>g≠gr))∧Hid (Blk bo gr 3 (Bi a.L fun y=>if y<x then Value.int .i64 (Ax (AZ a.after s all x) (a.after s y):Int) else .int .i64 0))) (fun ii _=>a.L - (intOf ii).toNat)
   case atStart=>exact⟨0,rfl,Nat.zero_le _,⟨_,_,_,bw.out⟩,bA⟩
   case round=>
    obtain⟨x,rfl,hx,hM,hB⟩:=hrel
    obtain⟨bZ,c0,bY,I⟩:=hM.out
    have ad:=hide I
    by_cases aH:x<a.L
    ·have bj:=DK (δ:=a.after) s all x
     have au:=Ds bj aE.out
     have bl:=I.len s (List.mem_of_getElem? au)
     obtain⟨uv,bn,bg,-⟩:=F2.at I.setR (AX (f:=AJ) au)
     obtain⟨Au,cu,rfl,aW⟩:=B8 bg rfl (Nat.le_refl _) (by have:=Fw s; omega)
     obtain⟨gS,c3,rfl,bE⟩:=C7 I.sets bn
     have bC:=I.b2.cell
     have b5:=I.b7.cell
     have bm:=I.below.size
     have aQ:=hB.out
     have bK:i<(AZ a.after s all x).length:=AP au
     have aX:(AZ a.after s all x).length≤60000:=by
      have:=Ic (δ:=a.after) s all x
      omega
     have bU:∀M:World,Below wr.heap.size wr M→Calls Tryz.prog 43 #[.agg #[.int .i64 (a.L:Int),v1,v2,v3],.slice Au (AJ s).length cu,.int .i64 (x:Int)] M (Ret fun r w'=>w'.ownsRow M.heap.size 3 1 r (AJ (a.after s x)).length ((AJ (a.after s x)).map (Value.int .i64))∧Below M.heap.size M w'):=fun M hb=>by
      have al:=ad.out.below.trans (hb.mono bm)
      exact Iq (aV.out.keep (fun p hp=>al.cell hp) al.size) bf bl (aW.keep (w':=M) (fun p hp=>hb.cell hp) hb.size) (Nat.le_refl _) aH (bF s x bl aH)
     have bV:∀(M:World) (r:Value),Below wr.heap.size wr M→M.ownsRow w0.heap.size 3 1 r (AJ (a.after s x)).length ((AJ (a.after s x)).map (Value.int .i64))→(∀g,r.ownBlock=some g→g≠gr)→Calls Tryz.prog 163 #[r,.pointer (some ⟨g6,0,none⟩),.pointer (some ⟨g7,0,none⟩),.pointer (some ⟨g4,0,none⟩),.pointer (some ⟨g2,0,none⟩)] M (Ret fun v w'=>v=.int .i64 (Ax (AZ a.after s all (x+1)) (a.after s x):Int)∧∃vA' vS' bX,BK w0 w' a g2 g4 g6 g7 gm #[.int .i64 (a.L:Int),v1,v2,v3] vN vA' vS' (AZ a.after s all (x+1)) (BG a all i) bX ws (fun g=>g≠gr)∧∀g cs,Blk M g 3 cs→Blk w' g 3 cs):=fun M r hb hr bQ=>by
      have al:=ad.out.below.trans (hb.mono bm)
      rw [Cr]
      exact Lt (ad.out.keep hb) aV.out bf.acc (a.after_len _ _) hr bQ hn aX (hT.below al)
     obtain⟨nS,be⟩:∃n,n=(AZ a.after s all x).length:=⟨_,rfl⟩
     rw [←be] at b5 bK
     clear hM I bj au bg bn aW hB aX bb b0 b1 ai be
     go_wp2_with fail
     refine Reg.region_plain [0,0,0,0,0,0,48,112,0,504,1020,2047,4095] (by kernel_rfl) (by repeat (first | exact hN | refine Reg.NoQ.then ?_ | refine Reg.NoQ.inBlock ?_)) ?_
     go_wp2_with fail
     refine Calls.ret (bU _ (Ap wr)) ?_
     rintro r w2 ⟨aB,aY⟩
     have aZ:Below wr.heap.size wr w2:=(Ap wr).trans aY
     have c8:=aQ.lt
     have bP:w2.ownsRow w0.heap.size 3 1 r (AJ (a.after s x)).length ((AJ (a.after s x)).map (Value.int .i64)):=DC aB (by show _≤wr.heap.size; omega)
     have bR:∀g,r.ownBlock=some g→g≠gr:=fun g hg e=>by
      have:=Bb aB hg
      have e2:wr.drew.heap.size=wr.heap.size:=rfl
      omega
     have bt:=aQ.below aZ
     clear aB aY bC b5 bE
     go_wp2_with fail
     refine Calls.ret (bV w2 r aZ bP bR) ?_
     rintro v w3 ⟨rfl,ch,ci,cf,aS,aO⟩
     have ab:=aO _ _ bt
     have c4:w3.cell? ⟨gr,x,none⟩=some (.int .i64 0):=by rw [ab.cell,CV _ aH,if_neg (by omega)]
     have c5:=ab.frozen x
     have ca:=ab.lt
     have b9:=(Ac.refl w3 (fun k=>k=gr)).setCell (p:=⟨gr,x,none⟩) (fun _=>rfl) (.int .i64 (Ax (AZ a.after s all (x+1)) (a.after s x):Int))
     have aT:=aS.other (fun _ h=>h) ab (by omega) b9
     have aP:Blk (w3.setCell ⟨gr,x,none⟩ (.int .i64 (Ax (AZ a.after s all (x+1)) (a.after s x):Int))) gr 3 (Bi a.L fun y=>if y<x+1 then Value.int .i64 (Ax (AZ a.after s all (x+1)) (a.after s y):Int) else .int .i64 0):=by
      have h1:=ab.set_ x (.int .i64 (Ax (AZ a.after s all (x+1)) (a.after s x):Int))
      rw [F7] at h1
      rw [D4 (g:=fun y=>if y=x then Value.int .i64 (Ax (AZ a.after s all (x+1)) (a.after s x):Int) else if y<x then .int .i64 (Ax (AZ a.after s all x) (a.after s y):Int) else .int .i64 0) (fun y _=>by
       by_cases e:y=x
       ·subst e; simp
       ·by_cases e2:y<x
        ·rw [if_pos (by omega),if_neg e,if_pos e2,RA e2]
        ·rw [if_neg (by omega),if_neg e,if_neg e2])]
      exact h1
     have bx:=hide aT
     have bu:=hide aP
     clear aS aO ab aT aP b9
     go_wp2_with fail
     exact⟨⟨x+1,by go_num,by omega,⟨_,_,_,bx.out⟩,bu⟩,by simp [intOf]; omega⟩
    ·obtain rfl:x=a.L:=by omega
     obtain⟨O,cN,rfl⟩:=AH I.nxt
     have b3:=I.b4.cell
     have bH:=I.b4.frozen 0
     have bM:=I.b4.lt
     have bJ:w0.heap.size≤gr:=by omega
     obtain⟨row,ar⟩:∃row,row=(List.range a.L).map fun y=>Ax (AZ a.after s all a.L) (a.after s y):=⟨_,rfl⟩
     have aD:row.length=a.L:=by rw [ar]; simp
     have bi:wr.ownsRow w0.heap.size 3 1 (.slice (some ⟨gr,0,none⟩) row.length row.length) row.length (row.map fun y:Nat=>Value.int .i64 (y:Int)):=by
      have:=DD hB.out bJ (Fp _ _) (by omega)
      rw [aD]
      have e:(Bi a.L fun y=>if y<a.L then Value.int .i64 (Ax (AZ a.after s all a.L) (a.after s y):Int) else .int .i64 0).toList=row.map fun y:Nat=>Value.int .i64 (y:Int):=by
       rw [ar]
       simp only [Bi,List.map_map]
       exact List.map_congr_left fun y hy=>by rw [if_pos (List.mem_range.1 hy)]; rfl
      rw [e] at this
      exact this
     have aF:=GQ (a:=a) ap
     have bT:=hide ar
     have bS:=hide aD
     have bO:=hide bi
     have az:=I.nxt
     rw [aF] at az b3
     have aG:=hide aF
     have bB:=I.below.size
     clear hM I hB ar aD bi bb b0 b1 ai aF
     go_wp2_with (at_builtin; refine BP F9 rfl _ _ rfl w0.heap.size _ i _ rfl az [.slice (some ⟨gr,0,none⟩) a.L a.L] 1 rfl rfl (by simp [Value.oneCell']) (by omega) bB ?_; intro g aM w4 bh ay bd c6; have ao:=ad.out.b4.kept ay (Aw az ad.out.b4 (by decide)); have bD:=ao.cell; have bG:=ao.frozen 0; have bL:=ao.lt)
     have J:=hide (show Gm w0 (w4.setCell ⟨g4,0,none⟩ (.slice (some ⟨g,0,none⟩) (i+1) aM)) a g2 g4 g6 g7 gm #[.int .i64 (a.L:Int),v1,v2,v3] (i+1) (AZ a.after s all a.L) (.slice (some ⟨g,0,none⟩) (i+1) aM) bZ c0 bY (ws++[.slice (some ⟨gr,0,none⟩) row.length row.length]) from by
      have hE:Exp a.L a.after a.st (i+1) (AZ a.after s all a.L):=.row E.out.exp aE.out
      refine⟨?_,hE⟩
      rw [Sw (Ds (DK s all a.L) aE.out),Sv E.out.exp (DK s all a.L),←bT.out]
      refine ad.out.rowAdd bO.out ?_ ?_ ?_
      ·rw [aG.out]; exact ay
      ·rw [aG.out,bS.out]; exact bh
      ·rw [aG.out]; exact bd)
     clear bh ay bd ao bD bG bL b3 bH bM
     go_wp2_with fail
     try go_step3
     refine bI _ _ _ _ _ _ _ _ (by omega) J.out ?_
     refine Gf _ _ ?_
     rfl
  ·have a3:all.length≤3000000:=by have:=Jq E.out.exp; have:i*a.L≤50000*8:=Nat.mul_le_mul (by omega) hL; omega
   obtain⟨O,cN,rfl⟩:=AH E.out.mem.nxt
   obtain⟨U,V,rfl⟩:=AH E.out.mem.acc
   have G:=E.out.mem.b4
   have Z:=E.out.mem.b7
   have b6:=G.frozen
   have ba:=G.lt
   obtain⟨wF,a6,a5,W⟩:=Dm G (.slice O (BG a all i).length cN) (.slice U all.length V)
   have aj:=(Z.kept W (Z.ne_ G (by decide))).cell
   have J:=hide (E.out.mem.fin W (fun r hr=>by
    unfold BG at hr
    obtain⟨s,_,rfl⟩:=List.mem_map.1 hr
    simp; omega) (by rw [GQ ap]; have:=a3; omega) (by have:=a3; omega))
   have ag:=hide a5
   have a7:=hide a6
   clear G Z a5 W a6
   go_wp2_with fail
   refine Reg.region_cutI [0,0,2,0,14,1,63] [0,1,2,3,4,5,6] (by kernel_rfl) (by repeat (first | exact hN | refine Reg.NoQ.then ?_ | refine Reg.NoQ.inBlock ?_)) ?_
   refine Reg.wI [0,1,2,3,4] [5,6] rfl fun Qf C=>?_
   go_wp2_with fail
   try rw [List.filterMap_nil]
   go_wp2_with fail
   first | refine C _ _ ⟨rfl,?_⟩ | refine⟨rfl,?_⟩ | refine C _ _ ⟨by simp [Reg.fineT,Reg.intOp,Region.wanted,yielded,Reg.intFine,Reg.isInt,Act.eval],?_⟩
   try clear C
   have aq:=hide aa
   have af:=hide a9
   clear aa a9 a3
   refine Reg.aI 5 [6] [1] rfl fun Qf C=>?_
   simp only [gT,gS,gZ]
   go_wp2_with fail
   first | refine C _ _ ⟨?_,?_⟩ | refine⟨?_,?_⟩
   ·intro z hz q hq
    simp only [List.mem_singleton] at hz
    subst hz
    injection hq with hq
    subst hq
    exact Reg.same_load1 rfl rfl (ai 0) ((congrArg (fun w:World=>w.drew.cell? ⟨g7,0,none⟩) a7.out).trans (aj 0)) Tryz.underlying75 rfl
   try clear C
   refine Reg.wI [6] [] rfl fun Qf C=>?_
   go_wp2_with fail
   try rw [List.filterMap_nil]
   go_wp2_with fail
   first | refine C _ _ ⟨rfl,?_⟩ | refine⟨rfl,?_⟩
   try clear C
   refine Reg.restI_end ?_
   go_wp2_with fail
   have ah:decide (all.length≤k)=false:=decide_eq_false af.out
   change Q .ret _ (CY wr g4 (.slice O (BG a all i).length cN) (.slice U all.length V)).drew
   rw [a7.out]
   refine aC _ _ (.slice O (BG a all i).length cN) (.slice U all.length V) false ag.out (J.out.2.trans ((Ap wF).mono J.out.2.size)) J.out.1 ah.symm (fun _=>Nat.lt_of_not_le af.out) E.out.exp ?_
   refine Gf _ _ ?_
   rfl
 ·have a3:all.length≤3000000:=by have:=Jq E.out.exp; have:i*a.L≤50000*8:=Nat.mul_le_mul (by omega) hL; omega
  by_cases a9:all.length≤k
  ·obtain⟨O,cN,rfl⟩:=AH E.out.mem.nxt
   obtain⟨U,V,rfl⟩:=AH E.out.mem.acc
   have G:=E.out.mem.b4
   have Z:=E.out.mem.b7
   have b6:=G.frozen
   have ba:=G.lt
   obtain⟨wF,a6,a5,W⟩:=Dm G (.slice O (BG a all i).length cN) (.slice U all.length V)
   have aj:=(Z.kept W (Z.ne_ G (by decide))).cell
   have J:=hide (E.out.mem.fin W (fun r hr=>by
    unfold BG at hr
    obtain⟨s,_,rfl⟩:=List.mem_map.1 hr
    simp; omega) (by rw [GQ ap]; have:=a3; omega) (by have:=a3; omega))
   have ag:=hide a5
   have a7:=hide a6
   clear G Z a5 W a6
   go_wp2_with fail
   refine Reg.region_cutI [0,0,2,0,14,1,63] [0,1,2,3,4,5,6] (by kernel_rfl) (by repeat (first | exact hN | refine Reg.NoQ.then ?_ | refine Reg.NoQ.inBlock ?_)) ?_
   refine Reg.wI [0,1,2,3,4] [5,6] rfl fun Qf C=>?_
   go_wp2_with fail
   try rw [List.filterMap_nil]
   go_wp2_with fail
   first | refine C _ _ ⟨rfl,?_⟩ | refine⟨rfl,?_⟩ | refine C _ _ ⟨by simp [Reg.fineT,Reg.intOp,Region.wanted,yielded,Reg.intFine,Reg.isInt,Act.eval],?_⟩
   try clear C
   have aq:=hide aa
   have af:=hide a9
   clear aa a9 a3
   refine Reg.aI 5 [6] [1] rfl fun Qf C=>?_
   simp only [gT,gS,gZ]
   go_wp2_with fail
   first | refine C _ _ ⟨?_,?_⟩ | refine⟨?_,?_⟩
   ·intro z hz q hq
    simp only [List.mem_singleton] at hz
    subst hz
    injection hq with hq
    subst hq
    exact Reg.same_load1 rfl rfl (ai 0) ((congrArg (fun w:World=>w.drew.cell? ⟨g7,0,none⟩) a7.out).trans (aj 0)) Tryz.underlying75 rfl
   try clear C
   refine Reg.wI [6] [] rfl fun Qf C=>?_
   go_wp2_with fail
   try rw [List.filterMap_nil]
   go_wp2_with fail
   first | refine C _ _ ⟨rfl,?_⟩ | refine⟨rfl,?_⟩
   try clear C
   refine Reg.restI_end ?_
   go_wp2_with fail
   have ah:decide (all.length≤k)=true:=decide_eq_true af.out
   change Q .ret _ (CY wr g4 (.slice O (BG a all i).length cN) (.slice U all.length V)).drew
   rw [a7.out]
   refine aC _ _ (.slice O (BG a all i).length cN) (.slice U all.length V) true ag.out (J.out.2.trans ((Ap wF).mono J.out.2.size)) J.out.1 ah.symm (fun h=>absurd h aq.out) E.out.exp ?_
   refine Gf _ _ ?_
   rfl
  ·obtain⟨O,cN,rfl⟩:=AH E.out.mem.nxt
   obtain⟨U,V,rfl⟩:=AH E.out.mem.acc
   have G:=E.out.mem.b4
   have Z:=E.out.mem.b7
   have b6:=G.frozen
   have ba:=G.lt
   obtain⟨wF,a6,a5,W⟩:=Dm G (.slice O (BG a all i).length cN) (.slice U all.length V)
   have aj:=(Z.kept W (Z.ne_ G (by decide))).cell
   have J:=hide (E.out.mem.fin W (fun r hr=>by
    unfold BG at hr
    obtain⟨s,_,rfl⟩:=List.mem_map.1 hr
    simp; omega) (by rw [GQ ap]; have:=a3; omega) (by have:=a3; omega))
   have ag:=hide a5
   have a7:=hide a6
   clear G Z a5 W a6
   go_wp2_with fail
   refine Reg.region_cutI [0,0,2,0,14,1,63] [0,1,2,3,4,5,6] (by kernel_rfl) (by repeat (first | exact hN | refine Reg.NoQ.then ?_ | refine Reg.NoQ.inBlock ?_)) ?_
   refine Reg.wI [0,1,2,3,4] [5,6] rfl fun Qf C=>?_
   go_wp2_with fail
   try rw [List.filterMap_nil]
   go_wp2_with fail
   first | refine C _ _ ⟨rfl,?_⟩ | refine⟨rfl,?_⟩ | refine C _ _ ⟨by simp [Reg.fineT,Reg.intOp,Region.wanted,yielded,Reg.intFine,Reg.isInt,Act.eval],?_⟩
   try clear C
   have aq:=hide aa
   have af:=hide a9
   clear aa a9 a3
   refine Reg.aI 5 [6] [1] rfl fun Qf C=>?_
   simp only [gT,gS,gZ]
   go_wp2_with fail
   first | refine C _ _ ⟨?_,?_⟩ | refine⟨?_,?_⟩
   ·intro z hz q hq
    simp only [List.mem_singleton] at hz
    subst hz
    injection hq with hq
    subst hq
    exact Reg.same_load1 rfl rfl (ai 0) ((congrArg (fun w:World=>w.drew.cell? ⟨g7,0,none⟩) a7.out).trans (aj 0)) Tryz.underlying75 rfl
   try clear C
   refine Reg.wI [6] [] rfl fun Qf C=>?_
   go_wp2_with fail
   try rw [List.filterMap_nil]
   go_wp2_with fail
   first | refine C _ _ ⟨rfl,?_⟩ | refine⟨rfl,?_⟩
   try clear C
   refine Reg.restI_end ?_
   go_wp2_with fail
   have ah:decide (all.length≤k)=false:=decide_eq_false af.out
   change Q .ret _ (CY wr g4 (.slice O (BG a all i).length cN) (.slice U all.length V)).drew
   rw [a7.out]
   refine aC _ _ (.slice O (BG a all i).length cN) (.slice U all.length V) false ag.out (J.out.2.trans ((Ap wF).mono J.out.2.size)) J.out.1 ah.symm (fun h=>absurd h aq.out) E.out.exp ?_
   refine Gf _ _ ?_
   rfl
end Go.Proofs.YtfcfpoemojjglaaGreatDoor
namespace Go.Proofs.YtfcfpoemojjglaaGreatDoor
open Go.RowKit
set_option maxHeartbeats 16000000
set_option maxRecDepth 100000
abbrev sn0:Value:=.slice none 0 0
theorem F1 (t:TypeId) (w:World):∃gm w1,(Instr.makeMap t none).run Tryz.prog w=.ok (.map (some gm)) w1∧Bw w1 gm []∧Below w.heap.size w w1∧w.heap.size≤gm:=
 ⟨_,_,run_makeMap t w,Bw.made w,(Below.refl _ _).alloc (Nat.le_refl _) _,Nat.le_refl _⟩
theorem Tu (w:World) (a:NF) (cs:Array Value):∃g2 g4 g6 g7 gm w1 w2 h z y C,g2=w.heap.size∧g4=w1.heap.size∧g6=h.heap.size∧g7=y.heap.size∧w.alloc (.cells cs 88)=w1∧w1.alloc (.cells #[sn0,sn0] 78)=w2∧(Instr.makeMap 221 none).run Tryz.prog w2=.ok (.map (some gm)) h∧
  h.alloc (.cells #[.map none] 221)=z∧Blk z g6 221 #[.map none]∧z.setCell ⟨g6,0,none⟩ (.map (some gm))=y∧y.alloc (.cells #[sn0] 75)=C∧
  ∀I,Below C.heap.size C I→BK w I a g2 g4 g6 g7 gm cs sn0 sn0 sn0 [] [] [] [] (fun _=>True):=by
 obtain⟨w1,h1,a2,U,ak⟩:=Ae w cs 88
 obtain⟨w2,h2,M,V,al⟩:=Ae w1 #[sn0,sn0] 78
 obtain⟨gm,h,h3,Z,G,aj⟩:=F1 221 w2
 obtain⟨z,h4,a3,W,am⟩:=Ae h #[.map none] 221
 obtain⟨y,J⟩:∃y,z.setCell ⟨h.heap.size,0,none⟩ (.map (some gm))=y:=⟨_,rfl⟩
 have a4:Ac z y (fun k=>k=h.heap.size):=by rw [←J]; exact(Ac.refl z (fun k=>k=h.heap.size)).setCell (p:=⟨h.heap.size,0,none⟩) (fun _=>rfl) _
 have af:Blk y h.heap.size 221 #[.map (some gm)]:=by rw [←J]; exact W.set_ 0 _
 obtain⟨C,h6,O,ag,an⟩:=Ae y #[sn0] 75
 refine⟨_,_,_,_,gm,w1,w2,h,z,y,C,rfl,rfl,rfl,rfl,h1,h2,h3,h4,W,J,h6,fun I E=>?_⟩
 have a5:=a2.size
 have ao:=M.size
 have ap:=G.size
 have ah:=a3.size
 have aq:=a4.size
 have ar:=O.size
 have l1:=U.lt
 have l2:=V.lt
 have l3:=Z.lt
 have b5:Below h.heap.size z y:=a4.below ah fun b E e=>by omega
 have a8:Below h.heap.size h C:=a3.trans (b5.trans (O.mono (by omega)))
 have b3:Below h.heap.size h I:=a8.trans (E.mono (by omega))
 have a6:Below w.heap.size w w2:=a2.trans (M.mono a5)
 have a7:Below w.heap.size w h:=a6.trans (G.mono (by omega))
 refine⟨a7.trans (b3.mono (by omega)),((U.below M).below G).below b3,(V.below G).below b3,(af.below O).below E,ag.below E,Z.keep (b3.block _ l3),Cb,.nil,Cb,Cb,.nil,by simp [Value.ownBlock],⟨Nat.le_refl _,a5,by omega,by omega,by omega⟩,by simp⟩
theorem Ti {a:NF} (z:a.OK):CL a.start=AJ a.st:=by
 refine Ip fun x=>?_
 constructor
 ·intro y
  have:=z.start x y
  rw [D3] at this
  obtain⟨q,rfl⟩:=Int.eq_ofNat_of_zero_le this.1
  refine⟨q,rfl,?_⟩
  unfold NF.st
  rw [Dg (by omega)]
  simp [y]
 ·rintro⟨q,rfl,h⟩
  have C:q<a.n:=by have:=AP h; rwa [a.st_len] at this
  unfold NF.st at h
  rw [Dg C] at h
  simpa using h
def ID (w:World) (a:NF) (k:Nat) (v:Value) (w':World):Prop:=
 Below w.heap.size w w'∧∃d,(∃t ac,Br w' w'.heap.size d t ac)∧((a.Large k∧v=.tuple #[d,.bool false])∨(∃all,Bf a.L a.after a.st all∧all.length≤k∧Br w' w'.heap.size d (BG a all all.length) (all.map a.has)∧v=.tuple #[d,.bool true]))
theorem IB {l:Nat} {J:Act→World→Prop} {Q:Exit→Act→World→Prop} (h:Reg.NoQ Q):Reg.NoQ (Exit.jump l J Q):=⟨fun c a w x=>h.1 c a w x,fun a w x=>h.2 a w x⟩
theorem Lv {w w':World} {a:NF} {g2 g4 g6 g7 k i:Nat} {vN vA O:Value} {b:Bool} {all:List (List Bool)} (u:Nat→Value) (G:Blk w' g4 78 #[vN,vA]) (I:Below w.heap.size w w') (C:Br w' w'.heap.size (.agg #[vN,vA]) (BG a all i) (all.map a.has)) (J:b=decide (all.length≤k)) (E:i<all.length→k<all.length) (y:Exp a.L a.after a.st i all):
  bodyPost Tryz.prog Tryz.f111 (Ret fun r w'=>ID w a k r w') .ret ⟨List.toArray ((O)::(.int .i64 (k:Int))::(.pointer (some ⟨g2,0,none⟩))::u 3::(.pointer (some ⟨g4,0,none⟩))::(.bool b)::(.pointer (some ⟨g6,0,none⟩))::(.pointer (some ⟨g7,0,none⟩))::(.func (.func 163) #[] #[.pointer (some ⟨g6,0,none⟩),.pointer (some ⟨g7,0,none⟩),.pointer (some ⟨g4,0,none⟩),.pointer (some ⟨g2,0,none⟩)])::u 9::u 10::u 11::u 12::u 13::u 14::u 15::u 16::u 17::u 18::u 19::u 20::u 21::u 22::u 23::u 24::u 25::u 26::u 27::u 28::u 29::u 30::u 31::u 32::u 33::u 34::u 35::u 36::u 37::u 38::u 39::u 40::u 41::u 42::u 43::u 44::u 45::u 46::u 47::u 48::u 49::u 50::u 51::u 52::u 53::u 54::u 55::u 56::u 57::u 58::u 59::u 60::u 61::u 62::[]),[]⟩ w':=by
 have M:=G.cell
 refine bodyPost_ret (v:=.tuple #[.agg #[vN,vA],.bool b]) (by simp [results,Tryz.results111,go_sem,M]) rfl ⟨I,_,⟨_,_,C⟩,?_⟩
 subst J
 by_cases z:all.length≤k
 ·refine .inr ⟨all,?_,z,?_,by rw [decide_eq_true z]⟩
  ·have:=y.inv.le
   have:i=all.length:=by
    rcases Nat.lt_or_ge i all.length with h | h
    ·have:=E h; omega
    ·omega
   subst this
   exact y
  ·have:=y.inv.le
   have:i=all.length:=by
    rcases Nat.lt_or_ge i all.length with h | h
    ·have:=E h; omega
    ·omega
   subst this
   exact C
 ·exact .inl ⟨⟨i,all,y,by omega⟩,by rw [decide_eq_false z]⟩
theorem Uo {c rest:Code} {P:Program} {Q:Exit→Act→World→Prop} {A:Act} {w:World} (F:(Nat→Value)→Act) (z:∃u,A=F u) (h:∀u,rest.wp P Q (F u) w) (y:c=rest):c.wp P Q A w:=by
 obtain⟨u,rfl⟩:=z
 subst y
 exact h u
theorem Tv {w:World} {v:Value} {a:NF} {k:Nat} (h:Cn w w.heap.size v a) (Z:a.OK) (hn:a.n≤200000) (hL:a.L≤8) (hk:k≤50000) (hT:BV w) (hs:a.start.length≤4000000)
  (ak:∀m x,m.length=a.n→x<a.L→(a.cat (AJ m) x).length≤4000000):
  Calls Tryz.prog 111 #[v,.int .i64 (k:Int)] w (Ret fun r w'=>ID w a k r w'):=by
 have a6:=hide h
 obtain⟨M,c1,O,c2,U,V,rfl,h1,h2,h3,h4⟩:=h
 obtain⟨g2,g4,g6,g7,gm,w1,w2,E,w4,G,w6,ar,au,av,aw,aL,aM,aN,aO,y,aP,aQ,hM⟩:=Tu w a #[.int .i64 (a.L:Int),.slice M a.nx.length c1,.slice O a.start.length c2,.slice U a.acc.length V]
 subst ar au av aw
 have ai:=hide hM
 have aH:=y.frozen
 have aK:=y.lt
 have aG:=y.cell
 have W:=hM w6 (Below.refl _ _)
 have aF:=W.b2.cell
 have a8:=W.below
 have am:=GY (c:=c2) (h2.keep (B':=w.heap.size) (fun p hp=>a8.cell hp) (Nat.le_refl _)) hs
 rw [Ti Z] at am
 have aD:∀J:World,Below w6.heap.size w6 J→∀r,J.ownsRow w.heap.size 3 1 r (AJ a.st).length ((AJ a.st).map (Value.int .i64))→Calls Tryz.prog 163 #[r,.pointer (some ⟨E.heap.size,0,none⟩),.pointer (some ⟨G.heap.size,0,none⟩),.pointer (some ⟨w1.heap.size,0,none⟩),.pointer (some ⟨w.heap.size,0,none⟩)] J (Ret fun v w'=>∃vA' vS' z,BK w w' a w.heap.size w1.heap.size E.heap.size G.heap.size gm #[.int .i64 (a.L:Int),.slice M a.nx.length c1,.slice O a.start.length c2,.slice U a.acc.length V] sn0 vA' vS' [a.st] [] z [] (fun _=>True)):=fun J I r hr=>by
  refine Calls.ret (Lt (ai.out J I) a6.out Z.acc a.st_len hr (fun _ _=>trivial) hn (by simp) (hT.below (ai.out J I).below)) ?_
  rintro v w' ⟨-,vA',vS',z,hS,-⟩
  exact⟨vA',vS',z,hS⟩
 have aC:=a8.size
 have aJ:=W.b2.lt
 have aj:=hide hT
 clear hM W h1 h2 h3 h4 hs y a8 hT
 go_enter Tryz.func111,Tryz.ntmps111
 go_wp2_with fail
 refine wp_scope_jumps (rest:=JQ Tryz.f111 0) 0 (fun a' w'=>∃(u:Nat→Value) (va:Value) (i:Nat) (all:List (List Bool)) (vN vA vS:Value) (us ws:List Value),i≤k∧Gm w w' a w.heap.size w1.heap.size E.heap.size G.heap.size gm #[.int .i64 (a.L:Int),.slice M a.nx.length c1,.slice O a.start.length c2,.slice U a.acc.length V] i all vN vA vS us ws∧a'=⟨List.toArray ((va)::(.int .i64 (k:Int))::(.pointer (some ⟨w.heap.size,0,none⟩))::u 3::(.pointer (some ⟨w1.heap.size,0,none⟩))::(.bool false)::(.pointer (some ⟨E.heap.size,0,none⟩))::(.pointer (some ⟨G.heap.size,0,none⟩))::(.func (.func 163) #[] #[.pointer (some ⟨E.heap.size,0,none⟩),.pointer (some ⟨G.heap.size,0,none⟩),.pointer (some ⟨w1.heap.size,0,none⟩),.pointer (some ⟨w.heap.size,0,none⟩)])::(.int .i64 (i:Int))::u 10::u 11::u 12::u 13::u 14::u 15::u 16::u 17::u 18::u 19::u 20::u 21::u 22::u 23::u 24::u 25::u 26::u 27::u 28::u 29::u 30::u 31::u 32::u 33::u 34::u 35::u 36::u 37::u 38::u 39::u 40::u 41::u 42::u 43::u 44::u 45::u 46::u 47::u 48::u 49::u 50::u 51::u 52::u 53::u 54::u 55::u 56::u 57::u 58::u 59::u 60::u 61::u 62::[]),[]⟩) (fun a' _=>k+1 - (intOf (a'.tmps.getD 9 undef)).toNat) (by kernel_rfl) ?_ ?_
 ·go_wp2_with fail
  refine Calls.ret am ?_
  rintro r w7 ⟨aB,aq⟩
  go_wp2_with fail
  refine Calls.ret (aD w7 aq r (DC aB aC)) ?_
  rintro v w8 ⟨vA',vS',z,hS⟩
  go_wp2_with fail
  go_step3
  rename_i hK
  refine hK _ _ ?_
  refine Uo (rest:=JR Tryz.f111 0) (fun u=>⟨List.toArray ((.agg #[.int .i64 (a.L:Int),.slice M a.nx.length c1,.slice O a.start.length c2,.slice U a.acc.length V])::(.int .i64 (k:Int))::(.pointer (some ⟨w.heap.size,0,none⟩))::u 3::(.pointer (some ⟨w1.heap.size,0,none⟩))::(.bool false)::(.pointer (some ⟨E.heap.size,0,none⟩))::(.pointer (some ⟨G.heap.size,0,none⟩))::(.func (.func 163) #[] #[.pointer (some ⟨E.heap.size,0,none⟩),.pointer (some ⟨G.heap.size,0,none⟩),.pointer (some ⟨w1.heap.size,0,none⟩),.pointer (some ⟨w.heap.size,0,none⟩)])::(.int .i64 ((0:Nat):Int))::u 10::u 11::u 12::u 13::u 14::u 15::u 16::u 17::u 18::u 19::u 20::u 21::u 22::u 23::u 24::u 25::u 26::u 27::u 28::u 29::u 30::u 31::u 32::u 33::u 34::u 35::u 36::u 37::u 38::u 39::u 40::u 41::u 42::u 43::u 44::u 45::u 46::u 47::u 48::u 49::u 50::u 51::u 52::u 53::u 54::u 55::u 56::u 57::u 58::u 59::u 60::u 61::u 62::[]),[]⟩) (Gf _ _ rfl) ?_ (by kernel_rfl)
  intro u
  refine Lw (i:=0) (all:=[a.st]) u (hI:=⟨hS,.start⟩) a6.out Z hn hL hk (Nat.zero_le _) aj.out ak ?_ ?_ ?_
  ·exact IB (Reg.NoQ.body (fun _ _ h=>h) (fun _ h=>h))
  ·rintro ac w2 all' vN' vA' vS' z af ay a4 ⟨C,rfl⟩
   exact⟨rfl,C,_,1,all',vN',vA',vS',z,af,by omega,a4,rfl⟩
  ·rintro ac w2 vN' vA' b y I a2 a9 aa hE ⟨C,rfl⟩
   exact Lv C y I a2 a9 aa hE
 ·rintro a' w' ⟨u,va,i,all,vN,vA,vS,us,ws,ax,hI,rfl⟩
  refine wp_seq (wp_skip (show Exit.then _ _ .normal _ _ from ?_))
  refine Lw u hI a6.out Z hn hL hk ax aj.out ak ?_ ?_ ?_
  ·exact IB (Reg.NoQ.body (fun _ _ h=>h) (fun _ h=>h))
  ·rintro ac w2 all' vN' vA' vS' z af ay a4 ⟨C,rfl⟩
   exact⟨rfl,⟨C,va,i+1,all',vN',vA',vS',z,af,by omega,a4,rfl⟩,by simp [intOf]; omega⟩
  ·rintro ac w2 vN' vA' b y I a2 a9 aa hE ⟨C,rfl⟩
   exact Lv C y I a2 a9 aa hE
end Go.Proofs.YtfcfpoemojjglaaGreatDoor
