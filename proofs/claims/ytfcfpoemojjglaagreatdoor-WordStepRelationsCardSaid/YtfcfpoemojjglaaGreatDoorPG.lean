/-
  Part PG of a proof.
-/
import Derived.WalkMore
import Derived.ScopeJumps
import Derived.Test.YtfcfpoemojjglaaGreatDoorPA
import Derived.Test.YtfcfpoemojjglaaGreatDoorPF
set_option maxHeartbeats 16000000
set_option maxRecDepth 100000
set_option linter.unusedVariables false
set_option linter.unusedSimpArgs false
namespace Go.Proofs.YtfcfpoemojjglaaGreatDoor
open Go.RowKit
set_option maxHeartbeats 16000000
set_option maxRecDepth 100000
def Bc (m:List Bool):List Nat:=(List.range m.length).filter fun q=>m.getD q false
theorem Fx (m:List Bool):AJ m=Ak (Bc m):=rfl
theorem SY {m k:List Bool} (y:m.length=k.length) (h:Bc m=Bc k):m=k:=SX y (by rw [Fx,Fx,h])
theorem GW {m:List Bool} {n:Nat} (y:m.length=n):∀x∈Bc m,x<n:=fun x h=>by
 have:=List.mem_range.1 (List.mem_filter.1 h).1
 omega
def DA (l:List Nat):ByteArray:=⟨(Cw l).toArray⟩
theorem QE (a b:List Nat) (h:DA a=DA b):a=b:=by
 unfold DA at h
 injection h with h
 exact JM (by simpa using congrArg Array.toList h)
def Dq (l:List Nat):Value:=.string (DA l)
theorem FV:El Tryz.prog 9 Dq:=QL Tryz.underlying9 DA QE
theorem Fa (w:World):(zeroValue 3).run Tryz.prog w=.ok (.int .i64 0) w:=by kernel_rfl
def Ax {S:Type} [DecidableEq S] (l:List S) (a:S):Nat:=l.idxOf a
theorem JY {S T:Type} [DecidableEq S] [DecidableEq T] {f:S→T}:∀{l:List S} {a:S},(∀b∈l,f b=f a→b=a)→Ax (l.map f) (f a)=Ax l a∧(f a∈l.map f↔a∈l)
 | [],a,_=>⟨rfl,by simp⟩
 | b::l,a,h=>by
  obtain⟨h1,F⟩:=JY (f:=f) (l:=l) (a:=a) fun c G=>h c (List.mem_cons_of_mem _ G)
  by_cases e:b=a
  ·subst e
   simp [Ax]
  ·have z:f b≠f a:=fun I=>e (h b List.mem_cons_self I)
   have C:(f b==f a)=false:=by simpa using z
   have E:(b==a)=false:=by simpa using e
   unfold Ax at h1 ⊢
   rw [List.map_cons,List.idxOf_cons,List.idxOf_cons,C,E]
   refine⟨by rw [h1],?_⟩
   rw [List.mem_cons,List.mem_cons,F]
   constructor
   ·rintro(y | y)
    ·exact absurd y.symm z
    ·exact .inr y
   ·rintro(y | y)
    ·exact absurd y.symm e
    ·exact .inr y
structure BK (w0 wr:World) (a:NF) (g2 g4 g6 g7 gm:Nat) (cs:Array Value) (vN vA vS:Value) (all:List (List Bool)) (t:List (List Nat)) (us ws:List Value) (N:Nat→Prop):Prop where
 below:Below w0.heap.size w0 wr
 b2:Blk wr g2 88 cs
 b4:Blk wr g4 78 #[vN,vA]
 b6:Blk wr g6 221 #[.map (some gm)]
 b7:Blk wr g7 75 #[vS]
 map:Bw wr gm ((all.map Bc).map Dq)
 sets:wr.ownsRow w0.heap.size 24 1 vS all.length us
 setR:Cl wr w0.heap.size N us (all.map AJ)
 acc:wr.ownsRow w0.heap.size 4 1 vA all.length ((all.map a.has).map Value.bool)
 nxt:wr.ownsRow w0.heap.size 24 1 vN t.length ws
 nxtR:Cl wr w0.heap.size N ws (t.map Ak)
 sep:∀g,vS.ownBlock=some g→vN.ownBlock≠some g
 ge:w0.heap.size≤g2∧w0.heap.size≤g4∧w0.heap.size≤g6∧w0.heap.size≤g7∧w0.heap.size≤gm
 len:∀m∈all,m.length=a.n
section
variable {w0 wr w':World} {a:NF} {g2 g4 g6 g7 gm:Nat} {cs:Array Value} {vN vA vS:Value} {all:List (List Bool)} {t:List (List Nat)} {us ws:List Value} {N:Nat→Prop}
theorem BK.keep (h:BK w0 wr a g2 g4 g6 g7 gm cs vN vA vS all t us ws N) (y:Below wr.heap.size wr w'):BK w0 w' a g2 g4 g6 g7 gm cs vN vA vS all t us ws N:=
 ⟨h.below.trans (y.mono h.below.size),h.b2.below y,h.b4.below y,h.b6.below y,h.b7.below y,h.map.keep (y.block _ h.map.lt),Bt h.sets y,
  h.setR.keep (Ac.of_below y (fun _=>False)) (fun _ _ _ e=>e.elim) (fun _ _ x=>x) (Nat.le_refl _),Bt h.acc y,Bt h.nxt y,h.nxtR.keep (Ac.of_below y (fun _=>False)) (fun _ _ _ e=>e.elim) (fun _ _ x=>x) (Nat.le_refl _),h.sep,h.ge,h.len⟩
theorem BK.weak {N':Nat→Prop} (h:BK w0 wr a g2 g4 g6 g7 gm cs vN vA vS all t us ws N) (y:∀g,g<wr.heap.size→N g→N' g):BK w0 wr a g2 g4 g6 g7 gm cs vN vA vS all t us ws N':=
 ⟨h.below,h.b2,h.b4,h.b6,h.b7,h.map,h.sets,h.setR.keep (Ac.refl wr (fun _=>False)) (fun _ _ _ e=>e.elim) y (Nat.le_refl _),h.acc,h.nxt,h.nxtR.keep (Ac.refl wr (fun _=>False)) (fun _ _ _ e=>e.elim) y (Nat.le_refl _),h.sep,h.ge,h.len⟩
theorem BK.idx (h:BK w0 wr a g2 g4 g6 g7 gm cs vN vA vS all t us ws N) {m:List Bool} (z:m.length=a.n):Ax (all.map Bc) (Bc m)=Ax all m∧(Bc m∈all.map Bc↔m∈all):=
 JY fun b y e=>SY ((h.len b y).trans z.symm) e
theorem BK.add {m:List Bool} {r vS' vA':Value} {Z w1 w2 w3 W:World} (h:BK w0 wr a g2 g4 g6 g7 gm cs vN vA vS all t us ws N) (hm:m.length=a.n)
  (hr:wr.ownsRow w0.heap.size 3 1 r (AJ m).length ((AJ m).map (Value.int .i64))) (ax:∀g,r.ownBlock=some g→N g)
  (ab:Bw Z gm (((all.map Bc)++[Bc m]).map Dq)) (z:wr.grownBy Z (some gm)) (aJ:Z.heap.size=wr.heap.size)
  (J:Ac Z w1 (fun k=>vS.ownBlock=some k)) (au:w1.ownsRow w0.heap.size 24 1 vS' (all.length+1) (us++[r])) (ar:BJ Z vS vS')
  (az:w2=w1.setCell ⟨g7,0,none⟩ vS') (F:Below w2.heap.size w2 w3)
  (C:Ac w3 W (fun k=>vA.ownBlock=some k)) (av:W.ownsRow w0.heap.size 4 1 vA' (all.length+1) ((all.map a.has).map Value.bool++[.bool (a.has m)])):
  BK w0 (W.setCell ⟨g4,1,none⟩ vA') a g2 g4 g6 g7 gm cs vN vA' vS' (all++[m]) t (us++[r]) ws N∧∀g cs,Blk wr g 3 cs→Blk (W.setCell ⟨g4,1,none⟩ vA') g 3 cs:=by
 subst az
 have O:Ac wr Z (fun k=>k=gm):=(Ac.of_grown z).mono fun b _ e=>(Option.some.inj e).symm
 have G:=(Ac.refl w1 (fun k=>k=g7)).setCell (p:=⟨g7,0,none⟩) (fun _=>rfl) vS'
 have ap:Ac (w1.setCell ⟨g7,0,none⟩ vS') w3 (fun _=>False):=Ac.of_below F _
 have M:=(Ac.refl W (fun k=>k=g4)).setCell (p:=⟨g4,1,none⟩) (fun _=>rfl) vA'
 have nm:∀{g e} {cs:Array Value},Blk wr g e cs→g≠gm:=fun y e=>BT y h.map e
 have m2:=h.b2.kept O (nm h.b2)
 have m4:=h.b4.kept O (nm h.b4)
 have m6:=h.b6.kept O (nm h.b6)
 have m7:=h.b7.kept O (nm h.b7)
 have V:=O.ownsRow h.sets fun g z e=>Di h.sets h.map (by rw [z,e])
 have mA:=O.ownsRow h.acc fun g z e=>Di h.acc h.map (by rw [z,e])
 have mN:=O.ownsRow h.nxt fun g z e=>Di h.nxt h.map (by rw [z,e])
 have n2:=m2.kept J (Aw V m2 (by decide))
 have n4:=m4.kept J (Aw V m4 (by decide))
 have n6:=m6.kept J (Aw V m6 (by decide))
 have I:=m7.kept J (Aw V m7 (by decide))
 have nA:=AK J mA (F4 V (by decide))
 have nN:=J.ownsRow mN fun g z e=>h.sep g e z
 have a6:=ab.kept J (fun e=>Di V ab e)
 have o2:=(n2.kept G (n2.ne_ I (by decide))).below F
 have o4:=(n4.kept G (n4.ne_ I (by decide))).below F
 have o6:=(n6.kept G (n6.ne_ I (by decide))).below F
 have o7:Blk w3 g7 75 #[vS']:=(I.set_ 0 vS').below F
 have oS:=Bt (AK G au (fun g cs e y=>by subst e; exact y.ne_ I (by decide) rfl)) F
 have E:=Bt (AK G nA (fun g cs e y=>by subst e; exact y.ne_ I (by decide) rfl)) F
 have oN:=Bt (AK G nN (fun g cs e y=>by subst e; exact y.ne_ I (by decide) rfl)) F
 have om:=(a6.kept G (fun e=>BT I a6 e.symm)).keep (F.block _ (a6.kept G (fun e=>BT I a6 e.symm)).lt)
 have U:=o4.kept C (Aw E o4 (by decide))
 have pm:=om.kept C (fun e=>Di E om e)
 have ay:=h.below.size
 have a2:Ac wr (W.setCell ⟨g4,1,none⟩ vA') (fun k=>k=gm∨vS.ownBlock=some k∨k=g7∨vA.ownBlock=some k∨k=g4):=
  ((((O.mono fun _ _ e=>.inl e).trans J fun _ _ e=>.inr (.inl e)).trans G fun _ _ e=>.inr (.inr (.inl e))).trans ap fun _ _ e=>e.elim).trans C (fun _ _ e=>.inr (.inr (.inr (.inl e)))) |>.trans M fun _ _ e=>.inr (.inr (.inr (.inr e)))
 have a5:∀g cs,(g=gm∨vS.ownBlock=some g∨g=g7∨vA.ownBlock=some g∨g=g4)→¬Blk wr g 3 cs:=by
  rintro g cs (e | e | e | e | e) y
  ·exact nm y e
  ·exact Aw h.sets y (by decide) e
  ·exact y.ne_ h.b7 (by decide) e
  ·exact Aw h.acc y (by decide) e
  ·exact y.ne_ h.b4 (by decide) e
 have aH:=h.ge
 have ao:∀g,vS'.ownBlock=some g→vN.ownBlock≠some g:=fun g z e=>by
  rcases ar with hh | ⟨g',hh,aK⟩
  ·exact h.sep g (by rw [←hh]; exact z) e
  ·rw [z] at hh
   injection hh with hh
   have:=Cj mN e
   omega
 refine⟨⟨h.below.trans (a2.below ay ?_),?_,?_,?_,?_,?_,?_,?_,?_,?_,?_,ao,h.ge,?_⟩,fun g cs y=>y.kept a2 (fun e=>a5 g cs e y)⟩
 ·rintro b hb (e | e | e | e | e)
  ·omega
  ·have:=Bb h.sets e; omega
  ·omega
  ·have:=Bb h.acc e; omega
  ·omega
 ·exact(o2.kept C (Aw E o2 (by decide))).kept M ((o2.kept C (Aw E o2 (by decide))).ne_ U (by decide))
 ·have:=U.set_ 1 vA'
  exact this
 ·exact(o6.kept C (Aw E o6 (by decide))).kept M ((o6.kept C (Aw E o6 (by decide))).ne_ U (by decide))
 ·exact(o7.kept C (Aw E o7 (by decide))).kept M ((o7.kept C (Aw E o7 (by decide))).ne_ U (by decide))
 ·rw [List.map_append]
  exact pm.kept M (fun e=>BT U pm e.symm)
 ·rw [List.length_append]
  exact AK M (AK C oS (F4 E (by decide))) (fun g cs e y=>by subst e; exact y.ne_ U (by decide) rfl)
 ·rw [List.map_append]
  refine Cl.snoc (h.setR.keep a2 (fun g cs _ e=>a5 g cs e) (fun _ _ x=>x) (Nat.le_refl _)) ?_ ax
  exact AK a2 hr a5
 ·rw [List.length_append,List.map_append,List.map_append]
  exact AK M av (fun g cs e y=>by subst e; exact y.ne_ U (by decide) rfl)
 ·exact AK M (AK C oN (F4 E (by decide))) (fun g cs e y=>by subst e; exact y.ne_ U (by decide) rfl)
 ·exact h.nxtR.keep a2 (fun g cs _ e=>a5 g cs e) (fun _ _ x=>x) (Nat.le_refl _)
 ·intro x hx
  rcases List.mem_append.1 hx with hx | hx
  ·exact h.len x hx
  ·rw [List.mem_singleton.1 hx]; exact hm
end
end Go.Proofs.YtfcfpoemojjglaaGreatDoor
namespace Go.Proofs.YtfcfpoemojjglaaGreatDoor
open Go.RowKit
set_option maxHeartbeats 16000000
set_option maxRecDepth 100000
section
variable {w0 wr:World} {a:NF} {g2 g4 g6 g7 gm:Nat} {v0 v1 v2 v3 vN vA vS:Value} {all:List (List Bool)} {t:List (List Nat)} {us ws:List Value} {N:Nat→Prop} {m:List Bool} {r:Value}
theorem F0 {S:Type} [DecidableEq S] {l:List S} {s:S} (h:s∈l):Bs l s=l:=if_pos h
theorem FZ {S:Type} [DecidableEq S] {l:List S} {s:S} (h:s∉l):Bs l s=l++[s]:=if_neg h
theorem ES {S:Type} [DecidableEq S] {l:List S} {s:S} (h:s∉l):Ax (l++[s]) s=l.length:=by
 unfold Ax
 rw [List.idxOf_append,if_neg h]
 simp
theorem JO {w:World} {B c:Nat} {A:Option Addr} (h:Sl w B 1 Ai A (AJ m)) (y:B≤w.heap.size) (C:m.length=a.n) (F:a.n≤200000) (z:BV w):
  Calls Tryz.prog 164 #[.slice A (AJ m).length c] w (Ret fun r w'=>r=Dq (Bc m)∧Below w.heap.size w w'):=by
 have G:=Fw m
 have e:(Bc m).length=(AJ m).length:=by rw [Fx]; simp [Ak]
 exact JN (l:=Bc m) h y (fun x E=>by have:=GW C x E; omega) (by omega) z
theorem Ts (h:BK w0 wr a g2 g4 g6 g7 gm #[v0,v1,v2,v3] vN vA vS all t us ws N) (I:m.length=a.n) (M:wr.ownsRow w0.heap.size 3 1 r (AJ m).length ((AJ m).map (Value.int .i64)))
  (Z:a.n≤200000) (z:BV wr) (J:m∈all):
  Calls Tryz.prog 163 #[r,.pointer (some ⟨g6,0,none⟩),.pointer (some ⟨g7,0,none⟩),.pointer (some ⟨g4,0,none⟩),.pointer (some ⟨g2,0,none⟩)] wr (Ret fun v w'=>v=.int .i64 (Ax all m:Int)∧Below wr.heap.size wr w'):=by
 have a3:=Fw m
 obtain⟨A,c,rfl,hS⟩:=B8 M rfl (Nat.le_refl _) (by omega)
 have G:=JO (c:=c) hS (Nat.le_refl _) I Z z
 obtain⟨F,E⟩:=h.idx I
 have O:=hide h
 have U:=hide F
 have V:=hide (E.2 J)
 clear h hS M F E J z
 go_enter Tryz.func163,Tryz.ntmps163
 go_wp2_with fail
 refine Calls.ret G ?_
 rintro v w1 ⟨rfl,C⟩
 unfold Dq DA
 have h1:=O.out.keep C
 have a2:=h1.b6.cell
 have W:=Ft FV Tryz.underlying221 Fa h1.map (Bc m)
 have y:=V.out
 simp only [y,if_true,decide_true,Dq,DA] at W
 clear y
 clear G h1
 go_wp2_with fail
 go_ret
 exact⟨by rw [←U.out]; rfl,C⟩
theorem Tr (h:BK w0 wr a g2 g4 g6 g7 gm #[v0,v1,v2,v3] vN vA vS all t us ws N) (av:Cn w0 w0.heap.size (.agg #[v0,v1,v2,v3]) a) (ha:a.acc.length=a.n) (hm:m.length=a.n) (hr:wr.ownsRow w0.heap.size 3 1 r (AJ m).length ((AJ m).map (Value.int .i64))) (aE:∀g,r.ownBlock=some g→N g)
  (hn:a.n≤200000) (hl:all.length≤60000) (hT:BV wr) (aC:m∉all):
  Calls Tryz.prog 163 #[r,.pointer (some ⟨g6,0,none⟩),.pointer (some ⟨g7,0,none⟩),.pointer (some ⟨g4,0,none⟩),.pointer (some ⟨g2,0,none⟩)] wr (Ret fun v w'=>v=.int .i64 (all.length:Int)∧∃vA' vS' bn,BK w0 w' a g2 g4 g6 g7 gm #[v0,v1,v2,v3] vN vA' vS' (all++[m]) t bn ws N∧∀g cs,Blk wr g 3 cs→Blk w' g 3 cs):=by
 have bE:=Fw m
 have bh:=hide hr
 have bi:=hide aE
 obtain⟨A,c,rfl,hS⟩:=B8 hr rfl (Nat.le_refl _) (by omega)
 have aA:=JO (c:=c) hS (Nat.le_refl _) hm hn hT
 obtain⟨ba,ay⟩:=h.idx hm
 have hH:=hide h
 have hM:=hide (show ¬Bc m∈all.map Bc from fun hh=>aC (ay.1 hh))
 have br:=hide hS
 have ah:=hide hm
 have aS:=hide ha
 clear h hS hr ba ay aC hT aE
 go_enter Tryz.func163,Tryz.ntmps163
 go_wp2_with fail
 refine Calls.ret aA ?_
 rintro v w1 ⟨rfl,a7⟩
 unfold Dq DA
 have h1:=hH.out.keep a7
 have aD:=Bt bh.out a7
 have aX:=h1.b6.cell
 have aY:=h1.b7.cell
 have aB:=Ft FV Tryz.underlying221 Fa h1.map (Bc m)
 obtain⟨wm,am,aF,hg,af⟩:=EY FV Tryz.underlying221 h1.map (Bc m) hM.out
 have au:=hM.out
 rw [List.length_map] at am
 simp only [au,if_false,decide_false,Dq,DA] at aB
 simp only [Dq,DA] at am
 have F:Ac w1 wm (fun k=>k=gm):=(Ac.of_grown hg).mono fun b _ e=>(Option.some.inj e).symm
 have ad:=h1.b7.kept F (fun e=>BT h1.b7 h1.map e)
 have b0:=ad.cell
 have G:=F.ownsRow h1.sets fun g V e=>Di h1.sets h1.map (by rw [V,e])
 obtain⟨AS,cS,rfl⟩:=AH h1.sets
 have bk:=af
 have bj:=h1.below.size
 have y:=hide h1
 have al:=hide aD
 have b5:=hide hg
 have b8:=hide af
 have bl:=hide aF
 have aV:w0.heap.size≤wm.heap.size:=by omega
 clear au aA h1 aD hg af aF bk
 go_wp2_with (at_builtin; refine BP F9 rfl _ _ rfl w0.heap.size (.slice AS all.length cS) all.length _ rfl G [.slice A (AJ m).length c] 1 rfl rfl (by simp [Value.oneCell']) (by omega) aV ?_; intro g aM w2 be I bc bw; have M:=ad.kept I (Aw G ad (by decide)); have aZ:=M.cell; have b1:=M.frozen 0; have bb:=M.lt)
 obtain⟨C,a2⟩:∃C,C=w2.setCell ⟨g7,0,none⟩ (.slice (some ⟨g,0,none⟩) (all.length+1) aM):=⟨_,rfl⟩
 rw [←a2]
 have W:Ac w2 C (fun k=>k=g7):=by rw [a2]; exact(Ac.refl w2 (fun k=>k=g7)).setCell (p:=⟨g7,0,none⟩) (fun _=>rfl) _
 have a9:Blk C g4 78 #[vN,vA]:=((y.out.b4.kept F (fun e=>BT y.out.b4 y.out.map e)).kept I (Aw G (y.out.b4.kept F (fun e=>BT y.out.b4 y.out.map e)) (by decide))).kept W (((y.out.b4.kept F (fun e=>BT y.out.b4 y.out.map e)).kept I (Aw G (y.out.b4.kept F (fun e=>BT y.out.b4 y.out.map e)) (by decide))).ne_ M (by decide))
 have ax:Blk C g2 88 #[v0,v1,v2,v3]:=((y.out.b2.kept F (fun e=>BT y.out.b2 y.out.map e)).kept I (Aw G (y.out.b2.kept F (fun e=>BT y.out.b2 y.out.map e)) (by decide))).kept W (((y.out.b2.kept F (fun e=>BT y.out.b2 y.out.map e)).kept I (Aw G (y.out.b2.kept F (fun e=>BT y.out.b2 y.out.map e)) (by decide))).ne_ M (by decide))
 have ap:C.ownsRow w0.heap.size 4 1 vA all.length ((all.map a.has).map Value.bool):=AK W (AK I (F.ownsRow y.out.acc fun g V e=>Di y.out.acc y.out.map (by rw [V,e])) (F4 G (by decide))) (fun g cs e U=>by subst e; exact U.ne_ M (by decide) rfl)
 have bg:C.ownsRow w0.heap.size 3 1 (.slice A (AJ m).length c) (AJ m).length ((AJ m).map (Value.int .i64)):=AK W (AK I (F.ownsRow al.out fun g V e=>Di al.out y.out.map (by rw [V,e])) (F4 G (by decide))) (fun g cs e U=>by subst e; exact U.ne_ M (by decide) rfl)
 have O:Below w0.heap.size w0 C:=y.out.below.trans ((((F.mono (fun _ _ e=>.inl e)).trans I (fun _ _ e=>.inr (.inl e))).trans W (fun _ _ e=>.inr (.inr e)):Ac w1 C (fun k=>k=gm∨(Value.slice AS all.length cS).ownBlock=some k∨k=g7)).below bj (by
  rintro b hb (e | e | e)
  ·have:=y.out.ge; omega
  ·have:=Bb G e; omega
  ·have:=y.out.ge; omega))
 have a6:∃A' c',Value.slice A (AJ m).length c=.slice A' (AJ m).length c'∧Sl C C.heap.size 1 Ai A' (AJ m):=B8 bg rfl (Nat.le_refl _) (by omega)
 obtain⟨A',c',eA,a6⟩:=a6
 injection eA with eA _ ec
 subst eA
 clear ec
 have aT:∀J:World,Below C.heap.size C J→Calls Tryz.prog 44 #[.agg #[v0,v1,v2,v3],.slice A (AJ m).length c] J (Ret fun r w'=>r=.bool (a.has m)∧Below J.heap.size J w'):=fun J hx=>by
  have aQ:Cn J J.heap.size (.agg #[v0,v1,v2,v3]) a:=av.keep (fun p hp=>(hx.cell (by have:=O.size; omega)).trans (O.cell hp)) (by have:=O.size; have:=hx.size; omega)
  have:=IM (c:=c) aQ aS.out (a6.keep (w':=J) (fun p hp=>hx.cell hp) hx.size) (Nat.le_refl _) (Ik ah.out)
  rwa [JD ah.out] at this
 have bu:=a9.cell
 have bt:=ax.cell
 obtain⟨AA,cA,rfl⟩:=AH ap
 have bC:=O.size
 have aU:=hide a9
 have bq:=hide O
 have bm:=hide a2
 clear aB am aX aY b0 aZ b1 bb a9 ax a2 av O
 refine Reg.cC [0,1,0,0,12,28,63,127,255] [0,1,2,3,4,5,6,7,8] ?_
 refine Reg.rest_walk' [0,1,2,3] [4,5,6,7,8] rfl (by kernel_rfl) ?_
 intro Qf E
 go_wp2_with fail
 first | refine E _ _ ?_ | skip
 try clear E
 refine Reg.rest_act' 4 [5,6,7,8] [1] rfl (by kernel_rfl) ?_
 intro Qf E
 simp only [gT,gS,gZ]
 go_wp2_with fail
 refine Calls.ret (aT _ (Ap C)) ?_
 rintro v w4 ⟨rfl,a8⟩
 have Z:Below C.heap.size C w4:=(Ap C).trans a8
 go_wp2_with fail
 first | refine E _ _ ⟨Reg.same_below a8 _ rfl,?_⟩ | refine⟨Reg.same_below a8 _ rfl,?_⟩
 try clear E
 have aq:=Bt ap Z
 have aa:=aU.out.below Z
 have bD:=Z.size
 refine Reg.rest_walk' [5] [6,7,8] rfl (by kernel_rfl) ?_
 intro Qf E
 go_wp2_with fail
 first | refine E _ _ ?_ | skip
 try clear E
 refine Reg.rest_act' 6 [7,8] [1] rfl (by kernel_rfl) ?_
 intro Qf E
 simp only [gT,gS,gZ]
 refine BP GM rfl _ _ rfl w0.heap.size (.slice AA all.length cA) all.length _ rfl aq [.bool (a.has m)] 1 rfl rfl (by simp [Value.oneCell']) (by omega) (by omega) ?_
 intro g' bo w5 bf az bB bx
 have ab:=aa.kept az (Aw aq aa (by decide))
 have aW:=ab.cell
 have bv:=ab.frozen 1
 have bA:=ab.lt
 refine E _ _ ⟨?_,?_⟩
 ·intro z hz q hq
  simp only [List.mem_singleton] at hz
  subst hz
  injection hq with hq
  subst hq
  exact Reg.same_load1 rfl rfl ((aa.kept ((Ac.refl w4 (fun _=>False)).alloc (.cells #[.bool (a.has m)] 4)) id).cell 1) (aW 1) Tryz.underlying76 rfl
 clear E
 refine Reg.rest_walk' [7,8] [] rfl (by kernel_rfl) ?_
 intro Qf E
 go_wp2_with fail
 first | refine E _ _ ?_ | skip
 try clear E
 refine Reg.rest_end ?_
 obtain⟨b3,aO⟩:=y.out.add ah.out al.out bi.out bl.out b5.out b8.out I be bc bm.out Z az bf
 go_wp2_with fail
 go_ret
 exact⟨rfl,_,_,_,b3,fun g cs U=>aO g cs (U.below a7)⟩
theorem Lt (h:BK w0 wr a g2 g4 g6 g7 gm #[v0,v1,v2,v3] vN vA vS all t us ws N) (J:Cn w0 w0.heap.size (.agg #[v0,v1,v2,v3]) a) (M:a.acc.length=a.n) (E:m.length=a.n) (G:wr.ownsRow w0.heap.size 3 1 r (AJ m).length ((AJ m).map (Value.int .i64))) (U:∀g,r.ownBlock=some g→N g)
  (F:a.n≤200000) (O:all.length≤60000) (z:BV wr):
  Calls Tryz.prog 163 #[r,.pointer (some ⟨g6,0,none⟩),.pointer (some ⟨g7,0,none⟩),.pointer (some ⟨g4,0,none⟩),.pointer (some ⟨g2,0,none⟩)] wr (Ret fun v w'=>v=.int .i64 (Ax (Bs all m) m:Int)∧∃vA' vS' V,BK w0 w' a g2 g4 g6 g7 gm #[v0,v1,v2,v3] vN vA' vS' (Bs all m) t V ws N∧∀g cs,Blk wr g 3 cs→Blk w' g 3 cs):=by
 by_cases y:m∈all
 ·rw [F0 y]
  refine Calls.ret (Ts h E G F z y) ?_
  rintro v w' ⟨rfl,C⟩
  exact⟨rfl,vA,vS,us,h.keep C,fun g cs I=>I.below C⟩
 ·rw [FZ y,ES y]
  exact Tr h J M E G U F O z y
end
end Go.Proofs.YtfcfpoemojjglaaGreatDoor
namespace Go.Proofs.YtfcfpoemojjglaaGreatDoor
open Go.RowKit
set_option maxHeartbeats 16000000
set_option maxRecDepth 100000
def BG (a:NF) (all:List (List Bool)) (i:Nat):List (List Nat):=(all.take i).map fun s=>(List.range a.L).map fun x=>Ax all (a.after s x)
theorem ET {S:Type} [DecidableEq S] {l k:List S} (h:l<+:k) {s:S} (y:s∈l):Ax k s=Ax l s:=P7 h y
theorem Sv {a:NF} {all z:List (List Bool)} {i:Nat} (h:Exp a.L a.after a.st i all) (E:all<+:z):BG a z i=BG a all i:=by
 have C:=h.inv.le
 unfold BG
 obtain⟨t,rfl⟩:=E
 rw [List.take_append_of_le_length C]
 refine List.map_congr_left fun s F=>List.map_congr_left fun x G=>?_
 obtain⟨j,y⟩:=List.mem_iff_getElem?.1 F
 rw [List.getElem?_take] at y
 split at y
 ·exact ET (List.prefix_append _ _) (h.inv.closed j s (by assumption) y x (List.mem_range.1 G))
 ·cases y
theorem Sw {a:NF} {all:List (List Bool)} {i:Nat} {s:List Bool} (h:all[i]?=some s):BG a all (i+1)=BG a all i++[(List.range a.L).map fun x=>Ax all (a.after s x)]:=by
 unfold BG
 rw [B5 h,List.map_append]
 rfl
theorem GQ {a:NF} {all:List (List Bool)} {i:Nat} (h:i≤all.length):(BG a all i).length=i:=by simp [BG]; omega
section
variable {w0 wr w':World} {a:NF} {g2 g4 g6 g7 gm:Nat} {cs:Array Value} {vN vA vS:Value} {all:List (List Bool)} {t:List (List Nat)} {us ws:List Value} {N:Nat→Prop}
theorem BK.other (h:BK w0 wr a g2 g4 g6 g7 gm cs vN vA vS all t us ws N) {gr:Nat} {F:Array Value} (E:∀g,N g→g≠gr) (y:Blk wr gr 3 F) (I:w0.heap.size≤gr) (hk:Ac wr w' (fun k=>k=gr)):BK w0 w' a g2 g4 g6 g7 gm cs vN vA vS all t us ws N:=
 ⟨h.below.trans (hk.below h.below.size fun b G e=>by omega),h.b2.kept hk (h.b2.ne_ y (by decide)),h.b4.kept hk (h.b4.ne_ y (by decide)),h.b6.kept hk (h.b6.ne_ y (by decide)),h.b7.kept hk (h.b7.ne_ y (by decide)),
  h.map.kept hk (fun e=>BT y h.map e.symm),AK hk h.sets (fun g cs e z=>by subst e; exact z.ne_ y (by decide) rfl),h.setR.keep hk (fun g cs C e _=>E g C e) (fun _ _ x=>x) (Nat.le_refl _),
  AK hk h.acc (fun g cs e z=>by subst e; exact z.ne_ y (by decide) rfl),AK hk h.nxt (fun g cs e z=>by subst e; exact z.ne_ y (by decide) rfl),h.nxtR.keep hk (fun g cs C e _=>E g C e) (fun _ _ x=>x) (Nat.le_refl _),h.sep,h.ge,h.len⟩
theorem BK.rowAdd {row:List Nat} {gr c:Nat} {vN':Value} {w2:World} (h:BK w0 wr a g2 g4 g6 g7 gm cs vN vA vS all t us ws N)
  (Z:wr.ownsRow w0.heap.size 3 1 (.slice (some ⟨gr,0,none⟩) row.length c) row.length (row.map fun y:Nat=>Value.int .i64 (y:Int)))
  (hk:Ac wr w2 (fun k=>vN.ownBlock=some k)) (ho:w2.ownsRow w0.heap.size 24 1 vN' (t.length+1) (ws++[.slice (some ⟨gr,0,none⟩) row.length c])) (W:BJ wr vN vN'):
  BK w0 (w2.setCell ⟨g4,0,none⟩ vN') a g2 g4 g6 g7 gm cs vN' vA vS all (t++[row]) us (ws++[.slice (some ⟨gr,0,none⟩) row.length c]) (fun _=>True):=by
 have O:=(Ac.refl w2 (fun k=>k=g4)).setCell (p:=⟨g4,0,none⟩) (fun _=>rfl) vN'
 have hs:=h.below.size
 have U:=h.b4.kept hk (Aw h.nxt h.b4 (by decide))
 have z:Ac wr (w2.setCell ⟨g4,0,none⟩ vN') (fun k=>vN.ownBlock=some k∨k=g4):=(hk.mono fun _ _ e=>.inl e).trans O fun _ _ e=>.inr e
 have G:∀{e:TypeId},e≠24→e≠78→∀g cs,(vN.ownBlock=some g∨g=g4)→¬Blk wr g e cs:=by
  rintro e h1 J g cs (I | I) C
  ·exact Aw h.nxt C (fun E=>h1 E.symm) I
  ·exact C.ne_ h.b4 J I
 have hS:wr.ownsRow w0.heap.size 24 1 vS all.length us:=h.sets
 have M:∀{g:Nat} {e:TypeId} {cs:Array Value},e≠24→e≠78→Blk wr g e cs→Blk (w2.setCell ⟨g4,0,none⟩ vN') g e cs:=fun h1 J C=>C.kept z fun hx=>G h1 J _ _ hx C
 have a6:=h.ge
 refine⟨h.below.trans (z.below hs ?_),M (by decide) (by decide) h.b2,?_,M (by decide) (by decide) h.b6,M (by decide) (by decide) h.b7,?_,?_,?_,AK z h.acc (G (by decide) (by decide)),?_,?_,?_,h.ge,h.len⟩
 ·rintro b hb (e | e)
  ·have:=Bb h.nxt e; omega
  ·omega
 ·exact U.set_ 0 vN'
 ·exact h.map.kept z (by
   rintro(e | e)
   ·exact Di h.nxt h.map e
   ·exact BT h.b4 h.map e.symm)
 ·refine z.ownsRow h.sets fun g F e=>?_
  rcases e with e | e
  ·exact h.sep g F e
  ·exact Aw h.sets h.b4 (by decide) (by rw [F,e])
 ·exact h.setR.keep z (fun g cs _ e=>G (by decide) (by decide) g cs e) (fun _ _ _=>trivial) (Nat.le_refl _)
 ·rw [List.length_append]
  exact AK O ho (fun g cs e C=>by subst e; exact C.ne_ U (by decide) rfl)
 ·rw [List.map_append]
  refine Cl.snoc (h.nxtR.keep z (fun g cs _ e=>G (by decide) (by decide) g cs e) (fun _ _ _=>trivial) (Nat.le_refl _)) ?_ (fun _ _=>trivial)
  have:=AK z Z (G (by decide) (by decide))
  have e:(Ak row).map (Value.int .i64)=row.map fun y:Nat=>Value.int .i64 (y:Int):=by simp [Ak]
  have V:(Ak row).length=row.length:=by simp [Ak]
  rw [e,V]
  exact this
 ·intro g F e
  rcases W with E | ⟨g',E,a7⟩
  ·exact h.sep g F (by rw [←E]; exact e)
  ·rw [e] at E
   injection E with E
   have:=Cj h.sets F
   omega
theorem LD {w:World} {B:Nat} {A:Option Addr} {t:List (List Nat)} (h:VSl R1 w B A (t.map Ak)):VSl R1n w B A t:=by
 refine⟨by simpa using h.1,fun C=>?_⟩
 obtain⟨b,E,e,y,z⟩:=h.2 (by simpa using C)
 exact⟨b,E,e,y,fun k d hd=>z k (Ak d) (AX hd)⟩
theorem BK.fin {z:World} (h:BK w0 wr a g2 g4 g6 g7 gm cs vN vA vS all t us ws N) (hk:Ac wr z (fun k=>k=g4)) (V:∀r∈t,r.length≤4000000) (ht:t.length≤4000000) (Z:all.length≤4000000):
  Br z z.heap.size (.agg #[vN,vA]) t (all.map a.has)∧Below w0.heap.size w0 z:=by
 have a3:=h.ge
 have O:=AK hk h.nxt (fun g cs e y=>by subst e; exact y.ne_ h.b4 (by decide) rfl)
 have M:=AK hk h.acc (fun g cs e y=>by subst e; exact y.ne_ h.b4 (by decide) rfl)
 have U:=h.nxtR.keep (N':=N) hk (fun g cs _ e y=>by subst e; exact y.ne_ h.b4 (by decide) rfl) (fun _ _ x=>x) (Nat.le_refl _)
 obtain⟨E,G,C,h1⟩:=Cl.read U O ht (Nat.le_refl _) (fun d hd=>by
  obtain⟨r,W,rfl⟩:=List.mem_map.1 hd
  have:=V r W
  simpa [Ak] using this)
 obtain⟨F,c2,I,J⟩:=Kg (B:=z.heap.size) M (by simp) (Nat.le_refl _) (by omega)
 rw [List.length_map] at C
 exact⟨⟨E,G,F,c2,by rw [C,I],LD h1,J⟩,h.below.trans (hk.below h.below.size fun b hb e=>by omega)⟩
end
end Go.Proofs.YtfcfpoemojjglaaGreatDoor
namespace Go.Proofs.YtfcfpoemojjglaaGreatDoor
open Go.RowKit
set_option maxHeartbeats 16000000
set_option maxRecDepth 100000
def Ih:Code→Code
 | .scope c=>c
 | .seq a b=>match Ih a with
  | .skip=>Ih b
  | c=>c
 | _=>.skip
def JQ (f:Func) (l:Nat):Code:=match f.body with
 | some c=>(findLabel (Ih c) l).getD .skip
 | none=>.skip
def JR (f:Func) (l:Nat):Code:=match JQ f l with
 | .seq .skip c=>c
 | c=>c
def CY (w:World) (g:Nat) (v0 v1:Value):World:=(w.setCell ⟨g,0,none⟩ v0).setCell ⟨g,1,none⟩ v1
theorem Dm {w:World} {g:Nat} {e:TypeId} {a0 a1:Value} (h:Blk w g e #[a0,a1]) (v0 v1:Value):∃y,CY w g v0 v1=y∧Blk y g e #[v0,v1]∧Ac w y (fun k=>k=g):=
 ⟨_,rfl,(h.set_ 0 v0).set_ 1 v1,((Ac.refl w (fun k=>k=g)).setCell (p:=⟨g,0,none⟩) (fun _=>rfl) _).setCell (p:=⟨g,1,none⟩) (fun _=>rfl) _⟩
theorem RA {a:NF} {s:List Bool} {all:List (List Bool)} {x y:Nat} (h:y<x):Ax (AZ a.after s all (x+1)) (a.after s y)=Ax (AZ a.after s all x) (a.after s y):=by
 rw [Cr]
 exact ET (F6 _ _) (Gb s all h)
theorem Ic {S:Type} [DecidableEq S] {δ:S→Nat→S} (s:S) (l:List S):∀k,(AZ δ s l k).length≤l.length+k
 | 0=>Nat.le_refl _
 | k+1=>by
  rw [Cr]
  have:=Ic (δ:=δ) s l k
  unfold Bs
  split
  ·omega
  ·rw [List.length_append,List.length_singleton]; omega
theorem Jq {S:Type} [DecidableEq S] {L:Nat} {δ:S→Nat→S} {s0:S} {i:Nat} {l:List S} (h:Exp L δ s0 i l):l.length≤1+i*L:=by
 induction h with
 | start=>simp
 | row _ _ ih=>
  have:=Ic (δ:=δ) (by assumption) (by assumption) L
  rw [Nat.succ_mul]
  omega
theorem Gf (A:Act) (F:(Nat→Value)→Act) (h:A=F (fun n=>A.tmps.getD n undef)):∃u,A=F u:=⟨_,h⟩
structure Gm (w0 wr:World) (a:NF) (g2 g4 g6 g7 gm:Nat) (cs:Array Value) (i:Nat) (all:List (List Bool)) (vN vA vS:Value) (us ws:List Value):Prop where
 mem:BK w0 wr a g2 g4 g6 g7 gm cs vN vA vS all (BG a all i) us ws (fun _=>True)
 exp:Exp a.L a.after a.st i all
theorem Lw {w0 wr:World} {a:NF} {g2 g4 g6 g7 gm i k:Nat} {v1 v2 v3 vN vA vS va:Value} {all:List (List Bool)} {us ws:List Value} (u:Nat→Value)
  (hI:Gm w0 wr a g2 g4 g6 g7 gm #[.int .i64 (a.L:Int),v1,v2,v3] i all vN vA vS us ws) (aT:Cn w0 w0.heap.size (.agg #[.int .i64 (a.L:Int),v1,v2,v3]) a) (bd:a.OK) (hn:a.n≤200000) (hL:a.L≤8) (hk:k≤50000) (c8:i≤k) (hT:BV w0)
  (bE:∀m x,m.length=a.n→x<a.L→(a.cat (AJ m) x).length≤4000000)
  {Q:Exit→Act→World→Prop} (hN:Reg.NoQ Q)
  (bH:∀(ac:Act) (w':World) (bp:List (List Bool)) (vN vA vS:Value) (us ws:List Value),i<k→Gm w0 w' a g2 g4 g6 g7 gm #[.int .i64 (a.L:Int),v1,v2,v3] (i+1) bp vN vA vS us ws→(∃u:Nat→Value,ac=⟨List.toArray ((va)::(.int .i64 (k:Int))::(.pointer (some ⟨g2,0,none⟩))::u 3::(.pointer (some ⟨g4,0,none⟩))::(.bool false)::(.pointer (some ⟨g6,0,none⟩))::(.pointer (some ⟨g7,0,none⟩))::(.func (.func 163) #[] #[.pointer (some ⟨g6,0,none⟩),.pointer (some ⟨g7,0,none⟩),.pointer (some ⟨g4,0,none⟩),.pointer (some ⟨g2,0,none⟩)])::(.int .i64 ((i+1:Nat):Int))::u 10::u 11::u 12::u 13::u 14::u 15::u 16::u 17::u 18::u 19::u 20::u 21::u 22::u 23::u 24::u 25::u 26::u 27::u 28::u 29::u 30::u 31::u 32::u 33::u 34::u 35::u 36::u 37::u 38::u 39::u 40::u 41::u 42::u 43::u 44::u 45::u 46::u 47::u 48::u 49::u 50::u 51::u 52::u 53::u 54::u 55::u 56::u 57::u 58::u 59::u 60::u 61::u 62::[]),[]⟩)→Q (.goto 0) ac w')
  (aC:∀(ac:Act) (w':World) (vN vA:Value) (b:Bool),Blk w' g4 78 #[vN,vA]→Below w0.heap.size w0 w'→Br w' w'.heap.size (.agg #[vN,vA]) (BG a all i) (all.map a.has)→b=decide (all.length≤k)→(i<all.length→k<all.length)→Exp a.L a.after a.st i all→(∃u:Nat→Value,ac=⟨List.toArray ((va)::(.int .i64 (k:Int))::(.pointer (some ⟨g2,0,none⟩))::u 3::(.pointer (some ⟨g4,0,none⟩))::(.bool b)::(.pointer (some ⟨g6,0,none⟩))::(.pointer (some ⟨g7,0,none⟩))::(.func (.func 163) #[] #[.pointer (some ⟨g6,0,none⟩),.pointer (some ⟨g7,0,none⟩),.pointer (some ⟨g4,0,none⟩),.pointer (some ⟨g2,0,none⟩)])::u 9::u 10::u 11::u 12::u 13::u 14::u 15::u 16::u 17::u 18::u 19::u 20::u 21::u 22::u 23::u 24::u 25::u 26::u 27::u 28::u 29::u 30::u 31::u 32::u 33::u 34::u 35::u 36::u 37::u 38::u 39::u 40::u 41::u 42::u 43::u 44::u 45::u 46::u 47::u 48::u 49::u 50::u 51::u 52::u 53::u 54::u 55::u 56::u 57::u 58::u 59::u 60::u 61::u 62::[]),[]⟩)→Q .ret ac w'):
  (JR Tryz.f111 0).wp Tryz.prog Q ⟨List.toArray ((va)::(.int .i64 (k:Int))::(.pointer (some ⟨g2,0,none⟩))::u 3::(.pointer (some ⟨g4,0,none⟩))::(.bool false)::(.pointer (some ⟨g6,0,none⟩))::(.pointer (some ⟨g7,0,none⟩))::(.func (.func 163) #[] #[.pointer (some ⟨g6,0,none⟩),.pointer (some ⟨g7,0,none⟩),.pointer (some ⟨g4,0,none⟩),.pointer (some ⟨g2,0,none⟩)])::(.int .i64 (i:Int))::u 10::u 11::u 12::u 13::u 14::u 15::u 16::u 17::u 18::u 19::u 20::u 21::u 22::u 23::u 24::u 25::u 26::u 27::u 28::u 29::u 30::u 31::u 32::u 33::u 34::u 35::u 36::u 37::u 38::u 39::u 40::u 41::u 42::u 43::u 44::u 45::u 46::u 47::u 48::u 49::u 50::u 51::u 52::u 53::u 54::u 55::u 56::u 57::u 58::u 59::u 60::u 61::u 62::[]),[]⟩ wr:=by
 conv=>arg 2; whnf
 have aZ:=hI.mem.b2.cell
 have b0:=hI.mem.b4.cell
 have ah:=hI.mem.b7.cell
 obtain⟨AS,cS,rfl⟩:=AH hI.mem.sets
 have E:=hide hI
 have aU:=hide aT
 have ap:=hI.exp.inv.le
 clear hI aT
 by_cases a9:i<all.length
 ·by_cases a8:all.length≤k
  ·obtain⟨s,hs⟩:=An a9
   obtain⟨gr,w1,ba,ax,aw,c6⟩:=Et wr a.L (by omega)
   rw [Fo] at ax
   have aE:=hide hs
   have cb:=aw.size
   have ca:=E.out.mem.below.size
   have bv:Hid (BK w0 w1 a g2 g4 g6 g7 gm #[.int .i64 (a.L:Int),v1,v2,v3] vN vA (.slice AS all.length cS) (AZ a.after s all 0) (BG a all i) us ws (fun g=>g≠gr)):=
    (E.out.mem.weak fun g hg _=>by omega).keep aw
   have bz:Hid (Blk w1 gr 3 (Bi a.L fun y=>if y<0 then Value.int .i64 (Ax (AZ a.after s all 0) (a.after s y):Int) else .int .i64 0)):=by
    show Blk _ _ _ _
    rw [D4 (g:=fun _=>Value.int .i64 0) (fun y _=>by rw [if_neg (by omega)])]
    exact ax
   clear hs ax aw
   go_wp2_with fail
   go_loopw [34] (fun ii bm=>∃(x:Nat),ii=.int .i64 (x:Int)∧x≤a.L∧Hid (∃vA vS us,BK w0 bm a g2 g4 g6 g7 gm #[.int .i64 (a.L:Int),v1,v2,v3] vN vA vS (AZ a.after s all x) (BG a all i) us ws (fun g=>g≠gr))∧Hid (Blk bm gr 3 (Bi a.L fun y=>if y<x then Value.int .i64 (Ax (AZ a.after s all x) (a.after s y):Int) else .int .i64 0))) (fun ii _=>a.L - (intOf ii).toNat)
   case atStart=>exact⟨0,rfl,Nat.zero_le _,⟨_,_,_,bv.out⟩,bz⟩
   case round=>
    obtain⟨x,rfl,hx,hM,hB⟩:=hrel
    obtain⟨bY,bZ,bX,G⟩:=hM.out
    have ab:=hide G
    by_cases aH:x<a.L
    ·have bh:=DK (δ:=a.after) s all x
     have au:=Ds bh aE.out
     have bj:=G.len s (List.mem_of_getElem? au)
     obtain⟨uv,bl,be,-⟩:=F2.at G.setR (AX (f:=AJ) au)
     obtain⟨Au,cu,rfl,aV⟩:=B8 be rfl (Nat.le_refl _) (by have:=Fw s; omega)
     obtain⟨gS,c1,rfl,bD⟩:=C7 G.sets bl
     have bB:=G.b2.cell
     have b3:=G.b7.cell
     have bk:=G.below.size
     have aP:=hB.out
     have bJ:i<(AZ a.after s all x).length:=AP au
     have aW:(AZ a.after s all x).length≤60000:=by
      have:=Ic (δ:=a.after) s all x
      omega
     have bT:∀J:World,Below wr.heap.size wr J→Calls Tryz.prog 43 #[.agg #[.int .i64 (a.L:Int),v1,v2,v3],.slice Au (AJ s).length cu,.int .i64 (x:Int)] J (Ret fun r w'=>w'.ownsRow J.heap.size 3 1 r (AJ (a.after s x)).length ((AJ (a.after s x)).map (Value.int .i64))∧Below J.heap.size J w'):=fun J hb=>by
      have al:=ab.out.below.trans (hb.mono bk)
      exact Iq (aU.out.keep (fun p hp=>al.cell hp) al.size) bd bj (aV.keep (w':=J) (fun p hp=>hb.cell hp) hb.size) (Nat.le_refl _) aH (bE s x bj aH)
     have bU:∀(J:World) (r:Value),Below wr.heap.size wr J→J.ownsRow w0.heap.size 3 1 r (AJ (a.after s x)).length ((AJ (a.after s x)).map (Value.int .i64))→(∀g,r.ownBlock=some g→g≠gr)→Calls Tryz.prog 163 #[r,.pointer (some ⟨g6,0,none⟩),.pointer (some ⟨g7,0,none⟩),.pointer (some ⟨g4,0,none⟩),.pointer (some ⟨g2,0,none⟩)] J (Ret fun v w'=>v=.int .i64 (Ax (AZ a.after s all (x+1)) (a.after s x):Int)∧∃vA' vS' bW,BK w0 w' a g2 g4 g6 g7 gm #[.int .i64 (a.L:Int),v1,v2,v3] vN vA' vS' (AZ a.after s all (x+1)) (BG a all i) bW ws (fun g=>g≠gr)∧∀g cs,Blk J g 3 cs→Blk w' g 3 cs):=fun J r hb hr bP=>by
      have al:=ab.out.below.trans (hb.mono bk)
      rw [Cr]
      exact Lt (ab.out.keep hb) aU.out bd.acc (a.after_len _ _) hr bP hn aW (hT.below al)
     obtain⟨nS,bc⟩:∃n,n=(AZ a.after s all x).length:=⟨_,rfl⟩
     rw [←bc] at b3 bJ
     clear hM G bh au be bl aV hB aW ba aZ b0 ah bc
     go_wp2_with fail
     refine Reg.region_plain [0,0,0,0,0,0,48,112,0,504,1020,2047,4095] (by kernel_rfl) (by repeat (first | exact hN | refine Reg.NoQ.then ?_ | refine Reg.NoQ.inBlock ?_)) ?_
     go_wp2_with fail
     refine Calls.ret (bT _ (Ap wr)) ?_
     rintro r w2 ⟨aB,aX⟩
     have aY:Below wr.heap.size wr w2:=(Ap wr).trans aX
     have c7:=aP.lt
     have bO:w2.ownsRow w0.heap.size 3 1 r (AJ (a.after s x)).length ((AJ (a.after s x)).map (Value.int .i64)):=DC aB (by show _≤wr.heap.size; omega)
     have bQ:∀g,r.ownBlock=some g→g≠gr:=fun g hg e=>by
      have:=Bb aB hg
      have e2:wr.drew.heap.size=wr.heap.size:=rfl
      omega
     have bs:=aP.below aY
     clear aB aX bB b3 bD
     go_wp2_with fail
     refine Calls.ret (bU w2 r aY bO bQ) ?_
     rintro v w3 ⟨rfl,cg,ch,ce,aR,aN⟩
     have aa:=aN _ _ bs
     have c3:w3.cell? ⟨gr,x,none⟩=some (.int .i64 0):=by rw [aa.cell,CV _ aH,if_neg (by omega)]
     have c4:=aa.frozen x
     have c9:=aa.lt
     have b8:=(Ac.refl w3 (fun k=>k=gr)).setCell (p:=⟨gr,x,none⟩) (fun _=>rfl) (.int .i64 (Ax (AZ a.after s all (x+1)) (a.after s x):Int))
     have aS:=aR.other (fun _ h=>h) aa (by omega) b8
     have aO:Blk (w3.setCell ⟨gr,x,none⟩ (.int .i64 (Ax (AZ a.after s all (x+1)) (a.after s x):Int))) gr 3 (Bi a.L fun y=>if y<x+1 then Value.int .i64 (Ax (AZ a.after s all (x+1)) (a.after s y):Int) else .int .i64 0):=by
      have h1:=aa.set_ x (.int .i64 (Ax (AZ a.after s all (x+1)) (a.after s x):Int))
      rw [F7] at h1
      rw [D4 (g:=fun y=>if y=x then Value.int .i64 (Ax (AZ a.after s all (x+1)) (a.after s x):Int) else if y<x then .int .i64 (Ax (AZ a.after s all x) (a.after s y):Int) else .int .i64 0) (fun y _=>by
       by_cases e:y=x
       ·subst e; simp
       ·by_cases e2:y<x
        ·rw [if_pos (by omega),if_neg e,if_pos e2,RA e2]
        ·rw [if_neg (by omega),if_neg e,if_neg e2])]
      exact h1
     have bw:=hide aS
     have bt:=hide aO
     clear aR aN aa aS aO b8
     go_wp2_with fail
     exact⟨⟨x+1,by go_num,by omega,⟨_,_,_,bw.out⟩,bt⟩,by simp [intOf]; omega⟩
    ·obtain rfl:x=a.L:=by omega
     obtain⟨M,cN,rfl⟩:=AH G.nxt
     have b1:=G.b4.cell
     have bG:=G.b4.frozen 0
     have bL:=G.b4.lt
     have bI:w0.heap.size≤gr:=by omega
     obtain⟨row,ar⟩:∃row,row=(List.range a.L).map fun y=>Ax (AZ a.after s all a.L) (a.after s y):=⟨_,rfl⟩
     have aD:row.length=a.L:=by rw [ar]; simp
     have bg:wr.ownsRow w0.heap.size 3 1 (.slice (some ⟨gr,0,none⟩) row.length row.length) row.length (row.map fun y:Nat=>Value.int .i64 (y:Int)):=by
      have:=DD hB.out bI (Fp _ _) (by omega)
      rw [aD]
      have e:(Bi a.L fun y=>if y<a.L then Value.int .i64 (Ax (AZ a.after s all a.L) (a.after s y):Int) else .int .i64 0).toList=row.map fun y:Nat=>Value.int .i64 (y:Int):=by
       rw [ar]
       simp only [Bi,List.map_map]
       exact List.map_congr_left fun y hy=>by rw [if_pos (List.mem_range.1 hy)]; rfl
      rw [e] at this
      exact this
     have aF:=GQ (a:=a) ap
     have bS:=hide ar
     have bR:=hide aD
     have bN:=hide bg
     have az:=G.nxt
     rw [aF] at az b1
     have aG:=hide aF
     have bA:=G.below.size
     clear hM G hB ar aD bg ba aZ b0 ah aF
     go_wp2_with (at_builtin; refine BP F9 rfl _ _ rfl w0.heap.size _ i _ rfl az [.slice (some ⟨gr,0,none⟩) a.L a.L] 1 rfl rfl (by simp [Value.oneCell']) (by omega) bA ?_; intro g aM w4 bf ay bb c5; have ao:=ab.out.b4.kept ay (Aw az ab.out.b4 (by decide)); have bC:=ao.cell; have bF:=ao.frozen 0; have bK:=ao.lt)
     have I:=hide (show Gm w0 (w4.setCell ⟨g4,0,none⟩ (.slice (some ⟨g,0,none⟩) (i+1) aM)) a g2 g4 g6 g7 gm #[.int .i64 (a.L:Int),v1,v2,v3] (i+1) (AZ a.after s all a.L) (.slice (some ⟨g,0,none⟩) (i+1) aM) bY bZ bX (ws++[.slice (some ⟨gr,0,none⟩) row.length row.length]) from by
      have hE:Exp a.L a.after a.st (i+1) (AZ a.after s all a.L):=.row E.out.exp aE.out
      refine⟨?_,hE⟩
      rw [Sw (Ds (DK s all a.L) aE.out),Sv E.out.exp (DK s all a.L),←bS.out]
      refine ab.out.rowAdd bN.out ?_ ?_ ?_
      ·rw [aG.out]; exact ay
      ·rw [aG.out,bR.out]; exact bf
      ·rw [aG.out]; exact bb)
     clear bf ay bb ao bC bF bK b1 bG bL
     go_wp2_with fail
     try go_step3
     refine bH _ _ _ _ _ _ _ _ (by omega) I.out ?_
     refine Gf _ _ ?_
     rfl
  ·have a2:all.length≤3000000:=by have:=Jq E.out.exp; have:i*a.L≤50000*8:=Nat.mul_le_mul (by omega) hL; omega
   obtain⟨M,cN,rfl⟩:=AH E.out.mem.nxt
   obtain⟨O,U,rfl⟩:=AH E.out.mem.acc
   have F:=E.out.mem.b4
   have W:=E.out.mem.b7
   have b5:=F.frozen
   have b9:=F.lt
   obtain⟨wF,a5,a4,V⟩:=Dm F (.slice M (BG a all i).length cN) (.slice O all.length U)
   have ai:=(W.kept V (W.ne_ F (by decide))).cell
   have I:=hide (E.out.mem.fin V (fun r hr=>by
    unfold BG at hr
    obtain⟨s,_,rfl⟩:=List.mem_map.1 hr
    simp; omega) (by rw [GQ ap]; have:=a2; omega) (by have:=a2; omega))
   have af:=hide a4
   have a6:=hide a5
   clear F W a4 V a5
   go_wp2_with fail
   refine Reg.region_cutI [0,0,2,0,14,1,63] [0,1,2,3,4,5,6] (by kernel_rfl) (by repeat (first | exact hN | refine Reg.NoQ.then ?_ | refine Reg.NoQ.inBlock ?_)) ?_
   refine Reg.wI [0,1,2,3,4] [5,6] rfl fun Qf C=>?_
   go_wp2_with fail
   try rw [List.filterMap_nil]
   go_wp2_with fail
   first | refine C _ _ ⟨rfl,?_⟩ | refine⟨rfl,?_⟩ | refine C _ _ ⟨by simp [Reg.fineT,Reg.intOp,Region.wanted,yielded,Reg.intFine,Reg.isInt,Act.eval],?_⟩
   try clear C
   have aq:=hide a9
   have ae:=hide a8
   clear a9 a8 a2
   refine Reg.aI 5 [6] [1] rfl fun Qf C=>?_
   simp only [gT,gS,gZ]
   go_wp2_with fail
   first | refine C _ _ ⟨?_,?_⟩ | refine⟨?_,?_⟩
   ·intro z hz q Z
    simp only [List.mem_singleton] at hz
    subst hz
    injection Z with Z
    subst Z
    exact Reg.same_load1 rfl rfl (ah 0) ((congrArg (fun w:World=>w.drew.cell? ⟨g7,0,none⟩) a6.out).trans (ai 0)) Tryz.underlying75 rfl
   try clear C
   refine Reg.wI [6] [] rfl fun Qf C=>?_
   go_wp2_with fail
   try rw [List.filterMap_nil]
   go_wp2_with fail
   first | refine C _ _ ⟨rfl,?_⟩ | refine⟨rfl,?_⟩
   try clear C
   refine Reg.restI_end ?_
   go_wp2_with fail
   have ag:decide (all.length≤k)=false:=decide_eq_false ae.out
   change Q .ret _ (CY wr g4 (.slice M (BG a all i).length cN) (.slice O all.length U)).drew
   rw [a6.out]
   refine aC _ _ (.slice M (BG a all i).length cN) (.slice O all.length U) false af.out (I.out.2.trans ((Ap wF).mono I.out.2.size)) I.out.1 ag.symm (fun _=>Nat.lt_of_not_le ae.out) E.out.exp ?_
   refine Gf _ _ ?_
   rfl
 ·have a2:all.length≤3000000:=by have:=Jq E.out.exp; have:i*a.L≤50000*8:=Nat.mul_le_mul (by omega) hL; omega
  by_cases a8:all.length≤k
  ·obtain⟨M,cN,rfl⟩:=AH E.out.mem.nxt
   obtain⟨O,U,rfl⟩:=AH E.out.mem.acc
   have F:=E.out.mem.b4
   have W:=E.out.mem.b7
   have b5:=F.frozen
   have b9:=F.lt
   obtain⟨wF,a5,a4,V⟩:=Dm F (.slice M (BG a all i).length cN) (.slice O all.length U)
   have ai:=(W.kept V (W.ne_ F (by decide))).cell
   have I:=hide (E.out.mem.fin V (fun r hr=>by
    unfold BG at hr
    obtain⟨s,_,rfl⟩:=List.mem_map.1 hr
    simp; omega) (by rw [GQ ap]; have:=a2; omega) (by have:=a2; omega))
   have af:=hide a4
   have a6:=hide a5
   clear F W a4 V a5
   go_wp2_with fail
   refine Reg.region_cutI [0,0,2,0,14,1,63] [0,1,2,3,4,5,6] (by kernel_rfl) (by repeat (first | exact hN | refine Reg.NoQ.then ?_ | refine Reg.NoQ.inBlock ?_)) ?_
   refine Reg.wI [0,1,2,3,4] [5,6] rfl fun Qf C=>?_
   go_wp2_with fail
   try rw [List.filterMap_nil]
   go_wp2_with fail
   first | refine C _ _ ⟨rfl,?_⟩ | refine⟨rfl,?_⟩ | refine C _ _ ⟨by simp [Reg.fineT,Reg.intOp,Region.wanted,yielded,Reg.intFine,Reg.isInt,Act.eval],?_⟩
   try clear C
   have aq:=hide a9
   have ae:=hide a8
   clear a9 a8 a2
   refine Reg.aI 5 [6] [1] rfl fun Qf C=>?_
   simp only [gT,gS,gZ]
   go_wp2_with fail
   first | refine C _ _ ⟨?_,?_⟩ | refine⟨?_,?_⟩
   ·intro z hz q Z
    simp only [List.mem_singleton] at hz
    subst hz
    injection Z with Z
    subst Z
    exact Reg.same_load1 rfl rfl (ah 0) ((congrArg (fun w:World=>w.drew.cell? ⟨g7,0,none⟩) a6.out).trans (ai 0)) Tryz.underlying75 rfl
   try clear C
   refine Reg.wI [6] [] rfl fun Qf C=>?_
   go_wp2_with fail
   try rw [List.filterMap_nil]
   go_wp2_with fail
   first | refine C _ _ ⟨rfl,?_⟩ | refine⟨rfl,?_⟩
   try clear C
   refine Reg.restI_end ?_
   go_wp2_with fail
   have ag:decide (all.length≤k)=true:=decide_eq_true ae.out
   change Q .ret _ (CY wr g4 (.slice M (BG a all i).length cN) (.slice O all.length U)).drew
   rw [a6.out]
   refine aC _ _ (.slice M (BG a all i).length cN) (.slice O all.length U) true af.out (I.out.2.trans ((Ap wF).mono I.out.2.size)) I.out.1 ag.symm (fun h=>absurd h aq.out) E.out.exp ?_
   refine Gf _ _ ?_
   rfl
  ·obtain⟨M,cN,rfl⟩:=AH E.out.mem.nxt
   obtain⟨O,U,rfl⟩:=AH E.out.mem.acc
   have F:=E.out.mem.b4
   have W:=E.out.mem.b7
   have b5:=F.frozen
   have b9:=F.lt
   obtain⟨wF,a5,a4,V⟩:=Dm F (.slice M (BG a all i).length cN) (.slice O all.length U)
   have ai:=(W.kept V (W.ne_ F (by decide))).cell
   have I:=hide (E.out.mem.fin V (fun r hr=>by
    unfold BG at hr
    obtain⟨s,_,rfl⟩:=List.mem_map.1 hr
    simp; omega) (by rw [GQ ap]; have:=a2; omega) (by have:=a2; omega))
   have af:=hide a4
   have a6:=hide a5
   clear F W a4 V a5
   go_wp2_with fail
   refine Reg.region_cutI [0,0,2,0,14,1,63] [0,1,2,3,4,5,6] (by kernel_rfl) (by repeat (first | exact hN | refine Reg.NoQ.then ?_ | refine Reg.NoQ.inBlock ?_)) ?_
   refine Reg.wI [0,1,2,3,4] [5,6] rfl fun Qf C=>?_
   go_wp2_with fail
   try rw [List.filterMap_nil]
   go_wp2_with fail
   first | refine C _ _ ⟨rfl,?_⟩ | refine⟨rfl,?_⟩ | refine C _ _ ⟨by simp [Reg.fineT,Reg.intOp,Region.wanted,yielded,Reg.intFine,Reg.isInt,Act.eval],?_⟩
   try clear C
   have aq:=hide a9
   have ae:=hide a8
   clear a9 a8 a2
   refine Reg.aI 5 [6] [1] rfl fun Qf C=>?_
   simp only [gT,gS,gZ]
   go_wp2_with fail
   first | refine C _ _ ⟨?_,?_⟩ | refine⟨?_,?_⟩
   ·intro z hz q Z
    simp only [List.mem_singleton] at hz
    subst hz
    injection Z with Z
    subst Z
    exact Reg.same_load1 rfl rfl (ah 0) ((congrArg (fun w:World=>w.drew.cell? ⟨g7,0,none⟩) a6.out).trans (ai 0)) Tryz.underlying75 rfl
   try clear C
   refine Reg.wI [6] [] rfl fun Qf C=>?_
   go_wp2_with fail
   try rw [List.filterMap_nil]
   go_wp2_with fail
   first | refine C _ _ ⟨rfl,?_⟩ | refine⟨rfl,?_⟩
   try clear C
   refine Reg.restI_end ?_
   go_wp2_with fail
   have ag:decide (all.length≤k)=false:=decide_eq_false ae.out
   change Q .ret _ (CY wr g4 (.slice M (BG a all i).length cN) (.slice O all.length U)).drew
   rw [a6.out]
   refine aC _ _ (.slice M (BG a all i).length cN) (.slice O all.length U) false af.out (I.out.2.trans ((Ap wF).mono I.out.2.size)) I.out.1 ag.symm (fun h=>absurd h aq.out) E.out.exp ?_
   refine Gf _ _ ?_
   rfl
end Go.Proofs.YtfcfpoemojjglaaGreatDoor
namespace Go.Proofs.YtfcfpoemojjglaaGreatDoor
open Go.RowKit
set_option maxHeartbeats 16000000
set_option maxRecDepth 100000
abbrev sn0:Value:=.slice none 0 0
theorem F1 (t:TypeId) (w:World):∃gm w1,(Instr.makeMap t none).run Tryz.prog w=.ok (.map (some gm)) w1∧Bw w1 gm []∧Below w.heap.size w w1∧w.heap.size≤gm:=
 ⟨_,_,run_makeMap t w,Bw.made w,(Below.refl _ _).alloc (Nat.le_refl _) _,Nat.le_refl _⟩
theorem Tu (w:World) (a:NF) (cs:Array Value):∃g2 g4 g6 g7 gm w1 w2 h z y C,g2=w.heap.size∧g4=w1.heap.size∧g6=h.heap.size∧g7=y.heap.size∧w.alloc (.cells cs 88)=w1∧w1.alloc (.cells #[sn0,sn0] 78)=w2∧(Instr.makeMap 221 none).run Tryz.prog w2=.ok (.map (some gm)) h∧
  h.alloc (.cells #[.map none] 221)=z∧Blk z g6 221 #[.map none]∧z.setCell ⟨g6,0,none⟩ (.map (some gm))=y∧y.alloc (.cells #[sn0] 75)=C∧
  ∀G,Below C.heap.size C G→BK w G a g2 g4 g6 g7 gm cs sn0 sn0 sn0 [] [] [] [] (fun _=>True):=by
 obtain⟨w1,h1,Z,O,ai⟩:=Ae w cs 88
 obtain⟨w2,h2,J,U,aj⟩:=Ae w1 #[sn0,sn0] 78
 obtain⟨gm,h,h3,W,F,ah⟩:=F1 221 w2
 obtain⟨z,h4,a2,V,ak⟩:=Ae h #[.map none] 221
 obtain⟨y,I⟩:∃y,z.setCell ⟨h.heap.size,0,none⟩ (.map (some gm))=y:=⟨_,rfl⟩
 have a3:Ac z y (fun k=>k=h.heap.size):=by rw [←I]; exact(Ac.refl z (fun k=>k=h.heap.size)).setCell (p:=⟨h.heap.size,0,none⟩) (fun _=>rfl) _
 have ad:Blk y h.heap.size 221 #[.map (some gm)]:=by rw [←I]; exact V.set_ 0 _
 obtain⟨C,h6,M,ae,al⟩:=Ae y #[sn0] 75
 refine⟨_,_,_,_,gm,w1,w2,h,z,y,C,rfl,rfl,rfl,rfl,h1,h2,h3,h4,V,I,h6,fun G E=>?_⟩
 have a4:=Z.size
 have am:=J.size
 have an:=F.size
 have af:=a2.size
 have ao:=a3.size
 have ap:=M.size
 have l1:=O.lt
 have l2:=U.lt
 have l3:=W.lt
 have b5:Below h.heap.size z y:=a3.below af fun b E e=>by omega
 have a7:Below h.heap.size h C:=a2.trans (b5.trans (M.mono (by omega)))
 have b3:Below h.heap.size h G:=a7.trans (E.mono (by omega))
 have a5:Below w.heap.size w w2:=Z.trans (J.mono a4)
 have a6:Below w.heap.size w h:=a5.trans (F.mono (by omega))
 refine⟨a6.trans (b3.mono (by omega)),((O.below J).below F).below b3,(U.below F).below b3,(ad.below M).below E,ae.below E,W.keep (b3.block _ l3),Cb,.nil,Cb,Cb,.nil,by simp [Value.ownBlock],⟨Nat.le_refl _,a4,by omega,by omega,by omega⟩,by simp⟩
theorem Ti {a:NF} (z:a.OK):CL a.start=AJ a.st:=by
 refine Ip fun x=>?_
 constructor
 ·intro y
  have:=z.start x y
  rw [D3] at this
  obtain⟨q,rfl⟩:=Int.eq_ofNat_of_zero_le this.1
  refine⟨q,rfl,?_⟩
  unfold NF.st
  rw [Dg (by omega)]
  simp [y]
 ·rintro⟨q,rfl,h⟩
  have C:q<a.n:=by have:=AP h; rwa [a.st_len] at this
  unfold NF.st at h
  rw [Dg C] at h
  simpa using h
def ID (w:World) (a:NF) (k:Nat) (v:Value) (w':World):Prop:=
 Below w.heap.size w w'∧∃d,(∃t ac,Br w' w'.heap.size d t ac)∧((a.Large k∧v=.tuple #[d,.bool false])∨(∃all,Bf a.L a.after a.st all∧all.length≤k∧Br w' w'.heap.size d (BG a all all.length) (all.map a.has)∧v=.tuple #[d,.bool true]))
theorem IB {l:Nat} {J:Act→World→Prop} {Q:Exit→Act→World→Prop} (h:Reg.NoQ Q):Reg.NoQ (Exit.jump l J Q):=⟨fun c a w x=>h.1 c a w x,fun a w x=>h.2 a w x⟩
theorem Lv {w w':World} {a:NF} {g2 g4 g6 g7 k i:Nat} {vN vA M:Value} {b:Bool} {all:List (List Bool)} (u:Nat→Value) (F:Blk w' g4 78 #[vN,vA]) (G:Below w.heap.size w w') (C:Br w' w'.heap.size (.agg #[vN,vA]) (BG a all i) (all.map a.has)) (I:b=decide (all.length≤k)) (E:i<all.length→k<all.length) (y:Exp a.L a.after a.st i all):
  bodyPost Tryz.prog Tryz.f111 (Ret fun r w'=>ID w a k r w') .ret ⟨List.toArray ((M)::(.int .i64 (k:Int))::(.pointer (some ⟨g2,0,none⟩))::u 3::(.pointer (some ⟨g4,0,none⟩))::(.bool b)::(.pointer (some ⟨g6,0,none⟩))::(.pointer (some ⟨g7,0,none⟩))::(.func (.func 163) #[] #[.pointer (some ⟨g6,0,none⟩),.pointer (some ⟨g7,0,none⟩),.pointer (some ⟨g4,0,none⟩),.pointer (some ⟨g2,0,none⟩)])::u 9::u 10::u 11::u 12::u 13::u 14::u 15::u 16::u 17::u 18::u 19::u 20::u 21::u 22::u 23::u 24::u 25::u 26::u 27::u 28::u 29::u 30::u 31::u 32::u 33::u 34::u 35::u 36::u 37::u 38::u 39::u 40::u 41::u 42::u 43::u 44::u 45::u 46::u 47::u 48::u 49::u 50::u 51::u 52::u 53::u 54::u 55::u 56::u 57::u 58::u 59::u 60::u 61::u 62::[]),[]⟩ w':=by
 have J:=F.cell
 refine bodyPost_ret (v:=.tuple #[.agg #[vN,vA],.bool b]) (by simp [results,Tryz.results111,go_sem,J]) rfl ⟨G,_,⟨_,_,C⟩,?_⟩
 subst I
 by_cases z:all.length≤k
 ·refine .inr ⟨all,?_,z,?_,by rw [decide_eq_true z]⟩
  ·have:=y.inv.le
   have:i=all.length:=by
    rcases Nat.lt_or_ge i all.length with h | h
    ·have:=E h; omega
    ·omega
   subst this
   exact y
  ·have:=y.inv.le
   have:i=all.length:=by
    rcases Nat.lt_or_ge i all.length with h | h
    ·have:=E h; omega
    ·omega
   subst this
   exact C
 ·exact .inl ⟨⟨i,all,y,by omega⟩,by rw [decide_eq_false z]⟩
theorem Uo {c rest:Code} {P:Program} {Q:Exit→Act→World→Prop} {A:Act} {w:World} (F:(Nat→Value)→Act) (z:∃u,A=F u) (h:∀u,rest.wp P Q (F u) w) (y:c=rest):c.wp P Q A w:=by
 obtain⟨u,rfl⟩:=z
 subst y
 exact h u
theorem Tv {w:World} {v:Value} {a:NF} {k:Nat} (h:Cn w w.heap.size v a) (Z:a.OK) (hn:a.n≤200000) (hL:a.L≤8) (hk:k≤50000) (hT:BV w) (hs:a.start.length≤4000000)
  (al:∀m x,m.length=a.n→x<a.L→(a.cat (AJ m) x).length≤4000000):
  Calls Tryz.prog 111 #[v,.int .i64 (k:Int)] w (Ret fun r w'=>ID w a k r w'):=by
 have a7:=hide h
 obtain⟨J,U,M,c2,O,V,rfl,h1,h2,h3,h4⟩:=h
 obtain⟨g2,g4,g6,g7,gm,w1,w2,E,w4,F,w6,ar,au,av,aw,aL,aM,aN,aO,y,aP,aQ,hM⟩:=Tu w a #[.int .i64 (a.L:Int),.slice J a.nx.length U,.slice M a.start.length c2,.slice O a.acc.length V]
 subst ar au av aw
 have aj:=hide hM
 have aH:=y.frozen
 have aK:=y.lt
 have aG:=y.cell
 have W:=hM w6 (Below.refl _ _)
 have aF:=W.b2.cell
 have a9:=W.below
 have an:=GY (c:=c2) (h2.keep (B':=w.heap.size) (fun p hp=>a9.cell hp) (Nat.le_refl _)) hs
 rw [Ti Z] at an
 have aD:∀I:World,Below w6.heap.size w6 I→∀r,I.ownsRow w.heap.size 3 1 r (AJ a.st).length ((AJ a.st).map (Value.int .i64))→Calls Tryz.prog 163 #[r,.pointer (some ⟨E.heap.size,0,none⟩),.pointer (some ⟨F.heap.size,0,none⟩),.pointer (some ⟨w1.heap.size,0,none⟩),.pointer (some ⟨w.heap.size,0,none⟩)] I (Ret fun v w'=>∃vA' vS' z,BK w w' a w.heap.size w1.heap.size E.heap.size F.heap.size gm #[.int .i64 (a.L:Int),.slice J a.nx.length U,.slice M a.start.length c2,.slice O a.acc.length V] sn0 vA' vS' [a.st] [] z [] (fun _=>True)):=fun I G r hr=>by
  refine Calls.ret (Lt (aj.out I G) a7.out Z.acc a.st_len hr (fun _ _=>trivial) hn (by simp) (hT.below (aj.out I G).below)) ?_
  rintro v w' ⟨-,vA',vS',z,hS,-⟩
  exact⟨vA',vS',z,hS⟩
 have aC:=a9.size
 have aJ:=W.b2.lt
 have ak:=hide hT
 clear hM W h1 h2 h3 h4 hs y a9 hT
 go_enter Tryz.func111,Tryz.ntmps111
 go_wp2_with fail
 refine wp_scope_jumps (rest:=JQ Tryz.f111 0) 0 (fun a' w'=>∃(u:Nat→Value) (va:Value) (i:Nat) (all:List (List Bool)) (vN vA vS:Value) (us ws:List Value),i≤k∧Gm w w' a w.heap.size w1.heap.size E.heap.size F.heap.size gm #[.int .i64 (a.L:Int),.slice J a.nx.length U,.slice M a.start.length c2,.slice O a.acc.length V] i all vN vA vS us ws∧a'=⟨List.toArray ((va)::(.int .i64 (k:Int))::(.pointer (some ⟨w.heap.size,0,none⟩))::u 3::(.pointer (some ⟨w1.heap.size,0,none⟩))::(.bool false)::(.pointer (some ⟨E.heap.size,0,none⟩))::(.pointer (some ⟨F.heap.size,0,none⟩))::(.func (.func 163) #[] #[.pointer (some ⟨E.heap.size,0,none⟩),.pointer (some ⟨F.heap.size,0,none⟩),.pointer (some ⟨w1.heap.size,0,none⟩),.pointer (some ⟨w.heap.size,0,none⟩)])::(.int .i64 (i:Int))::u 10::u 11::u 12::u 13::u 14::u 15::u 16::u 17::u 18::u 19::u 20::u 21::u 22::u 23::u 24::u 25::u 26::u 27::u 28::u 29::u 30::u 31::u 32::u 33::u 34::u 35::u 36::u 37::u 38::u 39::u 40::u 41::u 42::u 43::u 44::u 45::u 46::u 47::u 48::u 49::u 50::u 51::u 52::u 53::u 54::u 55::u 56::u 57::u 58::u 59::u 60::u 61::u 62::[]),[]⟩) (fun a' _=>k+1 - (intOf (a'.tmps.getD 9 undef)).toNat) (by kernel_rfl) ?_ ?_
 ·go_wp2_with fail
  refine Calls.ret an ?_
  rintro r w7 ⟨aB,aq⟩
  go_wp2_with fail
  refine Calls.ret (aD w7 aq r (DC aB aC)) ?_
  rintro v w8 ⟨vA',vS',z,hS⟩
  go_wp2_with fail
  go_step3
  rename_i hK
  refine hK _ _ ?_
  refine Uo (rest:=JR Tryz.f111 0) (fun u=>⟨List.toArray ((.agg #[.int .i64 (a.L:Int),.slice J a.nx.length U,.slice M a.start.length c2,.slice O a.acc.length V])::(.int .i64 (k:Int))::(.pointer (some ⟨w.heap.size,0,none⟩))::u 3::(.pointer (some ⟨w1.heap.size,0,none⟩))::(.bool false)::(.pointer (some ⟨E.heap.size,0,none⟩))::(.pointer (some ⟨F.heap.size,0,none⟩))::(.func (.func 163) #[] #[.pointer (some ⟨E.heap.size,0,none⟩),.pointer (some ⟨F.heap.size,0,none⟩),.pointer (some ⟨w1.heap.size,0,none⟩),.pointer (some ⟨w.heap.size,0,none⟩)])::(.int .i64 ((0:Nat):Int))::u 10::u 11::u 12::u 13::u 14::u 15::u 16::u 17::u 18::u 19::u 20::u 21::u 22::u 23::u 24::u 25::u 26::u 27::u 28::u 29::u 30::u 31::u 32::u 33::u 34::u 35::u 36::u 37::u 38::u 39::u 40::u 41::u 42::u 43::u 44::u 45::u 46::u 47::u 48::u 49::u 50::u 51::u 52::u 53::u 54::u 55::u 56::u 57::u 58::u 59::u 60::u 61::u 62::[]),[]⟩) (Gf _ _ rfl) ?_ (by kernel_rfl)
  intro u
  refine Lw (i:=0) (all:=[a.st]) u (hI:=⟨hS,.start⟩) a7.out Z hn hL hk (Nat.zero_le _) ak.out al ?_ ?_ ?_
  ·exact IB (Reg.NoQ.body (fun _ _ h=>h) (fun _ h=>h))
  ·rintro ac w2 a2 vN' vA' vS' z ag ay a5 ⟨C,rfl⟩
   exact⟨rfl,C,_,1,a2,vN',vA',vS',z,ag,by omega,a5,rfl⟩
  ·rintro ac w2 vN' vA' b y G a3 aa ab hE ⟨C,rfl⟩
   exact Lv C y G a3 aa ab hE
 ·rintro a' w' ⟨u,va,i,all,vN,vA,vS,us,ws,ax,hI,rfl⟩
  refine wp_seq (wp_skip (show Exit.then _ _ .normal _ _ from ?_))
  refine Lw u hI a7.out Z hn hL hk ax ak.out al ?_ ?_ ?_
  ·exact IB (Reg.NoQ.body (fun _ _ h=>h) (fun _ h=>h))
  ·rintro ac w2 a2 vN' vA' vS' z ag ay a5 ⟨C,rfl⟩
   exact⟨rfl,⟨C,va,i+1,a2,vN',vA',vS',z,ag,by omega,a5,rfl⟩,by simp [intOf]; omega⟩
  ·rintro ac w2 vN' vA' b y G a3 aa ab hE ⟨C,rfl⟩
   exact Lv C y G a3 aa ab hE
end Go.Proofs.YtfcfpoemojjglaaGreatDoor
