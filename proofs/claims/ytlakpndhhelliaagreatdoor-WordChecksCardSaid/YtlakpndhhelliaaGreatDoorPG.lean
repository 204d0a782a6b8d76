/-
  Part PG of a proof.
-/
import Derived.WalkMore
import Derived.ScopeJumps
import Derived.Test.YtlakpndhhelliaaGreatDoorPA
import Derived.Test.YtlakpndhhelliaaGreatDoorPF
set_option maxHeartbeats 16000000
set_option maxRecDepth 100000
set_option linter.unusedVariables false
set_option linter.unusedSimpArgs false
namespace Go.Proofs.YtlakpndhhelliaaGreatDoor
open Go.RowKit
set_option maxHeartbeats 16000000
set_option maxRecDepth 100000
def AM (m:List Bool):List Nat:=(List.range m.length).filter fun q=>m.getD q false
theorem Es (m:List Bool):AC m=Aj (AM m):=rfl
theorem RF {l k:List Nat} (h:Aj l=Aj k):l=k:=by
 unfold Aj at h
 exact(List.map_inj_right fun a b e=>by omega).1 h
theorem Ny {m k:List Bool} (f:m.length=k.length) (h:AM m=AM k):m=k:=Lg f (by rw [Es,Es,h])
theorem FY {m:List Bool} {n:Nat} (h:m.length=n):∀x∈AM m,x<n:=fun x f=>by
 have:=List.mem_range.1 (List.mem_filter.1 f).1
 omega
def C7 (l:List Nat):ByteArray:=⟨(Ci l).toArray⟩
theorem QS (a b:List Nat) (h:C7 a=C7 b):a=b:=by
 unfold C7 at h
 injection h with h
 exact Iq (by simpa using congrArg Array.toList h)
def C3 (l:List Nat):Value:=.string (C7 l)
theorem Fe:DV Tryz.prog 9 C3:=Ln Tryz.underlying9 C7 QS
theorem EQ (w:World):(zeroValue 3).run Tryz.prog w=.ok (.int .i64 0) w:=by kernel_rfl
def AD {S:Type} [DecidableEq S] (l:List S) (a:S):Nat:=l.idxOf a
theorem Jp {S T:Type} [DecidableEq S] [DecidableEq T] {f:S→T}:∀{l:List S} {a:S},(∀b∈l,f b=f a→b=a)→AD (l.map f) (f a)=AD l a∧(f a∈l.map f↔a∈l)
 | [],a,_=>⟨rfl,by simp⟩
 | b::l,a,h=>by
  obtain⟨z,E⟩:=Jp (f:=f) (l:=l) (a:=a) fun c F=>h c (List.mem_cons_of_mem _ F)
  by_cases e:b=a
  ·subst e
   simp [AD]
  ·have C:f b≠f a:=fun G=>e (h b List.mem_cons_self G)
   have I:(f b==f a)=false:=by simpa using C
   have J:(b==a)=false:=by simpa using e
   unfold AD at z ⊢
   rw [List.map_cons,List.idxOf_cons,List.idxOf_cons,I,J]
   refine⟨by rw [z],?_⟩
   rw [List.mem_cons,List.mem_cons,E]
   constructor
   ·rintro(y | y)
    ·exact absurd y.symm C
    ·exact .inr y
   ·rintro(y | y)
    ·exact absurd y.symm e
    ·exact .inr y
structure BA (w0 wr:World) (a:NF) (g2 g4 g6 g7 gm:Nat) (cs:Array Value) (vN vA vS:Value) (all:List (List Bool)) (t:List (List Nat)) (us ws:List Value) (N:Nat→Prop):Prop where
 below:Below w0.heap.size w0 wr
 b2:Blk wr g2 63 cs
 b4:Blk wr g4 56 #[vN,vA]
 b6:Blk wr g6 111 #[.map (some gm)]
 b7:Blk wr g7 53 #[vS]
 map:Bt wr gm ((all.map AM).map C3)
 sets:wr.ownsRow w0.heap.size 24 1 vS all.length us
 setR:Ck wr w0.heap.size N us (all.map AC)
 acc:wr.ownsRow w0.heap.size 4 1 vA all.length ((all.map a.has).map Value.bool)
 nxt:wr.ownsRow w0.heap.size 24 1 vN t.length ws
 nxtR:Ck wr w0.heap.size N ws (t.map Aj)
 sep:∀g,vS.ownBlock=some g→vN.ownBlock≠some g
 ge:w0.heap.size≤g2∧w0.heap.size≤g4∧w0.heap.size≤g6∧w0.heap.size≤g7∧w0.heap.size≤gm
 len:∀m∈all,m.length=a.n
section
variable {w0 wr w':World} {a:NF} {g2 g4 g6 g7 gm:Nat} {cs:Array Value} {vN vA vS:Value} {all:List (List Bool)} {t:List (List Nat)} {us ws:List Value} {N:Nat→Prop}
theorem BA.keep (h:BA w0 wr a g2 g4 g6 g7 gm cs vN vA vS all t us ws N) (f:Below wr.heap.size wr w'):BA w0 w' a g2 g4 g6 g7 gm cs vN vA vS all t us ws N:=
 ⟨h.below.trans (f.mono h.below.size),h.b2.below f,h.b4.below f,h.b6.below f,h.b7.below f,h.map.keep (f.block _ h.map.lt),B5 h.sets f,
  h.setR.keep (Ae.of_below f (fun _=>False)) (fun _ _ _ e=>e.elim) (fun _ _ x=>x) (Nat.le_refl _),B5 h.acc f,B5 h.nxt f,h.nxtR.keep (Ae.of_below f (fun _=>False)) (fun _ _ _ e=>e.elim) (fun _ _ x=>x) (Nat.le_refl _),h.sep,h.ge,h.len⟩
theorem BA.weak {N':Nat→Prop} (h:BA w0 wr a g2 g4 g6 g7 gm cs vN vA vS all t us ws N) (f:∀g,g<wr.heap.size→N g→N' g):BA w0 wr a g2 g4 g6 g7 gm cs vN vA vS all t us ws N':=
 ⟨h.below,h.b2,h.b4,h.b6,h.b7,h.map,h.sets,h.setR.keep (Ae.refl wr (fun _=>False)) (fun _ _ _ e=>e.elim) f (Nat.le_refl _),h.acc,h.nxt,h.nxtR.keep (Ae.refl wr (fun _=>False)) (fun _ _ _ e=>e.elim) f (Nat.le_refl _),h.sep,h.ge,h.len⟩
theorem BA.idx (h:BA w0 wr a g2 g4 g6 g7 gm cs vN vA vS all t us ws N) {m:List Bool} (f:m.length=a.n):AD (all.map AM) (AM m)=AD all m∧(AM m∈all.map AM↔m∈all):=
 Jp fun b y e=>Ny ((h.len b y).trans f.symm) e
theorem BA.add {m:List Bool} {r E V:Value} {W w1 w2 w3 Z:World} (h:BA w0 wr a g2 g4 g6 g7 gm cs vN vA vS all t us ws N) (hm:m.length=a.n)
  (hr:wr.ownsRow w0.heap.size 3 1 r (AC m).length ((AC m).map (Value.int .i64))) (ar:∀g,r.ownBlock=some g→N g)
  (ad:Bt W gm (((all.map AM)++[AM m]).map C3)) (y:wr.grownBy W (some gm)) (aG:W.heap.size=wr.heap.size)
  (J:Ae W w1 (fun k=>vS.ownBlock=some k)) (au:w1.ownsRow w0.heap.size 24 1 E (all.length+1) (us++[r])) (av:BX W vS E)
  (aw:w2=w1.setCell ⟨g7,0,none⟩ E) (F:Below w2.heap.size w2 w3)
  (z:Ae w3 Z (fun k=>vA.ownBlock=some k)) (ax:Z.ownsRow w0.heap.size 4 1 V (all.length+1) ((all.map a.has).map Value.bool++[.bool (a.has m)])):
  BA w0 (Z.setCell ⟨g4,1,none⟩ V) a g2 g4 g6 g7 gm cs vN V E (all++[m]) t (us++[r]) ws N∧∀g cs,Blk wr g 3 cs→Blk (Z.setCell ⟨g4,1,none⟩ V) g 3 cs:=by
 subst aw
 have M:Ae wr W (fun k=>k=gm):=(Ae.of_grown y).mono fun b _ e=>(Option.some.inj e).symm
 have G:=(Ae.refl w1 (fun k=>k=g7)).setCell (p:=⟨g7,0,none⟩) (fun _=>rfl) E
 have ay:Ae (w1.setCell ⟨g7,0,none⟩ E) w3 (fun _=>False):=Ae.of_below F _
 have O:=(Ae.refl Z (fun k=>k=g4)).setCell (p:=⟨g4,1,none⟩) (fun _=>rfl) V
 have nm:∀{g e} {cs:Array Value},Blk wr g e cs→g≠gm:=fun f e=>BL f h.map e
 have m2:=h.b2.kept M (nm h.b2)
 have m4:=h.b4.kept M (nm h.b4)
 have m6:=h.b6.kept M (nm h.b6)
 have m7:=h.b7.kept M (nm h.b7)
 have mS:=M.ownsRow h.sets fun g y e=>CZ h.sets h.map (by rw [y,e])
 have mA:=M.ownsRow h.acc fun g y e=>CZ h.acc h.map (by rw [y,e])
 have mN:=M.ownsRow h.nxt fun g y e=>CZ h.nxt h.map (by rw [y,e])
 have n2:=m2.kept J (AK mS m2 (by decide))
 have n4:=m4.kept J (AK mS m4 (by decide))
 have n6:=m6.kept J (AK mS m6 (by decide))
 have I:=m7.kept J (AK mS m7 (by decide))
 have nA:=AX J mA (Fj mS (by decide))
 have nN:=J.ownsRow mN fun g y e=>h.sep g e y
 have a7:=ad.kept J (fun e=>CZ mS ad e)
 have o2:=(n2.kept G (n2.ne_ I (by decide))).below F
 have o4:=(n4.kept G (n4.ne_ I (by decide))).below F
 have o6:=(n6.kept G (n6.ne_ I (by decide))).below F
 have o7:Blk w3 g7 53 #[E]:=(I.set_ 0 E).below F
 have oS:=B5 (AX G au (fun g cs e f=>by subst e; exact f.ne_ I (by decide) rfl)) F
 have C:=B5 (AX G nA (fun g cs e f=>by subst e; exact f.ne_ I (by decide) rfl)) F
 have oN:=B5 (AX G nN (fun g cs e f=>by subst e; exact f.ne_ I (by decide) rfl)) F
 have om:=(a7.kept G (fun e=>BL I a7 e.symm)).keep (F.block _ (a7.kept G (fun e=>BL I a7 e.symm)).lt)
 have U:=o4.kept z (AK C o4 (by decide))
 have pm:=om.kept z (fun e=>CZ C om e)
 have aE:=h.below.size
 have a3:Ae wr (Z.setCell ⟨g4,1,none⟩ V) (fun k=>k=gm∨vS.ownBlock=some k∨k=g7∨vA.ownBlock=some k∨k=g4):=
  ((((M.mono fun _ _ e=>.inl e).trans J fun _ _ e=>.inr (.inl e)).trans G fun _ _ e=>.inr (.inr (.inl e))).trans ay fun _ _ e=>e.elim).trans z (fun _ _ e=>.inr (.inr (.inr (.inl e)))) |>.trans O fun _ _ e=>.inr (.inr (.inr (.inr e)))
 have ab:∀g cs,(g=gm∨vS.ownBlock=some g∨g=g7∨vA.ownBlock=some g∨g=g4)→¬Blk wr g 3 cs:=by
  rintro g cs (e | e | e | e | e) f
  ·exact nm f e
  ·exact AK h.sets f (by decide) e
  ·exact f.ne_ h.b7 (by decide) e
  ·exact AK h.acc f (by decide) e
  ·exact f.ne_ h.b4 (by decide) e
 have aH:=h.ge
 have aF:∀g,E.ownBlock=some g→vN.ownBlock≠some g:=fun g y e=>by
  rcases av with hh | ⟨g',hh,aK⟩
  ·exact h.sep g (by rw [←hh]; exact y) e
  ·rw [y] at hh
   injection hh with hh
   have:=Cm mN e
   omega
 refine⟨⟨h.below.trans (a3.below aE ?_),?_,?_,?_,?_,?_,?_,?_,?_,?_,?_,aF,h.ge,?_⟩,fun g cs f=>f.kept a3 (fun e=>ab g cs e f)⟩
 ·rintro b hb (e | e | e | e | e)
  ·omega
  ·have:=Bm h.sets e; omega
  ·omega
  ·have:=Bm h.acc e; omega
  ·omega
 ·exact(o2.kept z (AK C o2 (by decide))).kept O ((o2.kept z (AK C o2 (by decide))).ne_ U (by decide))
 ·have:=U.set_ 1 V
  exact this
 ·exact(o6.kept z (AK C o6 (by decide))).kept O ((o6.kept z (AK C o6 (by decide))).ne_ U (by decide))
 ·exact(o7.kept z (AK C o7 (by decide))).kept O ((o7.kept z (AK C o7 (by decide))).ne_ U (by decide))
 ·rw [List.map_append]
  exact pm.kept O (fun e=>BL U pm e.symm)
 ·rw [List.length_append]
  exact AX O (AX z oS (Fj C (by decide))) (fun g cs e f=>by subst e; exact f.ne_ U (by decide) rfl)
 ·rw [List.map_append]
  refine Ck.snoc (h.setR.keep a3 (fun g cs _ e=>ab g cs e) (fun _ _ x=>x) (Nat.le_refl _)) ?_ ar
  exact AX a3 hr ab
 ·rw [List.length_append,List.map_append,List.map_append]
  exact AX O ax (fun g cs e f=>by subst e; exact f.ne_ U (by decide) rfl)
 ·exact AX O (AX z oN (Fj C (by decide))) (fun g cs e f=>by subst e; exact f.ne_ U (by decide) rfl)
 ·exact h.nxtR.keep a3 (fun g cs _ e=>ab g cs e) (fun _ _ x=>x) (Nat.le_refl _)
 ·intro x hx
  rcases List.mem_append.1 hx with hx | hx
  ·exact h.len x hx
  ·rw [List.mem_singleton.1 hx]; exact hm
end
end Go.Proofs.YtlakpndhhelliaaGreatDoor
namespace Go.Proofs.YtlakpndhhelliaaGreatDoor
open Go.RowKit
set_option maxHeartbeats 16000000
set_option maxRecDepth 100000
section
variable {w0 wr:World} {a:NF} {g2 g4 g6 g7 gm:Nat} {v0 v1 v2 v3 vN vA vS:Value} {all:List (List Bool)} {t:List (List Nat)} {us ws:List Value} {N:Nat→Prop} {m:List Bool} {r:Value}
theorem Gf {S:Type} [DecidableEq S] {l:List S} {s:S} (h:s∈l):Br l s=l:=if_pos h
theorem FX {S:Type} [DecidableEq S] {l:List S} {s:S} (h:s∉l):Br l s=l++[s]:=if_neg h
theorem FO {S:Type} [DecidableEq S] {l:List S} {s:S} (h:s∉l):AD (l++[s]) s=l.length:=by
 unfold AD
 rw [List.idxOf_append,if_neg h]
 simp
theorem JE {w:World} {B c:Nat} {A:Option Addr} (h:Sl w B 1 Ai A (AC m)) (f:B≤w.heap.size) (y:m.length=a.n) (E:a.n≤200000) (z:Ca w):
  Calls Tryz.prog 60 #[.slice A (AC m).length c] w (Ret fun r w'=>r=C3 (AM m)∧Below w.heap.size w w'):=by
 have F:=FD m
 have e:(AM m).length=(AC m).length:=by rw [Es]; simp [Aj]
 exact HB (l:=AM m) h f (fun x C=>by have:=FY y x C; omega) (by omega) z
theorem LN (h:BA w0 wr a g2 g4 g6 g7 gm #[v0,v1,v2,v3] vN vA vS all t us ws N) (y:m.length=a.n) (z:wr.ownsRow w0.heap.size 3 1 r (AC m).length ((AC m).map (Value.int .i64)))
  (O:a.n≤200000) (C:Ca wr) (E:m∈all):
  Calls Tryz.prog 59 #[r,.pointer (some ⟨g6,0,none⟩),.pointer (some ⟨g7,0,none⟩),.pointer (some ⟨g4,0,none⟩),.pointer (some ⟨g2,0,none⟩)] wr (Ret fun v w'=>v=.int .i64 (AD all m:Int)∧Below wr.heap.size wr w'):=by
 have a2:=FD m
 obtain⟨A,c,rfl,hS⟩:=C2 z rfl (Nat.le_refl _) (by omega)
 have F:=JE (c:=c) hS (Nat.le_refl _) y O C
 obtain⟨G,I⟩:=h.idx y
 have U:=hide h
 have V:=hide G
 have W:=hide (I.2 E)
 clear h hS z G I E C
 go_enter Tryz.func59,Tryz.ntmps59
 go_wp2_with fail
 refine Calls.ret F ?_
 rintro v w1 ⟨rfl,J⟩
 unfold C3 C7
 have f:=U.out.keep J
 have a3:=f.b6.cell
 have Z:=Fs Fe Tryz.underlying111 EQ f.map (AM m)
 have M:=W.out
 simp only [M,if_true,decide_true,C3,C7] at Z
 clear M
 clear F f
 go_wp2_with fail
 go_ret
 exact⟨by rw [←V.out]; rfl,J⟩
theorem Lx (h:BA w0 wr a g2 g4 g6 g7 gm #[v0,v1,v2,v3] vN vA vS all t us ws N) (an:Cc w0 w0.heap.size (.agg #[v0,v1,v2,v3]) a) (ha:a.acc.length=a.n) (hm:m.length=a.n) (hr:wr.ownsRow w0.heap.size 3 1 r (AC m).length ((AC m).map (Value.int .i64))) (ao:∀g,r.ownBlock=some g→N g)
  (hn:a.n≤200000) (hl:all.length≤60000) (hT:Ca wr) (aq:m∉all):
  Calls Tryz.prog 59 #[r,.pointer (some ⟨g6,0,none⟩),.pointer (some ⟨g7,0,none⟩),.pointer (some ⟨g4,0,none⟩),.pointer (some ⟨g2,0,none⟩)] wr (Ret fun v w'=>v=.int .i64 (all.length:Int)∧∃aN aO aP,BA w0 w' a g2 g4 g6 g7 gm #[v0,v1,v2,v3] vN aN aO (all++[m]) t aP ws N∧∀g cs,Blk wr g 3 cs→Blk w' g 3 cs):=by
 have bs:=FD m
 have aQ:=hide hr
 have aR:=hide ao
 obtain⟨A,c,rfl,hS⟩:=C2 hr rfl (Nat.le_refl _) (by omega)
 have ar:=JE (c:=c) hS (Nat.le_refl _) hm hn hT
 obtain⟨aS,au⟩:=h.idx hm
 have hH:=hide h
 have hM:=hide (show ¬AM m∈all.map AM from fun hh=>aq (au.1 hh))
 have bt:=hide hS
 have a6:=hide hm
 have aV:=hide ha
 clear h hS hr aS au aq hT ao
 go_enter Tryz.func59,Tryz.ntmps59
 go_wp2_with fail
 refine Calls.ret ar ?_
 rintro v w1 ⟨rfl,a7⟩
 unfold C3 C7
 have C:=hH.out.keep a7
 have aw:=B5 aQ.out a7
 have aW:=C.b6.cell
 have aX:=C.b7.cell
 have ax:=Fs Fe Tryz.underlying111 EQ C.map (AM m)
 obtain⟨wm,a8,az,hg,aa⟩:=Fd Fe Tryz.underlying111 C.map (AM m) hM.out
 have aA:=hM.out
 rw [List.length_map] at a8
 simp only [aA,if_false,decide_false,C3,C7] at ax
 simp only [C3,C7] at a8
 have F:Ae w1 wm (fun k=>k=gm):=(Ae.of_grown hg).mono fun b _ e=>(Option.some.inj e).symm
 have ab:=C.b7.kept F (fun e=>BL C.b7 C.map e)
 have aY:=ab.cell
 have G:=F.ownsRow C.sets fun g U e=>CZ C.sets C.map (by rw [U,e])
 obtain⟨AS,cS,rfl⟩:=AV C.sets
 have aZ:=aa
 have b0:=C.below.size
 have f:=hide C
 have ad:=hide aw
 have b1:=hide hg
 have b3:=hide aa
 have b5:=hide az
 have b8:w0.heap.size≤wm.heap.size:=by omega
 clear aA ar C aw hg aa az aZ
 go_wp2_with (at_builtin; refine CO GS rfl _ _ rfl w0.heap.size (.slice AS all.length cS) all.length _ rfl G [.slice A (AC m).length c] 1 rfl rfl (by simp [Value.oneCell']) (by omega) b8 ?_; intro g b9 w2 ba I bb bu; have M:=ab.kept I (AK G ab (by decide)); have bc:=M.cell; have bd:=M.frozen 0; have be:=M.lt)
 obtain⟨y,Z⟩:∃y,y=w2.setCell ⟨g7,0,none⟩ (.slice (some ⟨g,0,none⟩) (all.length+1) b9):=⟨_,rfl⟩
 rw [←Z]
 have V:Ae w2 y (fun k=>k=g7):=by rw [Z]; exact(Ae.refl w2 (fun k=>k=g7)).setCell (p:=⟨g7,0,none⟩) (fun _=>rfl) _
 have ae:Blk y g4 56 #[vN,vA]:=((f.out.b4.kept F (fun e=>BL f.out.b4 f.out.map e)).kept I (AK G (f.out.b4.kept F (fun e=>BL f.out.b4 f.out.map e)) (by decide))).kept V (((f.out.b4.kept F (fun e=>BL f.out.b4 f.out.map e)).kept I (AK G (f.out.b4.kept F (fun e=>BL f.out.b4 f.out.map e)) (by decide))).ne_ M (by decide))
 have aD:Blk y g2 63 #[v0,v1,v2,v3]:=((f.out.b2.kept F (fun e=>BL f.out.b2 f.out.map e)).kept I (AK G (f.out.b2.kept F (fun e=>BL f.out.b2 f.out.map e)) (by decide))).kept V (((f.out.b2.kept F (fun e=>BL f.out.b2 f.out.map e)).kept I (AK G (f.out.b2.kept F (fun e=>BL f.out.b2 f.out.map e)) (by decide))).ne_ M (by decide))
 have aE:y.ownsRow w0.heap.size 4 1 vA all.length ((all.map a.has).map Value.bool):=AX V (AX I (F.ownsRow f.out.acc fun g U e=>CZ f.out.acc f.out.map (by rw [U,e])) (Fj G (by decide))) (fun g cs e W=>by subst e; exact W.ne_ M (by decide) rfl)
 have bf:y.ownsRow w0.heap.size 3 1 (.slice A (AC m).length c) (AC m).length ((AC m).map (Value.int .i64)):=AX V (AX I (F.ownsRow ad.out fun g U e=>CZ ad.out f.out.map (by rw [U,e])) (Fj G (by decide))) (fun g cs e W=>by subst e; exact W.ne_ M (by decide) rfl)
 have O:Below w0.heap.size w0 y:=f.out.below.trans ((((F.mono (fun _ _ e=>.inl e)).trans I (fun _ _ e=>.inr (.inl e))).trans V (fun _ _ e=>.inr (.inr e)):Ae w1 y (fun k=>k=gm∨(Value.slice AS all.length cS).ownBlock=some k∨k=g7)).below b0 (by
  rintro b hb (e | e | e)
  ·have:=f.out.ge; omega
  ·have:=Bm G e; omega
  ·have:=f.out.ge; omega))
 have af:∃A' c',Value.slice A (AC m).length c=.slice A' (AC m).length c'∧Sl y y.heap.size 1 Ai A' (AC m):=C2 bf rfl (Nat.le_refl _) (by omega)
 obtain⟨A',c',eA,af⟩:=af
 injection eA with eA _ ec
 subst eA
 clear ec
 have bh:∀J:World,Below y.heap.size y J→Calls Tryz.prog 61 #[.agg #[v0,v1,v2,v3],.slice A (AC m).length c] J (Ret fun r w'=>r=.bool (a.has m)∧Below J.heap.size J w'):=fun J hx=>by
  have bi:Cc J J.heap.size (.agg #[v0,v1,v2,v3]) a:=an.keep (fun p hp=>(hx.cell (by have:=O.size; omega)).trans (O.cell hp)) (by have:=O.size; have:=hx.size; omega)
  have:=QX (c:=c) bi aV.out (af.keep (w':=J) (fun p hp=>hx.cell hp) hx.size) (Nat.le_refl _) (J4 a6.out)
  rwa [KY a6.out] at this
 have bw:=ae.cell
 have bx:=aD.cell
 obtain⟨AA,cA,rfl⟩:=AV aE
 have bz:=O.size
 have bl:=hide ae
 have bA:=hide O
 have bm:=hide Z
 clear ax a8 aW aX aY bc bd be ae aD Z an O
 refine Reg.cC [0,1,0,0,12,28,63,127,255] [0,1,2,3,4,5,6,7,8] ?_
 refine Reg.rest_walk' [0,1,2,3] [4,5,6,7,8] rfl (by kernel_rfl) ?_
 intro Qf E
 go_wp2_with fail
 first | refine E _ _ ?_ | skip
 try clear E
 refine Reg.rest_act' 4 [5,6,7,8] [1] rfl (by kernel_rfl) ?_
 intro Qf E
 simp only [gT,gS,gZ]
 go_wp2_with fail
 refine Calls.ret (bh _ (Ap y)) ?_
 rintro v w4 ⟨rfl,aj⟩
 have a3:Below y.heap.size y w4:=(Ap y).trans aj
 go_wp2_with fail
 first | refine E _ _ ⟨Reg.same_below aj _ rfl,?_⟩ | refine⟨Reg.same_below aj _ rfl,?_⟩
 try clear E
 have aH:=B5 aE a3
 have ak:=bl.out.below a3
 have bB:=a3.size
 refine Reg.rest_walk' [5] [6,7,8] rfl (by kernel_rfl) ?_
 intro Qf E
 go_wp2_with fail
 first | refine E _ _ ?_ | skip
 try clear E
 refine Reg.rest_act' 6 [7,8] [1] rfl (by kernel_rfl) ?_
 intro Qf E
 simp only [gT,gS,gZ]
 refine CO JF rfl _ _ rfl w0.heap.size (.slice AA all.length cA) all.length _ rfl aH [.bool (a.has m)] 1 rfl rfl (by simp [Value.oneCell']) (by omega) (by omega) ?_
 intro g' bD w5 bn aJ bF bG
 have al:=ak.kept aJ (AK aH ak (by decide))
 have bo:=al.cell
 have bH:=al.frozen 1
 have bI:=al.lt
 refine E _ _ ⟨?_,?_⟩
 ·intro z hz q hq
  simp only [List.mem_singleton] at hz
  subst hz
  injection hq with hq
  subst hq
  exact Reg.same_load1 rfl rfl ((ak.kept ((Ae.refl w4 (fun _=>False)).alloc (.cells #[.bool (a.has m)] 4)) id).cell 1) (bo 1) Tryz.underlying54 rfl
 clear E
 refine Reg.rest_walk' [7,8] [] rfl (by kernel_rfl) ?_
 intro Qf E
 go_wp2_with fail
 first | refine E _ _ ?_ | skip
 try clear E
 refine Reg.rest_end ?_
 obtain⟨bp,bq⟩:=f.out.add a6.out ad.out aR.out b5.out b1.out b3.out I ba bb bm.out a3 aJ bn
 go_wp2_with fail
 go_ret
 exact⟨rfl,_,_,_,bp,fun g cs W=>bq g cs (W.below a7)⟩
theorem Ie (h:BA w0 wr a g2 g4 g6 g7 gm #[v0,v1,v2,v3] vN vA vS all t us ws N) (G:Cc w0 w0.heap.size (.agg #[v0,v1,v2,v3]) a) (I:a.acc.length=a.n) (y:m.length=a.n) (z:wr.ownsRow w0.heap.size 3 1 r (AC m).length ((AC m).map (Value.int .i64))) (J:∀g,r.ownBlock=some g→N g)
  (C:a.n≤200000) (M:all.length≤60000) (E:Ca wr):
  Calls Tryz.prog 59 #[r,.pointer (some ⟨g6,0,none⟩),.pointer (some ⟨g7,0,none⟩),.pointer (some ⟨g4,0,none⟩),.pointer (some ⟨g2,0,none⟩)] wr (Ret fun v w'=>v=.int .i64 (AD (Br all m) m:Int)∧∃O U V,BA w0 w' a g2 g4 g6 g7 gm #[v0,v1,v2,v3] vN O U (Br all m) t V ws N∧∀g cs,Blk wr g 3 cs→Blk w' g 3 cs):=by
 by_cases f:m∈all
 ·rw [Gf f]
  refine Calls.ret (LN h y z C E f) ?_
  rintro v w' ⟨rfl,F⟩
  exact⟨rfl,vA,vS,us,h.keep F,fun g cs W=>W.below F⟩
 ·rw [FX f,FO f]
  exact Lx h G I y z J C M E f
end
end Go.Proofs.YtlakpndhhelliaaGreatDoor
namespace Go.Proofs.YtlakpndhhelliaaGreatDoor
open Go.RowKit
set_option maxHeartbeats 16000000
set_option maxRecDepth 100000
def Bs (a:NF) (all:List (List Bool)) (i:Nat):List (List Nat):=(all.take i).map fun s=>(List.range a.L).map fun x=>AD all (a.after s x)
theorem EE {S:Type} [DecidableEq S] {l k:List S} (h:l<+:k) {s:S} (f:s∈l):AD k s=AD l s:=Pn h f
theorem PN {a:NF} {all y:List (List Bool)} {i:Nat} (h:Exp a.L a.after a.st i all) (z:all<+:y):Bs a y i=Bs a all i:=by
 have C:=h.inv.le
 unfold Bs
 obtain⟨t,rfl⟩:=z
 rw [List.take_append_of_le_length C]
 refine List.map_congr_left fun s E=>List.map_congr_left fun x F=>?_
 obtain⟨j,f⟩:=List.mem_iff_getElem?.1 E
 rw [List.getElem?_take] at f
 split at f
 ·exact EE (List.prefix_append _ _) (h.inv.closed j s (by assumption) f x (List.mem_range.1 F))
 ·cases f
theorem Lt {a:NF} {all:List (List Bool)} {i:Nat} {s:List Bool} (f:all[i]?=some s):Bs a all (i+1)=Bs a all i++[(List.range a.L).map fun x=>AD all (a.after s x)]:=by
 unfold Bs
 rw [CF f,List.map_append]
 rfl
theorem FQ {a:NF} {all:List (List Bool)} {i:Nat} (f:i≤all.length):(Bs a all i).length=i:=by simp [Bs]; omega
section
variable {w0 wr w':World} {a:NF} {g2 g4 g6 g7 gm:Nat} {cs:Array Value} {vN vA vS:Value} {all:List (List Bool)} {t:List (List Nat)} {us ws:List Value} {N:Nat→Prop}
theorem BA.other (h:BA w0 wr a g2 g4 g6 g7 gm cs vN vA vS all t us ws N) {gr:Nat} {E:Array Value} (C:∀g,N g→g≠gr) (f:Blk wr gr 3 E) (F:w0.heap.size≤gr) (hk:Ae wr w' (fun k=>k=gr)):BA w0 w' a g2 g4 g6 g7 gm cs vN vA vS all t us ws N:=
 ⟨h.below.trans (hk.below h.below.size fun b G e=>by omega),h.b2.kept hk (h.b2.ne_ f (by decide)),h.b4.kept hk (h.b4.ne_ f (by decide)),h.b6.kept hk (h.b6.ne_ f (by decide)),h.b7.kept hk (h.b7.ne_ f (by decide)),
  h.map.kept hk (fun e=>BL f h.map e.symm),AX hk h.sets (fun g cs e y=>by subst e; exact y.ne_ f (by decide) rfl),h.setR.keep hk (fun g cs z e _=>C g z e) (fun _ _ x=>x) (Nat.le_refl _),
  AX hk h.acc (fun g cs e y=>by subst e; exact y.ne_ f (by decide) rfl),AX hk h.nxt (fun g cs e y=>by subst e; exact y.ne_ f (by decide) rfl),h.nxtR.keep hk (fun g cs z e _=>C g z e) (fun _ _ x=>x) (Nat.le_refl _),h.sep,h.ge,h.len⟩
theorem BA.rowAdd {row:List Nat} {gr c:Nat} {vN':Value} {w2:World} (h:BA w0 wr a g2 g4 g6 g7 gm cs vN vA vS all t us ws N)
  (V:wr.ownsRow w0.heap.size 3 1 (.slice (some ⟨gr,0,none⟩) row.length c) row.length (row.map fun y:Nat=>Value.int .i64 (y:Int)))
  (hk:Ae wr w2 (fun k=>vN.ownBlock=some k)) (W:w2.ownsRow w0.heap.size 24 1 vN' (t.length+1) (ws++[.slice (some ⟨gr,0,none⟩) row.length c])) (Z:BX wr vN vN'):
  BA w0 (w2.setCell ⟨g4,0,none⟩ vN') a g2 g4 g6 g7 gm cs vN' vA vS all (t++[row]) us (ws++[.slice (some ⟨gr,0,none⟩) row.length c]) (fun _=>True):=by
 have O:=(Ae.refl w2 (fun k=>k=g4)).setCell (p:=⟨g4,0,none⟩) (fun _=>rfl) vN'
 have hs:=h.below.size
 have U:=h.b4.kept hk (AK h.nxt h.b4 (by decide))
 have f:Ae wr (w2.setCell ⟨g4,0,none⟩ vN') (fun k=>vN.ownBlock=some k∨k=g4):=(hk.mono fun _ _ e=>.inl e).trans O fun _ _ e=>.inr e
 have E:∀{e:TypeId},e≠24→e≠56→∀g cs,(vN.ownBlock=some g∨g=g4)→¬Blk wr g e cs:=by
  rintro e G I g cs (J | J) z
  ·exact AK h.nxt z (fun C=>G C.symm) J
  ·exact z.ne_ h.b4 I J
 have hS:wr.ownsRow w0.heap.size 24 1 vS all.length us:=h.sets
 have M:∀{g:Nat} {e:TypeId} {cs:Array Value},e≠24→e≠56→Blk wr g e cs→Blk (w2.setCell ⟨g4,0,none⟩ vN') g e cs:=fun G I z=>z.kept f fun hx=>E G I _ _ hx z
 have a5:=h.ge
 refine⟨h.below.trans (f.below hs ?_),M (by decide) (by decide) h.b2,?_,M (by decide) (by decide) h.b6,M (by decide) (by decide) h.b7,?_,?_,?_,AX f h.acc (E (by decide) (by decide)),?_,?_,?_,h.ge,h.len⟩
 ·rintro b hb (e | e)
  ·have:=Bm h.nxt e; omega
  ·omega
 ·exact U.set_ 0 vN'
 ·exact h.map.kept f (by
   rintro(e | e)
   ·exact CZ h.nxt h.map e
   ·exact BL h.b4 h.map e.symm)
 ·refine f.ownsRow h.sets fun g F e=>?_
  rcases e with e | e
  ·exact h.sep g F e
  ·exact AK h.sets h.b4 (by decide) (by rw [F,e])
 ·exact h.setR.keep f (fun g cs _ e=>E (by decide) (by decide) g cs e) (fun _ _ _=>trivial) (Nat.le_refl _)
 ·rw [List.length_append]
  exact AX O W (fun g cs e z=>by subst e; exact z.ne_ U (by decide) rfl)
 ·rw [List.map_append]
  refine Ck.snoc (h.nxtR.keep f (fun g cs _ e=>E (by decide) (by decide) g cs e) (fun _ _ _=>trivial) (Nat.le_refl _)) ?_ (fun _ _=>trivial)
  have:=AX f V (E (by decide) (by decide))
  have e:(Aj row).map (Value.int .i64)=row.map fun y:Nat=>Value.int .i64 (y:Int):=by simp [Aj]
  have el:(Aj row).length=row.length:=by simp [Aj]
  rw [e,el]
  exact this
 ·intro g F e
  rcases Z with C | ⟨g',C,a8⟩
  ·exact h.sep g F (by rw [←C]; exact e)
  ·rw [e] at C
   injection C with C
   have:=Cm h.sets F
   omega
theorem J0 {w:World} {B:Nat} {A:Option Addr} {t:List (List Nat)} (h:VSl R1 w B A (t.map Aj)):VSl R1n w B A t:=by
 refine⟨by simpa using h.1,fun f=>?_⟩
 obtain⟨b,y,e,z,C⟩:=h.2 (by simpa using f)
 exact⟨b,y,e,z,fun k d hd=>C k (Aj d) (Bq hd)⟩
theorem BA.fin {f:World} (h:BA w0 wr a g2 g4 g6 g7 gm cs vN vA vS all t us ws N) (hk:Ae wr f (fun k=>k=g4)) (C:∀r∈t,r.length≤4000000) (ht:t.length≤4000000) (Z:all.length≤4000000):
  BG f f.heap.size (.agg #[vN,vA]) t (all.map a.has)∧Below w0.heap.size w0 f:=by
 have a2:=h.ge
 have E:=AX hk h.nxt (fun g cs e y=>by subst e; exact y.ne_ h.b4 (by decide) rfl)
 have F:=AX hk h.acc (fun g cs e y=>by subst e; exact y.ne_ h.b4 (by decide) rfl)
 have G:=h.nxtR.keep (N':=N) hk (fun g cs _ e y=>by subst e; exact y.ne_ h.b4 (by decide) rfl) (fun _ _ x=>x) (Nat.le_refl _)
 obtain⟨I,J,z,M⟩:=Ck.read G E ht (Nat.le_refl _) (fun d hd=>by
  obtain⟨r,O,rfl⟩:=List.mem_map.1 hd
  have:=C r O
  simpa [Aj] using this)
 obtain⟨U,c2,V,W⟩:=Ja (B:=f.heap.size) F (by simp) (Nat.le_refl _) (by omega)
 rw [List.length_map] at z
 exact⟨⟨I,J,U,c2,by rw [z,V],J0 M,W⟩,h.below.trans (hk.below h.below.size fun b hb e=>by omega)⟩
end
end Go.Proofs.YtlakpndhhelliaaGreatDoor
namespace Go.Proofs.YtlakpndhhelliaaGreatDoor
open Go.RowKit
set_option maxHeartbeats 16000000
set_option maxRecDepth 100000
def Gu:Code→Code
 | .scope c=>c
 | .seq a b=>match Gu a with
  | .skip=>Gu b
  | c=>c
 | _=>.skip
def HK (f:Func) (l:Nat):Code:=match f.body with
 | some c=>(findLabel (Gu c) l).getD .skip
 | none=>.skip
def Ju (f:Func) (l:Nat):Code:=match HK f l with
 | .seq .skip c=>c
 | c=>c
def Dq (w:World) (g:Nat) (v0 v1:Value):World:=(w.setCell ⟨g,0,none⟩ v0).setCell ⟨g,1,none⟩ v1
theorem DA {w:World} {g:Nat} {e:TypeId} {a0 a1:Value} (h:Blk w g e #[a0,a1]) (v0 v1:Value):∃f,Dq w g v0 v1=f∧Blk f g e #[v0,v1]∧Ae w f (fun k=>k=g):=
 ⟨_,rfl,(h.set_ 0 v0).set_ 1 v1,((Ae.refl w (fun k=>k=g)).setCell (p:=⟨g,0,none⟩) (fun _=>rfl) _).setCell (p:=⟨g,1,none⟩) (fun _=>rfl) _⟩
theorem Lf {a:NF} {s:List Bool} {all:List (List Bool)} {x y:Nat} (h:y<x):AD (Bh a.after s all (x+1)) (a.after s y)=AD (Bh a.after s all x) (a.after s y):=by
 rw [C8]
 exact EE (Fg _ _) (Gg s all h)
theorem GI {S:Type} [DecidableEq S] {δ:S→Nat→S} (s:S) (l:List S):∀k,(Bh δ s l k).length≤l.length+k
 | 0=>Nat.le_refl _
 | k+1=>by
  rw [C8]
  have:=GI (δ:=δ) s l k
  unfold Br
  split
  ·omega
  ·rw [List.length_append,List.length_singleton]; omega
theorem Jf {S:Type} [DecidableEq S] {L:Nat} {δ:S→Nat→S} {s0:S} {i:Nat} {l:List S} (h:Exp L δ s0 i l):l.length≤1+i*L:=by
 induction h with
 | start=>simp
 | row _ _ ih=>
  have:=GI (δ:=δ) (by assumption) (by assumption) L
  rw [Nat.succ_mul]
  omega
theorem FB (A:Act) (F:(Nat→Value)→Act) (h:A=F (fun n=>A.tmps.getD n undef)):∃u,A=F u:=⟨_,h⟩
structure F0 (w0 wr:World) (a:NF) (g2 g4 g6 g7 gm:Nat) (cs:Array Value) (i:Nat) (all:List (List Bool)) (vN vA vS:Value) (us ws:List Value):Prop where
 mem:BA w0 wr a g2 g4 g6 g7 gm cs vN vA vS all (Bs a all i) us ws (fun _=>True)
 exp:Exp a.L a.after a.st i all
theorem IW {w0 wr:World} {a:NF} {g2 g4 g6 g7 gm i k:Nat} {v1 v2 v3 vN vA vS va:Value} {all:List (List Bool)} {us ws:List Value} (u:Nat→Value)
  (hI:F0 w0 wr a g2 g4 g6 g7 gm #[.int .i64 (a.L:Int),v1,v2,v3] i all vN vA vS us ws) (aM:Cc w0 w0.heap.size (.agg #[.int .i64 (a.L:Int),v1,v2,v3]) a) (aN:a.OK) (hn:a.n≤200000) (hL:a.L≤8) (hk:k≤50000) (c5:i≤k) (hT:Ca w0)
  (bq:∀m x,m.length=a.n→x<a.L→(a.cat (AC m) x).length≤4000000)
  {Q:Exit→Act→World→Prop} (hN:Reg.NoQ Q)
  (br:∀(ac:Act) (w':World) (bs:List (List Bool)) (vN vA vS:Value) (us ws:List Value),i<k→F0 w0 w' a g2 g4 g6 g7 gm #[.int .i64 (a.L:Int),v1,v2,v3] (i+1) bs vN vA vS us ws→(∃u:Nat→Value,ac=⟨List.toArray ((va)::(.int .i64 (k:Int))::(.pointer (some ⟨g2,0,none⟩))::u 3::(.pointer (some ⟨g4,0,none⟩))::(.bool false)::(.pointer (some ⟨g6,0,none⟩))::(.pointer (some ⟨g7,0,none⟩))::(.func (.func 59) #[] #[.pointer (some ⟨g6,0,none⟩),.pointer (some ⟨g7,0,none⟩),.pointer (some ⟨g4,0,none⟩),.pointer (some ⟨g2,0,none⟩)])::(.int .i64 ((i+1:Nat):Int))::u 10::u 11::u 12::u 13::u 14::u 15::u 16::u 17::u 18::u 19::u 20::u 21::u 22::u 23::u 24::u 25::u 26::u 27::u 28::u 29::u 30::u 31::u 32::u 33::u 34::u 35::u 36::u 37::u 38::u 39::u 40::u 41::u 42::u 43::u 44::u 45::u 46::u 47::u 48::u 49::u 50::u 51::u 52::u 53::u 54::u 55::u 56::u 57::u 58::u 59::u 60::u 61::u 62::[]),[]⟩)→Q (.goto 0) ac w')
  (aw:∀(ac:Act) (w':World) (vN vA:Value) (b:Bool),Blk w' g4 56 #[vN,vA]→Below w0.heap.size w0 w'→BG w' w'.heap.size (.agg #[vN,vA]) (Bs a all i) (all.map a.has)→b=decide (all.length≤k)→(i<all.length→k<all.length)→Exp a.L a.after a.st i all→(∃u:Nat→Value,ac=⟨List.toArray ((va)::(.int .i64 (k:Int))::(.pointer (some ⟨g2,0,none⟩))::u 3::(.pointer (some ⟨g4,0,none⟩))::(.bool b)::(.pointer (some ⟨g6,0,none⟩))::(.pointer (some ⟨g7,0,none⟩))::(.func (.func 59) #[] #[.pointer (some ⟨g6,0,none⟩),.pointer (some ⟨g7,0,none⟩),.pointer (some ⟨g4,0,none⟩),.pointer (some ⟨g2,0,none⟩)])::u 9::u 10::u 11::u 12::u 13::u 14::u 15::u 16::u 17::u 18::u 19::u 20::u 21::u 22::u 23::u 24::u 25::u 26::u 27::u 28::u 29::u 30::u 31::u 32::u 33::u 34::u 35::u 36::u 37::u 38::u 39::u 40::u 41::u 42::u 43::u 44::u 45::u 46::u 47::u 48::u 49::u 50::u 51::u 52::u 53::u 54::u 55::u 56::u 57::u 58::u 59::u 60::u 61::u 62::[]),[]⟩)→Q .ret ac w'):
  (Ju Tryz.f37 0).wp Tryz.prog Q ⟨List.toArray ((va)::(.int .i64 (k:Int))::(.pointer (some ⟨g2,0,none⟩))::u 3::(.pointer (some ⟨g4,0,none⟩))::(.bool false)::(.pointer (some ⟨g6,0,none⟩))::(.pointer (some ⟨g7,0,none⟩))::(.func (.func 59) #[] #[.pointer (some ⟨g6,0,none⟩),.pointer (some ⟨g7,0,none⟩),.pointer (some ⟨g4,0,none⟩),.pointer (some ⟨g2,0,none⟩)])::(.int .i64 (i:Int))::u 10::u 11::u 12::u 13::u 14::u 15::u 16::u 17::u 18::u 19::u 20::u 21::u 22::u 23::u 24::u 25::u 26::u 27::u 28::u 29::u 30::u 31::u 32::u 33::u 34::u 35::u 36::u 37::u 38::u 39::u 40::u 41::u 42::u 43::u 44::u 45::u 46::u 47::u 48::u 49::u 50::u 51::u 52::u 53::u 54::u 55::u 56::u 57::u 58::u 59::u 60::u 61::u 62::[]),[]⟩ wr:=by
 conv=>arg 2; whnf
 have aP:=hI.mem.b2.cell
 have aQ:=hI.mem.b4.cell
 have af:=hI.mem.b7.cell
 obtain⟨AS,cS,rfl⟩:=AV hI.mem.sets
 have E:=hide hI
 have aR:=hide aM
 have al:=hI.exp.inv.le
 clear hI aM
 by_cases a8:i<all.length
 ·by_cases a9:all.length≤k
  ·obtain⟨s,hs⟩:=Ay a8
   obtain⟨gr,w1,aT,ax,ay,c6⟩:=Fp wr a.L (by omega)
   rw [EZ] at ax
   have az:=hide hs
   have c7:=ay.size
   have c8:=E.out.mem.below.size
   have bv:Hid (BA w0 w1 a g2 g4 g6 g7 gm #[.int .i64 (a.L:Int),v1,v2,v3] vN vA (.slice AS all.length cS) (Bh a.after s all 0) (Bs a all i) us ws (fun g=>g≠gr)):=
    (E.out.mem.weak fun g hg _=>by omega).keep ay
   have bw:Hid (Blk w1 gr 3 (Bf a.L fun y=>if y<0 then Value.int .i64 (AD (Bh a.after s all 0) (a.after s y):Int) else .int .i64 0)):=by
    show Blk _ _ _ _
    rw [DM (g:=fun _=>Value.int .i64 0) (fun y _=>by rw [if_neg (by omega)])]
    exact ax
   clear hs ax ay
   go_wp2_with fail
   go_loopw [34] (fun ii aV=>∃(x:Nat),ii=.int .i64 (x:Int)∧x≤a.L∧Hid (∃vA vS us,BA w0 aV a g2 g4 g6 g7 gm #[.int .i64 (a.L:Int),v1,v2,v3] vN vA vS (Bh a.after s all x) (Bs a all i) us ws (fun g=>g≠gr))∧Hid (Blk aV gr 3 (Bf a.L fun y=>if y<x then Value.int .i64 (AD (Bh a.after s all x) (a.after s y):Int) else .int .i64 0))) (fun ii _=>a.L - (intOf ii).toNat)
   case atStart=>exact⟨0,rfl,Nat.zero_le _,⟨_,_,_,bv.out⟩,bw⟩
   case round=>
    obtain⟨x,rfl,hx,hM,hB⟩:=hrel
    obtain⟨bx,bz,bA,G⟩:=hM.out
    have aa:=hide G
    by_cases aC:x<a.L
    ·have aW:=Ei (δ:=a.after) s all x
     have an:=Em aW az.out
     have aX:=G.len s (List.mem_of_getElem? an)
     obtain⟨uv,aY,aZ,-⟩:=F2.at G.setR (Bq (f:=AC) an)
     obtain⟨Au,cu,rfl,b0⟩:=C2 aZ rfl (Nat.le_refl _) (by have:=FD s; omega)
     obtain⟨gS,cb,rfl,bD⟩:=EJ G.sets aY
     have bE:=G.b2.cell
     have b1:=G.b7.cell
     have b3:=G.below.size
     have b5:=hB.out
     have bF:i<(Bh a.after s all x).length:=AO an
     have b6:(Bh a.after s all x).length≤60000:=by
      have:=GI (δ:=a.after) s all x
      omega
     have bG:∀I:World,Below wr.heap.size wr I→Calls Tryz.prog 44 #[.agg #[.int .i64 (a.L:Int),v1,v2,v3],.slice Au (AC s).length cu,.int .i64 (x:Int)] I (Ret fun r w'=>w'.ownsRow I.heap.size 3 1 r (AC (a.after s x)).length ((AC (a.after s x)).map (Value.int .i64))∧Below I.heap.size I w'):=fun I hb=>by
      have ao:=aa.out.below.trans (hb.mono b3)
      exact Ik (aR.out.keep (fun p hp=>ao.cell hp) ao.size) aN aX (b0.keep (w':=I) (fun p hp=>hb.cell hp) hb.size) (Nat.le_refl _) aC (bq s x aX aC)
     have bH:∀(I:World) (r:Value),Below wr.heap.size wr I→I.ownsRow w0.heap.size 3 1 r (AC (a.after s x)).length ((AC (a.after s x)).map (Value.int .i64))→(∀g,r.ownBlock=some g→g≠gr)→Calls Tryz.prog 59 #[r,.pointer (some ⟨g6,0,none⟩),.pointer (some ⟨g7,0,none⟩),.pointer (some ⟨g4,0,none⟩),.pointer (some ⟨g2,0,none⟩)] I (Ret fun v w'=>v=.int .i64 (AD (Bh a.after s all (x+1)) (a.after s x):Int)∧∃bI bJ bK,BA w0 w' a g2 g4 g6 g7 gm #[.int .i64 (a.L:Int),v1,v2,v3] vN bI bJ (Bh a.after s all (x+1)) (Bs a all i) bK ws (fun g=>g≠gr)∧∀g cs,Blk I g 3 cs→Blk w' g 3 cs):=fun I r hb hr bL=>by
      have ao:=aa.out.below.trans (hb.mono b3)
      rw [C8]
      exact Ie (aa.out.keep hb) aR.out aN.acc (a.after_len _ _) hr bL hn b6 (hT.below ao)
     obtain⟨nS,b8⟩:∃n,n=(Bh a.after s all x).length:=⟨_,rfl⟩
     rw [←b8] at b1 bF
     clear hM G aW an aZ aY b0 hB b6 aT aP aQ af b8
     go_wp2_with fail
     refine Reg.region_plain [0,0,0,0,0,0,48,112,0,504,1020,2047,4095] (by kernel_rfl) (by repeat (first | exact hN | refine Reg.NoQ.then ?_ | refine Reg.NoQ.inBlock ?_)) ?_
     go_wp2_with fail
     refine Calls.ret (bG _ (Ap wr)) ?_
     rintro r w2 ⟨aE,b9⟩
     have ba:Below wr.heap.size wr w2:=(Ap wr).trans b9
     have cd:=b5.lt
     have bM:w2.ownsRow w0.heap.size 3 1 r (AC (a.after s x)).length ((AC (a.after s x)).map (Value.int .i64)):=Dz aE (by show _≤wr.heap.size; omega)
     have bN:∀g,r.ownBlock=some g→g≠gr:=fun g hg e=>by
      have:=Bm aE hg
      have e2:wr.drew.heap.size=wr.heap.size:=rfl
      omega
     have bO:=b5.below ba
     clear aE b9 bE b1 bD
     go_wp2_with fail
     refine Calls.ret (bH w2 r ba bM bN) ?_
     rintro v w3 ⟨rfl,ce,cf,cg,bb,bc⟩
     have ad:=bc _ _ bO
     have ch:w3.cell? ⟨gr,x,none⟩=some (.int .i64 0):=by rw [ad.cell,CP _ aC,if_neg (by omega)]
     have ci:=ad.frozen x
     have cj:=ad.lt
     have bd:=(Ae.refl w3 (fun k=>k=gr)).setCell (p:=⟨gr,x,none⟩) (fun _=>rfl) (.int .i64 (AD (Bh a.after s all (x+1)) (a.after s x):Int))
     have be:=bb.other (fun _ h=>h) ad (by omega) bd
     have bf:Blk (w3.setCell ⟨gr,x,none⟩ (.int .i64 (AD (Bh a.after s all (x+1)) (a.after s x):Int))) gr 3 (Bf a.L fun y=>if y<x+1 then Value.int .i64 (AD (Bh a.after s all (x+1)) (a.after s y):Int) else .int .i64 0):=by
      have h1:=ad.set_ x (.int .i64 (AD (Bh a.after s all (x+1)) (a.after s x):Int))
      rw [Ff] at h1
      rw [DM (g:=fun y=>if y=x then Value.int .i64 (AD (Bh a.after s all (x+1)) (a.after s x):Int) else if y<x then .int .i64 (AD (Bh a.after s all x) (a.after s y):Int) else .int .i64 0) (fun y _=>by
       by_cases e:y=x
       ·subst e; simp
       ·by_cases e2:y<x
        ·rw [if_pos (by omega),if_neg e,if_pos e2,Lf e2]
        ·rw [if_neg (by omega),if_neg e,if_neg e2])]
      exact h1
     have bP:=hide be
     have bQ:=hide bf
     clear bb bc ad be bf bd
     go_wp2_with fail
     exact⟨⟨x+1,by go_num,by omega,⟨_,_,_,bP.out⟩,bQ⟩,by simp [intOf]; omega⟩
    ·obtain rfl:x=a.L:=by omega
     obtain⟨M,cN,rfl⟩:=AV G.nxt
     have bh:=G.b4.cell
     have bR:=G.b4.frozen 0
     have bS:=G.b4.lt
     have bT:w0.heap.size≤gr:=by omega
     obtain⟨row,aq⟩:∃row,row=(List.range a.L).map fun y=>AD (Bh a.after s all a.L) (a.after s y):=⟨_,rfl⟩
     have aG:row.length=a.L:=by rw [aq]; simp
     have bi:wr.ownsRow w0.heap.size 3 1 (.slice (some ⟨gr,0,none⟩) row.length row.length) row.length (row.map fun y:Nat=>Value.int .i64 (y:Int)):=by
      have:=EK hB.out bT (Fi _ _) (by omega)
      rw [aG]
      have e:(Bf a.L fun y=>if y<a.L then Value.int .i64 (AD (Bh a.after s all a.L) (a.after s y):Int) else .int .i64 0).toList=row.map fun y:Nat=>Value.int .i64 (y:Int):=by
       rw [aq]
       simp only [Bf,List.map_map]
       exact List.map_congr_left fun y hy=>by rw [if_pos (List.mem_range.1 hy)]; rfl
      rw [e] at this
      exact this
     have aH:=FQ (a:=a) al
     have bV:=hide aq
     have bW:=hide aG
     have bX:=hide bi
     have aJ:=G.nxt
     rw [aH] at aJ bh
     have aK:=hide aH
     have bY:=G.below.size
     clear hM G hB aq aG bi aT aP aQ af aH
     go_wp2_with (at_builtin; refine CO GS rfl _ _ rfl w0.heap.size _ i _ rfl aJ [.slice (some ⟨gr,0,none⟩) a.L a.L] 1 rfl rfl (by simp [Value.oneCell']) (by omega) bY ?_; intro g bj w4 bk aL bl ck; have ar:=aa.out.b4.kept aL (AK aJ aa.out.b4 (by decide)); have c0:=ar.cell; have c1:=ar.frozen 0; have c3:=ar.lt)
     have J:=hide (show F0 w0 (w4.setCell ⟨g4,0,none⟩ (.slice (some ⟨g,0,none⟩) (i+1) bj)) a g2 g4 g6 g7 gm #[.int .i64 (a.L:Int),v1,v2,v3] (i+1) (Bh a.after s all a.L) (.slice (some ⟨g,0,none⟩) (i+1) bj) bx bz bA (ws++[.slice (some ⟨gr,0,none⟩) row.length row.length]) from by
      have hE:Exp a.L a.after a.st (i+1) (Bh a.after s all a.L):=.row E.out.exp az.out
      refine⟨?_,hE⟩
      rw [Lt (Em (Ei s all a.L) az.out),PN E.out.exp (Ei s all a.L),←bV.out]
      refine aa.out.rowAdd bX.out ?_ ?_ ?_
      ·rw [aK.out]; exact aL
      ·rw [aK.out,bW.out]; exact bk
      ·rw [aK.out]; exact bl)
     clear bk aL bl ar c0 c1 c3 bh bR bS
     go_wp2_with fail
     try go_step3
     refine br _ _ _ _ _ _ _ _ (by omega) J.out ?_
     refine FB _ _ ?_
     rfl
  ·have a3:all.length≤3000000:=by have:=Jf E.out.exp; have:i*a.L≤50000*8:=Nat.mul_le_mul (by omega) hL; omega
   obtain⟨M,cN,rfl⟩:=AV E.out.mem.nxt
   obtain⟨O,U,rfl⟩:=AV E.out.mem.acc
   have F:=E.out.mem.b4
   have V:=E.out.mem.b7
   have bm:=F.frozen
   have bn:=F.lt
   obtain⟨wF,a4,a5,W⟩:=DA F (.slice M (Bs a all i).length cN) (.slice O all.length U)
   have ah:=(V.kept W (V.ne_ F (by decide))).cell
   have J:=hide (E.out.mem.fin W (fun r hr=>by
    unfold Bs at hr
    obtain⟨s,_,rfl⟩:=List.mem_map.1 hr
    simp; omega) (by rw [FQ al]; have:=a3; omega) (by have:=a3; omega))
   have ai:=hide a5
   have a6:=hide a4
   clear F V a5 W a4
   go_wp2_with fail
   refine Reg.region_cutI [0,0,2,0,14,1,63] [0,1,2,3,4,5,6] (by kernel_rfl) (by repeat (first | exact hN | refine Reg.NoQ.then ?_ | refine Reg.NoQ.inBlock ?_)) ?_
   refine Reg.wI [0,1,2,3,4] [5,6] rfl fun Qf C=>?_
   go_wp2_with fail
   try rw [List.filterMap_nil]
   go_wp2_with fail
   first | refine C _ _ ⟨rfl,?_⟩ | refine⟨rfl,?_⟩
   try clear C
   have au:=hide a8
   have ae:=hide a9
   clear a8 a9 a3
   refine Reg.aI 5 [6] [1] rfl fun Qf C=>?_
   simp only [gT,gS,gZ]
   go_wp2_with fail
   first | refine C _ _ ⟨?_,?_⟩ | refine⟨?_,?_⟩
   ·intro z hz q Z
    simp only [List.mem_singleton] at hz
    subst hz
    injection Z with Z
    subst Z
    exact Reg.same_load1 rfl rfl (af 0) ((congrArg (fun w:World=>w.drew.cell? ⟨g7,0,none⟩) a6.out).trans (ah 0)) Tryz.underlying53 rfl
   try clear C
   refine Reg.wI [6] [] rfl fun Qf C=>?_
   go_wp2_with fail
   try rw [List.filterMap_nil]
   go_wp2_with fail
   first | refine C _ _ ⟨rfl,?_⟩ | refine⟨rfl,?_⟩
   try clear C
   refine Reg.restI_end ?_
   go_wp2_with fail
   have aj:decide (all.length≤k)=false:=decide_eq_false ae.out
   change Q .ret _ (Dq wr g4 (.slice M (Bs a all i).length cN) (.slice O all.length U)).drew
   rw [a6.out]
   refine aw _ _ (.slice M (Bs a all i).length cN) (.slice O all.length U) false ai.out (J.out.2.trans ((Ap wF).mono J.out.2.size)) J.out.1 aj.symm (fun _=>Nat.lt_of_not_le ae.out) E.out.exp ?_
   refine FB _ _ ?_
   rfl
 ·have a3:all.length≤3000000:=by have:=Jf E.out.exp; have:i*a.L≤50000*8:=Nat.mul_le_mul (by omega) hL; omega
  by_cases a9:all.length≤k
  ·obtain⟨M,cN,rfl⟩:=AV E.out.mem.nxt
   obtain⟨O,U,rfl⟩:=AV E.out.mem.acc
   have F:=E.out.mem.b4
   have V:=E.out.mem.b7
   have bm:=F.frozen
   have bn:=F.lt
   obtain⟨wF,a4,a5,W⟩:=DA F (.slice M (Bs a all i).length cN) (.slice O all.length U)
   have ah:=(V.kept W (V.ne_ F (by decide))).cell
   have J:=hide (E.out.mem.fin W (fun r hr=>by
    unfold Bs at hr
    obtain⟨s,_,rfl⟩:=List.mem_map.1 hr
    simp; omega) (by rw [FQ al]; have:=a3; omega) (by have:=a3; omega))
   have ai:=hide a5
   have a6:=hide a4
   clear F V a5 W a4
   go_wp2_with fail
   refine Reg.region_cutI [0,0,2,0,14,1,63] [0,1,2,3,4,5,6] (by kernel_rfl) (by repeat (first | exact hN | refine Reg.NoQ.then ?_ | refine Reg.NoQ.inBlock ?_)) ?_
   refine Reg.wI [0,1,2,3,4] [5,6] rfl fun Qf C=>?_
   go_wp2_with fail
   try rw [List.filterMap_nil]
   go_wp2_with fail
   first | refine C _ _ ⟨rfl,?_⟩ | refine⟨rfl,?_⟩
   try clear C
   have au:=hide a8
   have ae:=hide a9
   clear a8 a9 a3
   refine Reg.aI 5 [6] [1] rfl fun Qf C=>?_
   simp only [gT,gS,gZ]
   go_wp2_with fail
   first | refine C _ _ ⟨?_,?_⟩ | refine⟨?_,?_⟩
   ·intro z hz q Z
    simp only [List.mem_singleton] at hz
    subst hz
    injection Z with Z
    subst Z
    exact Reg.same_load1 rfl rfl (af 0) ((congrArg (fun w:World=>w.drew.cell? ⟨g7,0,none⟩) a6.out).trans (ah 0)) Tryz.underlying53 rfl
   try clear C
   refine Reg.wI [6] [] rfl fun Qf C=>?_
   go_wp2_with fail
   try rw [List.filterMap_nil]
   go_wp2_with fail
   first | refine C _ _ ⟨rfl,?_⟩ | refine⟨rfl,?_⟩
   try clear C
   refine Reg.restI_end ?_
   go_wp2_with fail
   have aj:decide (all.length≤k)=true:=decide_eq_true ae.out
   change Q .ret _ (Dq wr g4 (.slice M (Bs a all i).length cN) (.slice O all.length U)).drew
   rw [a6.out]
   refine aw _ _ (.slice M (Bs a all i).length cN) (.slice O all.length U) true ai.out (J.out.2.trans ((Ap wF).mono J.out.2.size)) J.out.1 aj.symm (fun h=>absurd h au.out) E.out.exp ?_
   refine FB _ _ ?_
   rfl
  ·obtain⟨M,cN,rfl⟩:=AV E.out.mem.nxt
   obtain⟨O,U,rfl⟩:=AV E.out.mem.acc
   have F:=E.out.mem.b4
   have V:=E.out.mem.b7
   have bm:=F.frozen
   have bn:=F.lt
   obtain⟨wF,a4,a5,W⟩:=DA F (.slice M (Bs a all i).length cN) (.slice O all.length U)
   have ah:=(V.kept W (V.ne_ F (by decide))).cell
   have J:=hide (E.out.mem.fin W (fun r hr=>by
    unfold Bs at hr
    obtain⟨s,_,rfl⟩:=List.mem_map.1 hr
    simp; omega) (by rw [FQ al]; have:=a3; omega) (by have:=a3; omega))
   have ai:=hide a5
   have a6:=hide a4
   clear F V a5 W a4
   go_wp2_with fail
   refine Reg.region_cutI [0,0,2,0,14,1,63] [0,1,2,3,4,5,6] (by kernel_rfl) (by repeat (first | exact hN | refine Reg.NoQ.then ?_ | refine Reg.NoQ.inBlock ?_)) ?_
   refine Reg.wI [0,1,2,3,4] [5,6] rfl fun Qf C=>?_
   go_wp2_with fail
   try rw [List.filterMap_nil]
   go_wp2_with fail
   first | refine C _ _ ⟨rfl,?_⟩ | refine⟨rfl,?_⟩
   try clear C
   have au:=hide a8
   have ae:=hide a9
   clear a8 a9 a3
   refine Reg.aI 5 [6] [1] rfl fun Qf C=>?_
   simp only [gT,gS,gZ]
   go_wp2_with fail
   first | refine C _ _ ⟨?_,?_⟩ | refine⟨?_,?_⟩
   ·intro z hz q Z
    simp only [List.mem_singleton] at hz
    subst hz
    injection Z with Z
    subst Z
    exact Reg.same_load1 rfl rfl (af 0) ((congrArg (fun w:World=>w.drew.cell? ⟨g7,0,none⟩) a6.out).trans (ah 0)) Tryz.underlying53 rfl
   try clear C
   refine Reg.wI [6] [] rfl fun Qf C=>?_
   go_wp2_with fail
   try rw [List.filterMap_nil]
   go_wp2_with fail
   first | refine C _ _ ⟨rfl,?_⟩ | refine⟨rfl,?_⟩
   try clear C
   refine Reg.restI_end ?_
   go_wp2_with fail
   have aj:decide (all.length≤k)=false:=decide_eq_false ae.out
   change Q .ret _ (Dq wr g4 (.slice M (Bs a all i).length cN) (.slice O all.length U)).drew
   rw [a6.out]
   refine aw _ _ (.slice M (Bs a all i).length cN) (.slice O all.length U) false ai.out (J.out.2.trans ((Ap wF).mono J.out.2.size)) J.out.1 aj.symm (fun h=>absurd h au.out) E.out.exp ?_
   refine FB _ _ ?_
   rfl
end Go.Proofs.YtlakpndhhelliaaGreatDoor
namespace Go.Proofs.YtlakpndhhelliaaGreatDoor
open Go.RowKit
set_option maxHeartbeats 16000000
set_option maxRecDepth 100000
abbrev sn0:Value:=.slice none 0 0
theorem FP (t:TypeId) (w:World):∃gm w1,(Instr.makeMap t none).run Tryz.prog w=.ok (.map (some gm)) w1∧Bt w1 gm []∧Below w.heap.size w w1∧w.heap.size≤gm:=
 ⟨_,_,run_makeMap t w,Bt.made w,(Below.refl _ _).alloc (Nat.le_refl _) _,Nat.le_refl _⟩
theorem Pd (w:World) (a:NF) (cs:Array Value):∃g2 g4 g6 g7 gm w1 w2 f y h z,g2=w.heap.size∧g4=w1.heap.size∧g6=f.heap.size∧g7=h.heap.size∧w.alloc (.cells cs 63)=w1∧w1.alloc (.cells #[sn0,sn0] 56)=w2∧(Instr.makeMap 111 none).run Tryz.prog w2=.ok (.map (some gm)) f∧
  f.alloc (.cells #[.map none] 111)=y∧Blk y g6 111 #[.map none]∧y.setCell ⟨g6,0,none⟩ (.map (some gm))=h∧h.alloc (.cells #[sn0] 53)=z∧
  ∀C,Below z.heap.size z C→BA w C a g2 g4 g6 g7 gm cs sn0 sn0 sn0 [] [] [] [] (fun _=>True):=by
 obtain⟨w1,h1,M,O,ah⟩:=Ag w cs 63
 obtain⟨w2,h2,G,U,ai⟩:=Ag w1 #[sn0,sn0] 56
 obtain⟨gm,f,h3,V,E,aj⟩:=FP 111 w2
 obtain⟨y,h4,W,Z,ak⟩:=Ag f #[.map none] 111
 obtain⟨h,I⟩:∃h,y.setCell ⟨f.heap.size,0,none⟩ (.map (some gm))=h:=⟨_,rfl⟩
 have a2:Ae y h (fun k=>k=f.heap.size):=by rw [←I]; exact(Ae.refl y (fun k=>k=f.heap.size)).setCell (p:=⟨f.heap.size,0,none⟩) (fun _=>rfl) _
 have a8:Blk h f.heap.size 111 #[.map (some gm)]:=by rw [←I]; exact Z.set_ 0 _
 obtain⟨z,h6,J,aa,al⟩:=Ag h #[sn0] 53
 refine⟨_,_,_,_,gm,w1,w2,f,y,h,z,rfl,rfl,rfl,rfl,h1,h2,h3,h4,Z,I,h6,fun C F=>?_⟩
 have a3:=M.size
 have am:=G.size
 have an:=E.size
 have ab:=W.size
 have ao:=a2.size
 have ap:=J.size
 have l1:=O.lt
 have l2:=U.lt
 have l3:=V.lt
 have b5:Below f.heap.size y h:=a2.below ab fun b F e=>by omega
 have ae:Below f.heap.size f z:=W.trans (b5.trans (J.mono (by omega)))
 have b3:Below f.heap.size f C:=ae.trans (F.mono (by omega))
 have af:Below w.heap.size w w2:=M.trans (G.mono a3)
 have ag:Below w.heap.size w f:=af.trans (E.mono (by omega))
 refine⟨ag.trans (b3.mono (by omega)),((O.below G).below E).below b3,(U.below E).below b3,(a8.below J).below F,aa.below F,V.keep (b3.block _ l3),CT,.nil,CT,CT,.nil,by simp [Value.ownBlock],⟨Nat.le_refl _,a3,by omega,by omega,by omega⟩,by simp⟩
theorem O8 {a:NF} (y:a.OK):CD a.start=AC a.st:=by
 refine Hm fun x=>?_
 constructor
 ·intro f
  have:=y.start x f
  rw [Ds] at this
  obtain⟨q,rfl⟩:=Int.eq_ofNat_of_zero_le this.1
  refine⟨q,rfl,?_⟩
  unfold NF.st
  rw [CS (by omega)]
  simp [f]
 ·rintro⟨q,rfl,h⟩
  have z:q<a.n:=by have:=AO h; rwa [a.st_len] at this
  unfold NF.st at h
  rw [CS z] at h
  simpa using h
def Jd (w:World) (a:NF) (k:Nat) (v:Value) (w':World):Prop:=
 Below w.heap.size w w'∧∃d,(∃t ac,BG w' w'.heap.size d t ac)∧((a.Large k∧v=.tuple #[d,.bool false])∨(∃all,Bc a.L a.after a.st all∧all.length≤k∧BG w' w'.heap.size d (Bs a all all.length) (all.map a.has)∧v=.tuple #[d,.bool true]))
theorem Jk {l:Nat} {J:Act→World→Prop} {Q:Exit→Act→World→Prop} (h:Reg.NoQ Q):Reg.NoQ (Exit.jump l J Q):=⟨fun c a w x=>h.1 c a w x,fun a w x=>h.2 a w x⟩
theorem Hu {w w':World} {a:NF} {g2 g4 g6 g7 k i:Nat} {vN vA E:Value} {b:Bool} {all:List (List Bool)} (u:Nat→Value) (F:Blk w' g4 56 #[vN,vA]) (G:Below w.heap.size w w') (z:BG w' w'.heap.size (.agg #[vN,vA]) (Bs a all i) (all.map a.has)) (I:b=decide (all.length≤k)) (C:i<all.length→k<all.length) (f:Exp a.L a.after a.st i all):
  bodyPost Tryz.prog Tryz.f37 (Ret fun r w'=>Jd w a k r w') .ret ⟨List.toArray ((E)::(.int .i64 (k:Int))::(.pointer (some ⟨g2,0,none⟩))::u 3::(.pointer (some ⟨g4,0,none⟩))::(.bool b)::(.pointer (some ⟨g6,0,none⟩))::(.pointer (some ⟨g7,0,none⟩))::(.func (.func 59) #[] #[.pointer (some ⟨g6,0,none⟩),.pointer (some ⟨g7,0,none⟩),.pointer (some ⟨g4,0,none⟩),.pointer (some ⟨g2,0,none⟩)])::u 9::u 10::u 11::u 12::u 13::u 14::u 15::u 16::u 17::u 18::u 19::u 20::u 21::u 22::u 23::u 24::u 25::u 26::u 27::u 28::u 29::u 30::u 31::u 32::u 33::u 34::u 35::u 36::u 37::u 38::u 39::u 40::u 41::u 42::u 43::u 44::u 45::u 46::u 47::u 48::u 49::u 50::u 51::u 52::u 53::u 54::u 55::u 56::u 57::u 58::u 59::u 60::u 61::u 62::[]),[]⟩ w':=by
 have J:=F.cell
 refine bodyPost_ret (v:=.tuple #[.agg #[vN,vA],.bool b]) (by simp [results,Tryz.results37,go_sem,J]) rfl ⟨G,_,⟨_,_,z⟩,?_⟩
 subst I
 by_cases y:all.length≤k
 ·refine .inr ⟨all,?_,y,?_,by rw [decide_eq_true y]⟩
  ·have:=f.inv.le
   have:i=all.length:=by
    rcases Nat.lt_or_ge i all.length with h | h
    ·have:=C h; omega
    ·omega
   subst this
   exact f
  ·have:=f.inv.le
   have:i=all.length:=by
    rcases Nat.lt_or_ge i all.length with h | h
    ·have:=C h; omega
    ·omega
   subst this
   exact z
 ·exact .inl ⟨⟨i,all,f,by omega⟩,by rw [decide_eq_false y]⟩
theorem MI {c rest:Code} {P:Program} {Q:Exit→Act→World→Prop} {A:Act} {w:World} (F:(Nat→Value)→Act) (f:∃u,A=F u) (h:∀u,rest.wp P Q (F u) w) (y:c=rest):c.wp P Q A w:=by
 obtain⟨u,rfl⟩:=f
 subst y
 exact h u
theorem PO {w:World} {v:Value} {a:NF} {k:Nat} (h:Cc w w.heap.size v a) (M:a.OK) (hn:a.n≤200000) (hL:a.L≤8) (hk:k≤50000) (hT:Ca w) (hs:a.start.length≤4000000)
  (ak:∀m x,m.length=a.n→x<a.L→(a.cat (AC m) x).length≤4000000):
  Calls Tryz.prog 37 #[v,.int .i64 (k:Int)] w (Ret fun r w'=>Jd w a k r w'):=by
 have a5:=hide h
 obtain⟨O,U,V,c2,W,Z,rfl,h1,h2,h3,h4⟩:=h
 obtain⟨g2,g4,g6,g7,gm,w1,w2,E,w4,F,w6,au,av,aw,ax,aJ,aK,aL,aM,y,aN,aO,hM⟩:=Pd w a #[.int .i64 (a.L:Int),.slice O a.nx.length U,.slice V a.start.length c2,.slice W a.acc.length Z]
 subst au av aw ax
 have am:=hide hM
 have aP:=y.frozen
 have aQ:=y.lt
 have aR:=y.cell
 have a2:=hM w6 (Below.refl _ _)
 have aS:=a2.b2.cell
 have a8:=a2.below
 have an:=Hp (c:=c2) (h2.keep (B':=w.heap.size) (fun p hp=>a8.cell hp) (Nat.le_refl _)) hs
 rw [O8 M] at an
 have az:∀I:World,Below w6.heap.size w6 I→∀r,I.ownsRow w.heap.size 3 1 r (AC a.st).length ((AC a.st).map (Value.int .i64))→Calls Tryz.prog 59 #[r,.pointer (some ⟨E.heap.size,0,none⟩),.pointer (some ⟨F.heap.size,0,none⟩),.pointer (some ⟨w1.heap.size,0,none⟩),.pointer (some ⟨w.heap.size,0,none⟩)] I (Ret fun v w'=>∃f z C,BA w w' a w.heap.size w1.heap.size E.heap.size F.heap.size gm #[.int .i64 (a.L:Int),.slice O a.nx.length U,.slice V a.start.length c2,.slice W a.acc.length Z] sn0 f z [a.st] [] C [] (fun _=>True)):=fun I J r hr=>by
  refine Calls.ret (Ie (am.out I J) a5.out M.acc a.st_len hr (fun _ _=>trivial) hn (by simp) (hT.below (am.out I J).below)) ?_
  rintro v w' ⟨-,f,z,C,hS,-⟩
  exact⟨f,z,C,hS⟩
 have aB:=a8.size
 have aT:=a2.b2.lt
 have ao:=hide hT
 clear hM a2 h1 h2 h3 h4 hs y a8 hT
 go_enter Tryz.func37,Tryz.ntmps37
 go_wp2_with fail
 refine wp_scope_jumps (rest:=HK Tryz.f37 0) 0 (fun a' w'=>∃(u:Nat→Value) (va:Value) (i:Nat) (all:List (List Bool)) (vN vA vS:Value) (us ws:List Value),i≤k∧F0 w w' a w.heap.size w1.heap.size E.heap.size F.heap.size gm #[.int .i64 (a.L:Int),.slice O a.nx.length U,.slice V a.start.length c2,.slice W a.acc.length Z] i all vN vA vS us ws∧a'=⟨List.toArray ((va)::(.int .i64 (k:Int))::(.pointer (some ⟨w.heap.size,0,none⟩))::u 3::(.pointer (some ⟨w1.heap.size,0,none⟩))::(.bool false)::(.pointer (some ⟨E.heap.size,0,none⟩))::(.pointer (some ⟨F.heap.size,0,none⟩))::(.func (.func 59) #[] #[.pointer (some ⟨E.heap.size,0,none⟩),.pointer (some ⟨F.heap.size,0,none⟩),.pointer (some ⟨w1.heap.size,0,none⟩),.pointer (some ⟨w.heap.size,0,none⟩)])::(.int .i64 (i:Int))::u 10::u 11::u 12::u 13::u 14::u 15::u 16::u 17::u 18::u 19::u 20::u 21::u 22::u 23::u 24::u 25::u 26::u 27::u 28::u 29::u 30::u 31::u 32::u 33::u 34::u 35::u 36::u 37::u 38::u 39::u 40::u 41::u 42::u 43::u 44::u 45::u 46::u 47::u 48::u 49::u 50::u 51::u 52::u 53::u 54::u 55::u 56::u 57::u 58::u 59::u 60::u 61::u 62::[]),[]⟩) (fun a' _=>k+1 - (intOf (a'.tmps.getD 9 undef)).toNat) (by kernel_rfl) ?_ ?_
 ·go_wp2_with fail
  refine Calls.ret an ?_
  rintro r w7 ⟨aD,aE⟩
  go_wp2_with fail
  refine Calls.ret (az w7 aE r (Dz aD aB)) ?_
  rintro v w8 ⟨f,z,C,hS⟩
  go_wp2_with fail
  go_step3
  rename_i hK
  refine hK _ _ ?_
  refine MI (rest:=Ju Tryz.f37 0) (fun u=>⟨List.toArray ((.agg #[.int .i64 (a.L:Int),.slice O a.nx.length U,.slice V a.start.length c2,.slice W a.acc.length Z])::(.int .i64 (k:Int))::(.pointer (some ⟨w.heap.size,0,none⟩))::u 3::(.pointer (some ⟨w1.heap.size,0,none⟩))::(.bool false)::(.pointer (some ⟨E.heap.size,0,none⟩))::(.pointer (some ⟨F.heap.size,0,none⟩))::(.func (.func 59) #[] #[.pointer (some ⟨E.heap.size,0,none⟩),.pointer (some ⟨F.heap.size,0,none⟩),.pointer (some ⟨w1.heap.size,0,none⟩),.pointer (some ⟨w.heap.size,0,none⟩)])::(.int .i64 ((0:Nat):Int))::u 10::u 11::u 12::u 13::u 14::u 15::u 16::u 17::u 18::u 19::u 20::u 21::u 22::u 23::u 24::u 25::u 26::u 27::u 28::u 29::u 30::u 31::u 32::u 33::u 34::u 35::u 36::u 37::u 38::u 39::u 40::u 41::u 42::u 43::u 44::u 45::u 46::u 47::u 48::u 49::u 50::u 51::u 52::u 53::u 54::u 55::u 56::u 57::u 58::u 59::u 60::u 61::u 62::[]),[]⟩) (FB _ _ rfl) ?_ (by kernel_rfl)
  intro u
  refine IW (i:=0) (all:=[a.st]) u (hI:=⟨hS,.start⟩) a5.out M hn hL hk (Nat.zero_le _) ao.out ak ?_ ?_ ?_
  ·exact Jk (Reg.NoQ.body (fun _ _ h=>h) (fun _ h=>h))
  ·rintro ac w2 aa vN' f z C ab aF ad ⟨G,rfl⟩
   exact⟨rfl,G,_,1,aa,vN',f,z,C,ab,by omega,ad,rfl⟩
  ·rintro ac w2 vN' f b y J ae af ag hE ⟨G,rfl⟩
   exact Hu G y J ae af ag hE
 ·rintro a' w' ⟨u,va,i,all,vN,vA,vS,us,ws,aG,hI,rfl⟩
  refine wp_seq (wp_skip (show Exit.then _ _ .normal _ _ from ?_))
  refine IW u hI a5.out M hn hL hk aG ao.out ak ?_ ?_ ?_
  ·exact Jk (Reg.NoQ.body (fun _ _ h=>h) (fun _ h=>h))
  ·rintro ac w2 aa vN' f z C ab aF ad ⟨G,rfl⟩
   exact⟨rfl,⟨G,va,i+1,aa,vN',f,z,C,ab,by omega,ad,rfl⟩,by simp [intOf]; omega⟩
  ·rintro ac w2 vN' f b y J ae af ag hE ⟨G,rfl⟩
   exact Hu G y J ae af ag hE
end Go.Proofs.YtlakpndhhelliaaGreatDoor
