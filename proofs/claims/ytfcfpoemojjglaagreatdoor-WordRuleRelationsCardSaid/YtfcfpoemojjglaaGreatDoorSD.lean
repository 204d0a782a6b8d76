/-
  Part SD of a proof.
-/
import Derived.Test.YtfcfpoemojjglaaGreatDoorPA
import Derived.Test.YtfcfpoemojjglaaGreatDoorSC
import Derived.Test.YtfcfpoemojjglaaGreatDoorCE
set_option maxHeartbeats 16000000
set_option maxRecDepth 100000
set_option linter.unusedVariables false
set_option linter.unusedSimpArgs false
namespace Go.Proofs.YtfcfpoemojjglaaGreatDoor
open Go.RowKit
open K (Az Fc AW)
set_option maxHeartbeats 16000000
set_option maxRecDepth 100000
section
variable {w0:World} {gd gm L g3 g5 g9:Nat} {vS vA:Value} {ls:Lst} {rc:Array Value} {left right:List Int} {f t:Int}
theorem Yx (I:K4 w0 rc f t left right) (F:(g3,99,rc)∈ls) (J:(g5,161,#[.pointer (some ⟨gd,0,none⟩)])∈ls) (M:(g9,210,#[.func (.func 150) #[] #[.pointer (some ⟨g5,0,none⟩),.pointer (some ⟨g3,0,none⟩)]])∈ls):
  Wq w0 gd gm vS vA ls L 152 [.pointer (some ⟨g3,0,none⟩),.pointer (some ⟨g9,0,none⟩)] (Q1 left right) []:=by
 intro wr vM d n x hx hn h hS
 have V:=hide (XC I F J wr vM d n x hx hn h hS)
 obtain⟨A,c,Z,O⟩:=I.right
 have U:=(h.blk F).cell 15
 rw [Z] at U
 have a8:=(h.blk M).cell
 have C:=Wj (c:=c) (x:=(x:Int)) (O.keep (w':=wr) (fun p hp=>h.below.cell hp) (Nat.le_refl _))
 have a4:=hide (h.big (m:=n+1) (by omega))
 obtain⟨b,G⟩:∃b,alw right (x:Int)=b:=⟨_,rfl⟩
 rw [G] at C
 obtain⟨m,W⟩:∃m,m=right.length:=⟨_,rfl⟩
 rw [←W] at U C
 have E:=hide G
 clear h O Z F J M hS G W I
 show Calls _ _ #[_,_,_] _ _
 cases b
 ·have y:Hid (Q1 left right x=none):=by show _=_; unfold Q1; rw [E.out]; rfl
  rw [y.out]
  clear y E V
  go_enter Tryz.func152,Tryz.ntmps152
  go_wp2_with (go_at_call 149; refine C.mono ?_; rintro e' w' ⟨rfl,rfl⟩)
  go_ret
  exact⟨rfl,a4.out⟩
 ·have y:Hid (Q1 left right x=Wt left x):=by show _=_; unfold Q1; rw [E.out]; rfl
  rw [y.out]
  clear y E
  go_enter Tryz.func152,Tryz.ntmps152
  go_wp2_with (go_at_call 149; refine C.mono ?_; rintro e' w' ⟨rfl,rfl⟩)
  refine Calls.ret (show Calls _ _ #[_,_,_] _ _ from V.out) ?_
  rintro v w2 ⟨rfl,hF⟩
  go_wp2_with fail
  go_ret
  exact⟨Eq.trans rfl rfl,hF⟩
end
def Xr (F:Nat) (caps:List Value):Prop:=
 (∃c1,caps=[c1]∧(F=194∨F=146∨F=148))∨(∃c1 c2,caps=[c1,c2]∧(F=156∨F=157∨F=150∨F=152∨F=153∨F=155))∨∃c1 c2 c3,caps=[c1,c2,c3]∧F=154
theorem Drw.kpN_num {d:Drw} {f:Nme} {κ:Nat→Option Nme} {k:Nme} (hk:k∈d.nm):∀n,k∈(d.kpN f κ n).nm∧(d.kpN f κ n).num k=d.num k
 | 0=>⟨hk,rfl⟩
 | n+1=>by
  obtain⟨h1,h⟩:=Drw.kpN_num (f:=f) (κ:=κ) hk n
  rw [Drw.kpN_succ]
  unfold Drw.kp1
  split
  ·exact⟨h1,h⟩
  ·exact⟨Drw.mem_add.2 (.inl h1),(Drw.add_num _ _ h1).trans h⟩
theorem Drw.Has.kpN {d:Drw} {S:List (Nme×Nat)} (h:d.Has S) (f:Nme) (κ:Nat→Option Nme) (n:Nat):(d.kpN f κ n).Has S:=fun p x=>
 ⟨(Drw.kpN_num (h p x).1 n).1,(Drw.kpN_num (h p x).1 n).2.trans (h p x).2⟩
theorem XK {w0 w:World} {gd gm n L F:Nat} {vS vA vM:Value} {d:Drw} {ls:Lst} {caps:List Value} {κ:Nat→Option Nme} {S:List (Nme×Nat)} {f:Nme} (h:DrM w0 w gd gm vS vA vM d n ls) (J:d.L=L) (ah:L≤60) (hf:f∈d.nm) (hS:d.Has S)
  (V:Wq w0 gd gm vS vA ls L F caps κ S) (hF:Xr F caps) (hn:n≤800000):
  Calls Tryz.prog 145 #[.pointer (some ⟨gd,0,none⟩),Af d f,.func (.func F) #[] caps.toArray] w (Ret fun v w'=>v=.tuple #[]∧∃x,DrM w0 w' gd gm vS vA x (d.kp f κ) (n+120) ls):=by
 have ab:=h.bd.cell
 rw [J] at ab
 have af:Hid (DrM w0 w gd gm vS vA vM (d.kpN f κ 0) (n+2*0) ls):=h
 have a7:=hide V
 have aa:=hide hS
 have ac:=hide hf
 have a3:Hid (d.kp f κ=d.kpN f κ L):=by show _=_; unfold Drw.kp; rw [J]
 rw [a3.out]
 clear h V hS hf J a3
 unfold Af
 rcases hF with⟨c1,rfl,rfl | rfl | rfl⟩ | ⟨c1,c2,rfl,rfl | rfl | rfl | rfl | rfl | rfl⟩ | ⟨c1,c2,c3,rfl,rfl⟩
 all_goals
  go_enter Tryz.func145,Tryz.ntmps145
  go_wp2_with fail
  go_loopw [13] (fun O wr=>∃(i:Nat) (x:Value),O=.int .i64 (i:Int)∧i≤L∧Hid (DrM w0 wr gd gm vS vA x (d.kpN f κ i) (n+2*i) ls)) (fun O _=>L - (intOf O).toNat)
  case atStart=>exact⟨0,_,rfl,Nat.zero_le _,af⟩
  case round=>
   obtain⟨i,x,rfl,hi,W⟩:=hrel
   by_cases ad:i<L
   ·have y:=hide (a7.out wr x (d.kpN f κ i) (n+2*i) i ad (by omega) W.out (aa.out.kpN f κ i))
    have hs:=hide (Drw.kpN_succ d f κ i)
    have M:=hide (Drw.kpN_num (f:=f) (κ:=κ) ac.out i)
    cases hk:κ i with
    | none=>
     have I:Hid ((d.kpN f κ i).kp1 f κ i=d.kpN f κ i):=by show _=_; unfold Drw.kp1; rw [hk]
     rw [hk] at y
     clear hk
     go_wp2_with fail
     refine Calls.ret y.out ?_
     rintro v U ⟨rfl,C⟩
     unfold Xj
     dsimp only
     have G:Hid (DrM w0 U gd gm vS vA x (d.kpN f κ (i+1)) (n+2*(i+1)) ls):=by
      show DrM _ _ _ _ _ _ _ _ _ _
      rw [hs.out,I.out]
      exact DrM.big C (by omega)
     clear C y
     go_wp2_with fail
     exact⟨⟨i+1,x,by go_num,by omega,G⟩,by simp [intOf]; omega⟩
    | some k=>
     have I:Hid ((d.kpN f κ i).kp1 f κ i=((d.kpN f κ i).add k).mov f i i k):=by show _=_; unfold Drw.kp1; rw [hk]
     rw [hk] at y
     clear hk
     go_wp2_with fail
     refine Calls.ret y.out ?_
     rintro v U ⟨rfl,Z⟩
     have C:DrM w0 U gd gm vS vA x ((d.kpN f κ i).add k) (n+2*i+1) ls:=Z
     have E:=hide (XR (a:=f) (b:=k) (i:=(i:Int)) (o:=(i:Int)) C (Drw.mem_add.2 (.inl M.out.1)) (Drw.add_mem _ k) (by omega))
     have hq:Hid (Af ((d.kpN f κ i).add k) f=.int .i64 (d.num f:Int)):=by show _=_; unfold Af; rw [Drw.add_num _ _ M.out.1,M.out.2]
     unfold Xj
     dsimp only
     rw [hq.out] at E
     unfold Af at E ⊢
     obtain⟨q,a4⟩:∃q,q=((d.kpN f κ i).add k).num k:=⟨_,rfl⟩
     rw [←a4] at E ⊢
     have ak:(0:Int)≤(q:Int):=by omega
     clear C Z y a4
     go_wp2_with fail
     refine Calls.ret E.out ?_
     rintro v w3 ⟨rfl,a6,G⟩
     have a9:Hid (DrM w0 w3 gd gm vS vA a6 (d.kpN f κ (i+1)) (n+2*(i+1)) ls):=by
      show DrM _ _ _ _ _ _ _ _ _ _
      rw [hs.out,I.out]
      exact DrM.big G (by omega)
     clear G E
     go_wp2_with fail
     exact⟨⟨i+1,a6,by go_num,by omega,a9⟩,by simp [intOf]; omega⟩
   ·obtain rfl:L=i:=by omega
    go_wp2_with fail
    exact bodyPost_ret (v:=.tuple #[]) (by simp [results,Tryz.results145,go_sem]) rfl ⟨rfl,x,W.out.big (by omega)⟩
end Go.Proofs.YtfcfpoemojjglaaGreatDoor
namespace Go.Proofs.YtfcfpoemojjglaaGreatDoor
open Go.RowKit
open K (Az Fc AW)
set_option maxHeartbeats 16000000
set_option maxRecDepth 100000
theorem Xo {w0 w:World} {pc:Array Value} {A:Option Addr} {m c:Nat} {ls:Lst} (F:Below w0.heap.size w0 w) (hp:pc[2]?=some (.slice A m c)) (hm:m≤60) (U:∀x∈ls,Blk w x.1 x.2.1 x.2.2):
  Calls Tryz.prog 142 #[.agg pc] w (Ret fun v w'=>∃gd gm,v=.pointer (some ⟨gd,0,none⟩)∧DrM w0 w' gd gm (.slice none 0 0) (.slice none 0 0) (.slice none 0 0) ⟨m,[],[],[],[]⟩ 0 ls∧Below w.heap.size w w'):=by
 obtain⟨y,ab,G,W,-⟩:=Ae w pc 27
 have a6:=W.cell 2
 rw [hp] at a6
 obtain⟨C,V⟩:∃C,y.alloc (.map #[] 0)=C:=⟨_,rfl⟩
 have E:Bw C y.heap.size []:=V ▸ Bw.made y
 have M:Below y.heap.size y C:=V ▸ (Below.refl _ y).alloc (Nat.le_refl _) _
 obtain⟨w3,ac,O,Z,-⟩:=Ae C #[.int .i64 (m:Int),.int .i64 0,.slice none 0 0,.slice none 0 0,.slice none 0 0,.map (some y.heap.size)] 160
 have I:=G.trans (M.mono G.size)
 have J:=I.trans (O.mono I.size)
 have hD:Hid (DrM w0 w3 C.heap.size y.heap.size (.slice none 0 0) (.slice none 0 0) (.slice none 0 0) ⟨m,[],[],[],[]⟩ 0 ls):=by
  refine⟨F.trans (J.mono F.size),Z,E.keep (O.block _ E.lt),World.ownsRow_nil _ _ _ _,World.ownsRow_nil _ _ _ _,World.ownsRow_nil _ _ _ _,⟨List.nodup_nil,fun _ h=>(by cases h),fun _ h=>(by cases h),fun _ h=>(by cases h)⟩,by simp [Drw.size],fun g e=>(by cases e),fun x hx=>⟨(U x hx).below J,?_,by simp [Value.ownBlock],by simp [Value.ownBlock],by simp [Value.ownBlock]⟩,?_⟩
  ·have:=(U x hx).lt
   have:=I.size
   omega
  ·have:=F.size
   have:=G.size
   have:=M.size
   omega
 have a5:=hide J
 have aa:=E.lt
 have a9:(Instr.makeMap 158 none).run Tryz.prog y=.ok (.map (some y.heap.size)) C:=V ▸ run_makeMap 158 y
 clear hp E G W M O Z I J U F
 go_enter Tryz.func142,Tryz.ntmps142
 go_wp2_with fail
 go_ret
 exact⟨_,_,rfl,hD.out,a5.out⟩
theorem Zt {w0 w:World} {gd gm n L:Nat} {vS vA vM:Value} {d:Drw} {ls:Lst} {s:Nme} (h:DrM w0 w gd gm vS vA vM d n ls) (V:d.L=L) (a9:L≤60) (hs:s∈d.nm) (hn:n≤700000):
  Calls Tryz.prog 144 #[.pointer (some ⟨gd,0,none⟩),Af d s] w (Ret fun v w'=>v=.tuple #[]∧∃vA' M,DrM w0 w' gd gm vS vA' M (d.free s) (n+121) ls):=by
 have h1:=h.push 3 #[Af d s]
 obtain⟨w1,a4,ab,F,-⟩:=Ae w #[Af d s] 3
 rw [a4] at h1
 have hd:=h1.keep (Ap w1)
 have C:=hd.ac
 obtain⟨AA,cA,rfl⟩:=AH C
 have a3:=h.sz
 have ai:d.ac.length≤700000:=by unfold Drw.size at a3; omega
 have al:=hd.bd.cell
 have ad:=F.cell
 have ag:=hd.below.size
 have G:=hide hd
 have J:=hide hs
 have aa:=hide V
 have ap:=F.lt
 clear h h1 ab F hs hd a3 V
 have hq:Hid (Af d s=.int .i64 (d.num s:Int)):=rfl
 rw [hq.out] at a4 ad
 unfold Af
 go_enter Tryz.func144,Tryz.ntmps144
 go_wp2_with fail
 refine Reg.cC [0,0,2,6,14,30,0,64,254,511,1023,2047,4095] [0,1,2,3,4,5,6,7,8,9,10,11,12] ?_ (by kernel_rfl) (by repeat (first | refine Reg.NoQ.then ?_ | refine Reg.NoQ.inBlock ?_ | exact Reg.NoQ.body (fun _ _ h=>h) (fun _ h=>h)))
 refine Reg.rest_walk' [0,1,2,3,4,5,6,7] [8,9,10,11,12] rfl (by kernel_rfl) ?_
 intro Qf y
 go_wp2_with fail
 first | refine y _ _ ?_ | skip
 try clear y
 refine Reg.rest_act' 8 [9,10,11,12] [] rfl (by kernel_rfl) ?_
 intro Qf y
 try simp only [gT,gS,gZ]
 try simp only [gT,gS,gZ]
 refine BP (w:=w1.drew) C9 rfl _ _ rfl w0.heap.size (.slice AA d.ac.length cA) d.ac.length _ rfl C [.int .i64 (d.num s:Int)] 1 rfl rfl (by simp [Value.oneCell']) (by omega) ag ?_
 intro g cap w2 Z I W an
 have E:=G.out.bd.kept I (Aw C G.out.bd (by decide))
 have aj:=E.cell
 have am:=E.frozen 3
 have ao:=E.lt
 have O:=hide (G.out.addA J.out I Z W)
 have ak:=(O.out.blk List.mem_cons_self).cell
 clear Z I W E C
 first | refine y _ _ ⟨Reg.nm,?_⟩ | refine⟨Reg.nm,?_⟩
 try clear y
 refine Reg.rest_walk' [9,10,11] [12] rfl (by kernel_rfl) ?_
 intro Qf y
 go_wp2_with fail
 first | refine y _ _ ?_ | skip
 try clear y
 refine Reg.rest_act' 12 [] [] rfl (by kernel_rfl) ?_
 intro Qf y
 try simp only [gT,gS,gZ]
 go_wp2_with fail
 first | refine y _ _ ⟨Reg.nm,?_⟩ | refine⟨Reg.nm,?_⟩
 try clear y
 first | refine Reg.rest_end ?_ | skip
 go_wp2_with fail
 refine Calls.ret (XK (d:=d.acc s) (n:=n+1) (caps:=[.pointer (some ⟨w.heap.size,0,none⟩)]) (L:=L) (κ:=fun _=>some s) (S:=[(s,d.num s)]) (f:=s) O.out aa.out a9 J.out (fun p hp=>by rw [List.mem_singleton.1 hp]; exact⟨J.out,rfl⟩) (Xk (.inl rfl) List.mem_cons_self) (.inl ⟨_,rfl,.inl rfl⟩) (by omega)) ?_
 rintro v w3 ⟨rfl,M,U⟩
 have a8:=hide (U.sub (ls':=ls) fun x hx=>List.mem_cons_of_mem _ hx)
 clear U
 go_wp2_with fail
 exact bodyPost_ret (v:=.tuple #[]) (by simp [results,Tryz.results144,go_sem]) rfl ⟨rfl,_,M,a8.out.big (by omega)⟩
end Go.Proofs.YtfcfpoemojjglaaGreatDoor
namespace Go.Proofs.YtfcfpoemojjglaaGreatDoor
open Go.RowKit
set_option maxHeartbeats 16000000
set_option maxRecDepth 100000
inductive Ww:Nat→Prop
 | mk (n:Nat):Ww n
inductive WX:Nat→Prop
 | mk (n:Nat):WX n
theorem XY {w:World} {base e size n:Nat} {v:Value} {xs:List Value} (h:w.ownsRow base e size v n xs):∀A m c,v=.slice A m c→m≤c:=by
 rintro A m c rfl
 rcases h.2 with⟨x,h0⟩ | ⟨g,cap,C,x,-,-,E,-⟩
 ·injection x with _ h1 y
  omega
 ·injection x with _ h1 y
  omega
theorem Z1 {w:World} {base e:Nat} (u:Value) (h:base≤w.heap.size):(w.alloc (.cells #[u] e)).ownsRow base e 1 (.slice (some ⟨w.heap.size,0,none⟩) 1 1) 1 [u]:=
 ⟨rfl,.inr ⟨w.heap.size,1,#[u],rfl,h,heap_alloc_new w _,Nat.le_refl _,by unfold maxLen; omega,rfl,rfl⟩⟩
section
variable {d:Drw} {S:List (Nme×Nat)}
theorem Drw.Has.num (h:d.Has S) {k:Nme} {e:Nat} (hk:(k,e)∈S):Af d k=.int .i64 (e:Int):=by
 unfold Af
 rw [(h _ hk).2]
theorem Drw.Has.add (h:d.Has S) (k:Nme):(d.add k).Has S:=fun p x=>⟨Drw.mem_add.2 (.inl (h p x).1),(Drw.add_num d k (h p x).1).trans (h p x).2⟩
theorem Drw.Has.kp (h:d.Has S) (f:Nme) (κ:Nat→Option Nme):(d.kp f κ).Has S:=h.kpN f κ d.L
end
section
variable {d:Drw} {k f:Nme} {κ:Nat→Option Nme}
theorem Drw.mov_L {a b:Nme} {i o:Int}:(d.mov a i o b).L=d.L:=rfl
theorem Drw.acc_L:(d.acc k).L=d.L:=rfl
theorem Drw.beg_L:(d.beg k).L=d.L:=rfl
theorem Drw.free_L:(d.free k).L=d.L:=Drw.kp_L
end
def DrS (w0 wr:World) (gd gm:Nat) (d:Drw) (n:Nat) (ls:Lst) (S:List (Nme×Nat)):Prop:=∃vS vA vM,DrM w0 wr gd gm vS vA vM d n ls∧d.Has S
section
variable {w0 wr w':World} {gd gm n L:Nat} {d:Drw} {ls ls':Lst} {S S':List (Nme×Nat)}
theorem DrS.keep (h:DrS w0 wr gd gm d n ls S) (x:Below wr.heap.size wr w'):DrS w0 w' gd gm d n ls S:=by
 obtain⟨vS,vA,vM,h,hS⟩:=h
 exact⟨vS,vA,vM,h.keep x,hS⟩
theorem DrS.big (h:DrS w0 wr gd gm d n ls S) {m:Nat} (x:n≤m):DrS w0 wr gd gm d m ls S:=by
 obtain⟨vS,vA,vM,h,hS⟩:=h
 exact⟨vS,vA,vM,h.big x,hS⟩
theorem DrS.push (h:DrS w0 wr gd gm d n ls S) (t:TypeId) (cs:Array Value):DrS w0 (wr.alloc (.cells cs t)) gd gm d n ((wr.heap.size,t,cs)::ls) S:=by
 obtain⟨vS,vA,vM,h,hS⟩:=h
 exact⟨vS,vA,vM,h.push t cs,hS⟩
theorem DrS.sub (h:DrS w0 wr gd gm d n ls S) (E:∀x∈ls',x∈ls) (y:∀x∈S',x∈S):DrS w0 wr gd gm d n ls' S':=by
 obtain⟨vS,vA,vM,h,hS⟩:=h
 exact⟨vS,vA,vM,h.sub E,fun p C=>hS p (y p C)⟩
theorem DrS.blk (h:DrS w0 wr gd gm d n ls S) {g:Nat} {t:TypeId} {cs:Array Value} (x:(g,t,cs)∈ls):Blk wr g t cs:=by
 obtain⟨vS,vA,vM,h,hS⟩:=h
 exact h.blk x
theorem DrS.below (h:DrS w0 wr gd gm d n ls S):Below w0.heap.size w0 wr:=by
 obtain⟨vS,vA,vM,h,hS⟩:=h
 exact h.below
theorem DrS.state {m c:Nat} (k:Nme) (h:DrS w0 wr gd gm d n ls S) (E:W1 k m) (F:n≤1000000) {cs:Array Value} (C:cs=(nmC k m).toArray):
  Calls Tryz.prog 143 #[.pointer (some ⟨gd,0,none⟩),.slice (some ⟨wr.heap.size,0,none⟩) m c] (wr.alloc (.cells cs 3)) (Ret fun v w'=>∃e:Nat,v=.int .i64 (e:Int)∧DrS w0 w' gd gm (d.add k) (n+1) ls ((k,e)::S)):=by
 obtain⟨vS,vA,vM,h,hS⟩:=h
 refine Calls.ret (WR (c:=c) k h E F C) ?_
 rintro v G ⟨rfl,y⟩
 refine⟨(d.add k).num k,rfl,vS,vA,vM,y,fun p x=>?_⟩
 rcases List.mem_cons.1 x with rfl | x
 ·exact⟨Drw.add_mem d k,rfl⟩
 ·exact hS.add k p x
theorem DrS.state' {y m c:Nat} {cs:Array Value} (k:Nme) (h:DrS w0 wr gd gm d n ls S) (I:(y,3,cs)∈ls) (F:W1 k m) (G:n≤1000000) (E:cs=(nmC k m).toArray):
  Calls Tryz.prog 143 #[.pointer (some ⟨gd,0,none⟩),.slice (some ⟨y,0,none⟩) m c] wr (Ret fun v w'=>∃e:Nat,v=.int .i64 (e:Int)∧DrS w0 w' gd gm (d.add k) (n+1) ls ((k,e)::S)):=by
 obtain⟨vS,vA,vM,h,hS⟩:=h
 subst E
 refine Calls.ret (Yf (c:=c) h (h.blk I) F G) ?_
 rintro v J ⟨rfl,C⟩
 refine⟨(d.add k).num k,rfl,vS,vA,vM,C,fun p x=>?_⟩
 rcases List.mem_cons.1 x with rfl | x
 ·exact⟨Drw.add_mem d k,rfl⟩
 ·exact hS.add k p x
theorem DrS.pushE (h:DrS w0 wr gd gm d n ls S) (t:TypeId) (cs:Array Value):∃wn,wr.alloc (.cells cs t)=wn∧Hid (DrS w0 wn gd gm d n ((wr.heap.size,t,cs)::ls) S)∧wr.heap.size<wn.heap.size:=
 ⟨_,rfl,h.push t cs,by simp⟩
theorem DrS.setB {g i:Nat} {t:TypeId} {cs:Array Value} (h:DrS w0 wr gd gm d n ls S) (U:(g,t,cs)∈ls) (v:Value) (J:∀x∈ls',x∈ls∧x.1≠g) (W:w0.heap.size≤g):DrS w0 (wr.setCell ⟨g,i,none⟩ v) gd gm d n ((g,t,cs.setIfInBounds i v)::ls') S:=by
 obtain⟨vS,vA,vM,h,hS⟩:=h
 obtain⟨F,h1,y,C,E⟩:=h.oth _ U
 dsimp only at F h1 y C E
 have hk:=(Ac.refl wr (fun k=>k=g)).setCell (p:=⟨g,i,none⟩) (fun _=>rfl) v
 have ho:∀{e sz m:Nat} {u:Value} {xs:List Value},u.ownBlock≠some g→wr.ownsRow w0.heap.size e sz u m xs→(wr.setCell ⟨g,i,none⟩ v).ownsRow w0.heap.size e sz u m xs:=fun O M=>hk.ownsRow M fun V I e=>O (by rw [I,e])
 refine⟨vS,vA,vM,⟨h.below.trans (hk.below h.below.size fun b hb (e:b=g)=>by omega),h.bd.kept hk (fun e=>h1 e.symm),h.map.kept hk (fun e=>BT F h.map e.symm),ho y h.st,ho C h.ac,ho E h.mv,h.ok,h.sz,h.sep,fun x G=>?_,h.ge⟩,hS⟩
 rcases List.mem_cons.1 G with rfl | G
 ·exact⟨F.set_ i v,h1,y,C,E⟩
 ·have:=J x G
  exact⟨(h.oth x this.1).1.kept hk this.2,(h.oth x this.1).2⟩
theorem DrS.move {a b:Nme} {ea eb:Nat} {i o:Int} (h:DrS w0 wr gd gm d n ls S) (x:(a,ea)∈S) (y:(b,eb)∈S) (F:n≤1000000):
  Calls Tryz.prog 147 #[.pointer (some ⟨gd,0,none⟩),.int .i64 (ea:Int),.int .i64 i,.int .i64 o,.int .i64 (eb:Int)] wr (Ret fun v w'=>v=.tuple #[]∧DrS w0 w' gd gm (d.mov a i o b) (n+1) ls S):=by
 obtain⟨vS,vA,vM,h,hS⟩:=h
 have C:=XR (i:=i) (o:=o) h (hS _ x).1 (hS _ y).1 F
 rw [hS.num x,hS.num y] at C
 refine Calls.ret C ?_
 rintro v J ⟨rfl,I,E⟩
 exact⟨rfl,vS,vA,I,E,fun p G=>hS p G⟩
theorem DrS.keep_ {F ef:Nat} {caps:List Value} {κ:Nat→Option Nme} {f:Nme} {S0:List (Nme×Nat)} (h:DrS w0 wr gd gm d n ls S) (I:d.L=L) (J:L≤60) (y:(f,ef)∈S) (M:∀p∈S0,p∈S) (C:∀vS vA,Wq w0 gd gm vS vA ls L F caps κ S0) (G:Xr F caps) (O:n≤800000):
  Calls Tryz.prog 145 #[.pointer (some ⟨gd,0,none⟩),.int .i64 (ef:Int),.func (.func F) #[] caps.toArray] wr (Ret fun v w'=>v=.tuple #[]∧DrS w0 w' gd gm (d.kp f κ) (n+120) ls S):=by
 obtain⟨vS,vA,vM,h,hS⟩:=h
 have x:=XK h I J (hS _ y).1 (fun p U=>hS p (M p U)) (C vS vA) G O
 rw [hS.num y] at x
 refine Calls.ret x ?_
 rintro v W ⟨rfl,V,E⟩
 exact⟨rfl,vS,vA,V,E,hS.kp f κ⟩
theorem DrS.free {s:Nme} {es:Nat} (h:DrS w0 wr gd gm d n ls S) (E:d.L=L) (F:L≤60) (y:(s,es)∈S) (G:n≤700000):
  Calls Tryz.prog 144 #[.pointer (some ⟨gd,0,none⟩),.int .i64 (es:Int)] wr (Ret fun v w'=>v=.tuple #[]∧DrS w0 w' gd gm (d.free s) (n+121) ls S):=by
 obtain⟨vS,vA,vM,h,hS⟩:=h
 have x:=Zt h E F (hS _ y).1 G
 rw [hS.num y] at x
 refine Calls.ret x ?_
 rintro v M ⟨rfl,vA',J,C⟩
 exact⟨rfl,vS,vA',J,C,Drw.Has.kp (d:=d.acc s) (fun p I=>hS p I) s _⟩
theorem DrS.begin {a:Nme} {e:Nat} (h:DrS w0 wr gd gm d n ls S) (h0:d.st=[]) (x:(a,e)∈S):
  (∃cs,Blk (wr.alloc (.cells #[.int .i64 (e:Int)] 3)) gd 160 cs∧2<cs.size)∧DrS w0 ((wr.alloc (.cells #[.int .i64 (e:Int)] 3)).setCell ⟨gd,2,none⟩ (.slice (some ⟨wr.heap.size,0,none⟩) 1 1)) gd gm (d.beg a) (n+1) ls S:=by
 obtain⟨vS,vA,vM,h,hS⟩:=h
 refine⟨⟨_,h.bd.below ((Below.refl _ wr).alloc (Nat.le_refl _) _),by simp⟩,_,vA,vM,h.addS (hS _ x).1 ((Ac.refl wr _).alloc _) ?_ (.inr ⟨_,rfl,Nat.le_refl _⟩),fun p y=>hS p y⟩
 rw [h0,hS.num x]
 exact Z1 _ h.below.size
theorem DrS.app {a:Nme} {e:Nat} (h:DrS w0 wr gd gm d n ls S) (C:(a,e)∈S) (J:n≤1000000):∃A m c,(∃vS vM,Blk wr gd 160 #[.int .i64 (d.L:Int),.int .i64 (d.nm.length:Int),vS,.slice A m c,vM,.map (some gm)])∧m≤1000000∧∃xs,wr.ownsRow w0.heap.size 3 1 (.slice A m c) m xs∧
  ∀g cap y,y.ownsRow w0.heap.size 3 1 (.slice (some ⟨g,0,none⟩) (m+1) cap) (m+1) (xs++[.int .i64 (e:Int)])→Ac wr y (fun k=>(Value.slice A m c).ownBlock=some k)→BJ wr (.slice A m c) (.slice (some ⟨g,0,none⟩) (m+1) cap)→
   (∃vS vM,Blk y gd 160 #[.int .i64 (d.L:Int),.int .i64 (d.nm.length:Int),vS,.slice A m c,vM,.map (some gm)])∧(∀x∈ls,Blk y x.1 x.2.1 x.2.2)∧DrS w0 (y.setCell ⟨gd,3,none⟩ (.slice (some ⟨g,0,none⟩) (m+1) cap)) gd gm (d.acc a) (n+1) ls S:=by
 obtain⟨vS,vA,vM,h,hS⟩:=h
 obtain⟨A,c,rfl⟩:=AH h.ac
 have I:=h.sz
 refine⟨A,d.ac.length,c,⟨vS,vM,h.bd⟩,by unfold Drw.size at I; omega,_,h.ac,fun g cap y ho hk F=>⟨⟨vS,vM,h.bd.kept hk (Aw h.ac h.bd (by decide))⟩,fun x E=>(h.oth x E).1.kept hk (h.oth x E).2.2.2.1,vS,_,vM,h.addA (hS _ C).1 hk (by rw [hS.num C]; exact ho) F,fun p G=>hS p G⟩⟩
theorem DrS.appS {a:Nme} {e:Nat} (h:DrS w0 wr gd gm d n ls S) (y:(a,e)∈S) (G:n≤1000000):∃A m c,(∃vA vM,Blk wr gd 160 #[.int .i64 (d.L:Int),.int .i64 (d.nm.length:Int),.slice A m c,vA,vM,.map (some gm)])∧m≤1000000∧∃xs,wr.ownsRow w0.heap.size 3 1 (.slice A m c) m xs∧
  ∀g cap x,x.ownsRow w0.heap.size 3 1 (.slice (some ⟨g,0,none⟩) (m+1) cap) (m+1) (xs++[.int .i64 (e:Int)])→Ac wr x (fun k=>(Value.slice A m c).ownBlock=some k)→BJ wr (.slice A m c) (.slice (some ⟨g,0,none⟩) (m+1) cap)→
   (∃vA vM,Blk x gd 160 #[.int .i64 (d.L:Int),.int .i64 (d.nm.length:Int),.slice A m c,vA,vM,.map (some gm)])∧DrS w0 (x.setCell ⟨gd,2,none⟩ (.slice (some ⟨g,0,none⟩) (m+1) cap)) gd gm (d.beg a) (n+1) ls S:=by
 obtain⟨vS,vA,vM,h,hS⟩:=h
 obtain⟨A,c,rfl⟩:=AH h.st
 have F:=h.sz
 refine⟨A,d.st.length,c,⟨vA,vM,h.bd⟩,by unfold Drw.size at F; omega,_,h.st,fun g cap x ho hk C=>⟨⟨vA,vM,h.bd.kept hk (Aw h.st h.bd (by decide))⟩,_,vA,vM,h.addS (hS _ y).1 hk (by rw [hS.num y]; exact ho) C,fun p E=>hS p E⟩⟩
theorem DrS.fin (h:DrS w0 wr gd gm d n ls S) (x:n≤1000000):∃vS vA vM,Blk wr gd 160 #[.int .i64 (d.L:Int),.int .i64 (d.nm.length:Int),vS,vA,vM,.map (some gm)]∧Wi wr wr.heap.size (.agg #[.int .i64 (d.L:Int),.int .i64 (d.nm.length:Int),vS,vA,vM]) d.tr:=by
 obtain⟨vS,vA,vM,h,hS⟩:=h
 exact⟨vS,vA,vM,h.bd,h.tr (by omega) (XY h.st)⟩
end
end Go.Proofs.YtfcfpoemojjglaaGreatDoor
namespace Go.Proofs.YtfcfpoemojjglaaGreatDoor
open Go.RowKit
open K (Ah)
attribute [-go_sem] loadCellsFrom
set_option maxHeartbeats 16000000
set_option maxRecDepth 100000
theorem Z6 {w:World} {pc rc:Array Value} {A:Option Addr} {L c:Nat} {topo fr t pf pt dir:Int} (ay:pc.size=10) (aw:pc[1]?=some (.int .i64 topo)) (ax:pc[2]?=some (.slice A L c)) (hL:L≤60)
  (aA:rc[2]?=some (.int .i64 fr)) (aB:rc[3]?=some (.int .i64 t)) (aC:rc[4]?=some (.int .i64 pf)) (aD:rc[5]?=some (.int .i64 pt)) (az:rc[17]?=some (.int .i64 dir)):
  Calls Tryz.prog 103 #[.agg pc,.agg rc] w (Ret fun v w'=>∃gd gm n,v=.pointer (some ⟨gd,0,none⟩)∧n≤10000∧DrS w w' gd gm (if dir=2 then Hg L topo pf pt fr t else Hg L topo fr t pf pt) n [] []):=by
 obtain⟨w1,bW,M,ak,-⟩:=Ae w pc 27
 obtain⟨w2,bX,O,E,-⟩:=Ae w1 rc 99
 have aq:=(M.trans (O.mono M.size)).trans ((Ap w2).mono (M.trans (O.mono M.size)).size)
 have a6:=ak.below (O.trans ((Ap w2).mono O.size))
 have a7:=E.below (Ap w2)
 have bq:=Ah a6 ay
 have I:=a7.cell
 have bz:=(I 2).trans aA
 have bA:=(I 3).trans aB
 have bB:=(I 4).trans aC
 have bC:=(I 5).trans aD
 have bx:=(I 17).trans az
 have bw:=hide aw
 have aF:=hide (Xo (w0:=w) (ls:=[(w.heap.size,27,pc),(w1.heap.size,99,rc)]) aq ax hL (fun x hx=>by
  simp only [List.mem_cons,List.not_mem_nil,or_false] at hx
  rcases hx with rfl | rfl
  ·exact a6
  ·exact a7))
 clear I M O ak E aq a6 a7 aA aB aC aD az aw ax ay
 obtain⟨a,b,x,y,hT⟩:∃a b x y,Hid ((if dir=2 then Hg L topo pf pt fr t else Hg L topo fr t pf pt)=Hg L topo a b x y)∧Hid ((dir=2∧a=pf∧b=pt∧x=fr∧y=t)∨(dir≠2∧a=fr∧b=t∧x=pf∧y=pt)):=by
  by_cases h:dir=2
  ·exact⟨pf,pt,fr,t,if_pos h,.inl ⟨h,rfl,rfl,rfl,rfl⟩⟩
  ·exact⟨fr,t,pf,pt,if_neg h,.inr ⟨h,rfl,rfl,rfl,rfl⟩⟩
 rw [hT.1.out]
 rcases hT.2.out with⟨bk,rfl,rfl,rfl,rfl⟩ | ⟨bk,rfl,rfl,rfl,rfl⟩
 all_goals
  clear hT
  have bR:(dir==2)=decide (dir=2):=rfl
  go_enter Tryz.func103,Tryz.ntmps103
  go_wp2_with fail
  refine Reg.cP [0,1,0,4,0,16,0,64,3,271,831,2047] ?_
  go_wp2_with fail
  refine Calls.ret aF.out ?_
  rintro v w3 ⟨gd,gm,rfl,hM,b7⟩
  have D0:=hide (show DrS w w3 gd gm ⟨L,[],[],[],[]⟩ 0 _ [] from⟨_,_,_,hM,fun p hp=>by cases hp⟩)
  clear hM aF bq b7 bz bA bB bC bx
  go_wp2_with fail
  refine Calls.ret (D0.out.state (0,0,0) (m:=1) (.inl ⟨rfl,rfl,rfl⟩) (by omega) rfl) ?_
  rintro v w4 ⟨G,rfl,C⟩
  have D1:=hide C
  clear C
  go_wp2_with fail
  refine Calls.ret (D1.out.state (8,0,0) (m:=1) (.inl ⟨rfl,rfl,rfl⟩) (by omega) rfl) ?_
  rintro v w5 ⟨e2,rfl,C⟩
  have D2:=hide C
  clear C
  go_wp2_with fail
  refine Calls.ret (D2.out.state (5,0,0) (m:=1) (.inl ⟨rfl,rfl,rfl⟩) (by omega) rfl) ?_
  rintro v w6 ⟨e3,rfl,C⟩
  have D3:=hide C
  clear C
  have C:=D3.out.push 3 #[.int .i64 (G:Int)]
  obtain⟨w7,bH,b8,am,-⟩:=Ae w6 #[.int .i64 (G:Int)] 3
  rw [bH] at C
  have D4:=hide C
  have bf:=am.cell
  clear C b8 am
  obtain⟨⟨b5,J,aE⟩,C⟩:=D4.out.begin (a:=(0,0,0)) (e:=G) (by simp only [Drw.add_st]) (by simp)
  obtain⟨w8,bI,-,-,-⟩:=Ae w7 #[.int .i64 (G:Int)] 3
  rw [bI] at J C
  have D5:=hide C
  have ar:=J.cell
  have bm:=J.frozen 2
  have bp:=J.lt
  obtain⟨u8,aG⟩:∃u,b5[2]?=some u:=⟨_,Array.getElem?_eq_getElem aE⟩
  have bg:=(ar 2).trans aG
  clear C J ar aG aE
  go_wp2_with fail
  refine Calls.ret (D5.out.free (L:=L) (s:=(5,0,0)) (es:=e3) (by simp only [Drw.add_L,Drw.kp_L,Drw.mov_L,Drw.acc_L,Drw.beg_L,Drw.free_L]) hL (by simp) (by omega)) ?_
  rintro v w9 ⟨rfl,C⟩
  have D6:=hide C
  clear C
  have bh:=(D6.out.blk (g:=w6.heap.size) (t:=3) (cs:=#[.int .i64 (G:Int)]) (by simp)).cell
  clear bf bm bp bg
  go_wp2_with fail
  refine Calls.ret (D6.out.keep_ (L:=L) (F:=146) (caps:=[.pointer (some ⟨w6.heap.size,0,none⟩)]) (κ:=fun _=>some (0,0,0)) (f:=(0,0,0)) (ef:=G) (S0:=[((0,0,0),G)]) (by simp only [Drw.add_L,Drw.kp_L,Drw.mov_L,Drw.acc_L,Drw.beg_L,Drw.free_L]) hL (by simp) (by simp) (fun _ _=>Xk (.inr (.inl rfl)) (by simp)) (.inl ⟨_,rfl,.inr (.inl rfl)⟩) (by omega)) ?_
  rintro v c0 ⟨rfl,C⟩
  have D7:=hide C
  clear C
  have b9:=(D7.out.blk (g:=w6.heap.size) (t:=3) (cs:=#[.int .i64 (G:Int)]) (by simp)).cell
  clear bh
  go_wp2_with fail
  refine Calls.ret (D7.out.move (a:=(0,0,0)) (b:=(8,0,0)) (ea:=G) (eb:=e2) (by simp) (by simp) (by omega)) ?_
  rintro v c4 ⟨rfl,C⟩
  have D8:=hide C
  clear C
  clear b9
  go_wp2_with fail
  refine Calls.ret (D8.out.move (a:=(8,0,0)) (b:=(5,0,0)) (ea:=e2) (eb:=e3) (by simp) (by simp) (by omega)) ?_
  rintro v c5 ⟨rfl,C⟩
  have D9:=hide C
  clear C
  have ba:=((D9.out.blk (g:=w.heap.size) (t:=27) (cs:=pc) (by simp)).cell 1).trans bw.out
  by_cases W:topo=3
  case neg=>
   have hP:Hid (Hg L topo a b x y=Wg L a b x y):=if_neg W
   have bF:(topo==3)=false:=by simp [W]
   go_wp2_with fail
   go_ret
   refine⟨gd,gm,500,rfl,by decide,?_⟩
   rw [hP.out]
   exact(D9.out.big (by omega)).sub (fun _ h=>by cases h) (fun _ h=>by cases h)
  have hP:Hid (Hg L topo a b x y=WP (Wg L a b x y) a b x y):=if_pos W
  have bF:(topo==3)=true:=by simp [W]
  clear W
  go_wp2_with fail
  refine Calls.ret (D9.out.state (0,1,0) (m:=2) (.inr (.inl ⟨rfl,rfl⟩)) (by omega) rfl) ?_
  rintro v c6 ⟨e4,rfl,C⟩
  have E1:=hide C
  clear C
  clear ba
  go_wp2_with fail
  refine Calls.ret (E1.out.state (7,0,0) (m:=1) (.inl ⟨rfl,rfl,rfl⟩) (by omega) rfl) ?_
  rintro v c7 ⟨e5,rfl,C⟩
  have E2:=hide C
  clear C
  go_wp2_with fail
  refine Calls.ret (E2.out.state (6,0,0) (m:=1) (.inl ⟨rfl,rfl,rfl⟩) (by omega) rfl) ?_
  rintro v Z ⟨e6,rfl,C⟩
  have E3:=hide C
  clear C
  have C:=E3.out.push 3 #[.int .i64 (e5:Int)]
  obtain⟨c8,bG,b6,al,-⟩:=Ae Z #[.int .i64 (e5:Int)] 3
  rw [bG] at C
  have E4:=hide C
  have bb:=al.cell
  clear C b6 al
  obtain⟨AS,mS,cS,⟨vA,vM,ao⟩,bV,xs,bu,av⟩:=E4.out.appS (a:=(0,1,0)) (e:=e4) (by simp) (by omega)
  have bi:=ao.cell
  have bs:=hide av
  have bE:=E4.out.below.size
  clear av ao
  go_wp2_with (at_builtin; refine BP C9 rfl _ _ rfl w.heap.size (.slice AS mS cS) mS _ rfl bu [.int .i64 (e4:Int)] 1 rfl rfl (by simp [Value.oneCell']) (by omega) bE ?_; intro g cap bL V hk U hg; obtain⟨⟨bJ,bK,E⟩,C⟩:=bs.out g cap bL V hk U; have E5:=hide C; have bj:=(E5.out.blk (g:=Z.heap.size) (t:=3) (cs:=#[.int .i64 (e5:Int)]) (by simp)).cell; have bl:=E.frozen 2; have bo:=E.lt; have bc:=E.cell; clear C E V hk U)
  refine Calls.ret (E5.out.move (a:=(0,1,0)) (b:=(7,0,0)) (ea:=e4) (eb:=e5) (by simp) (by simp) (by omega)) ?_
  rintro v c9 ⟨rfl,C⟩
  have E6:=hide C
  clear C
  have bd:=(E6.out.blk (g:=Z.heap.size) (t:=3) (cs:=#[.int .i64 (e5:Int)]) (by simp)).cell
  clear bj bl bo bc bi bb
  go_wp2_with fail
  refine Calls.ret (E6.out.keep_ (L:=L) (F:=148) (caps:=[.pointer (some ⟨Z.heap.size,0,none⟩)]) (κ:=fun _=>some (7,0,0)) (f:=(7,0,0)) (ef:=e5) (S0:=[((7,0,0),e5)]) (by simp only [Drw.add_L,Drw.kp_L,Drw.mov_L,Drw.acc_L,Drw.beg_L,Drw.free_L]) hL (by simp) (by simp) (fun _ _=>Xk (.inr (.inr rfl)) (by simp)) (.inl ⟨_,rfl,.inr (.inr rfl)⟩) (by omega)) ?_
  rintro v ca ⟨rfl,C⟩
  have E7:=hide C
  clear C
  have be:=(E7.out.blk (g:=Z.heap.size) (t:=3) (cs:=#[.int .i64 (e5:Int)]) (by simp)).cell
  clear bd
  go_wp2_with fail
  refine Calls.ret (E7.out.move (a:=(7,0,0)) (b:=(6,0,0)) (ea:=e5) (eb:=e6) (by simp) (by simp) (by omega)) ?_
  rintro v cb ⟨rfl,C⟩
  have E8:=hide C
  clear C
  obtain⟨AA,mA,cA,⟨bZ,bY,an⟩,bU,ys,bt,au⟩:=E8.out.app (a:=(6,0,0)) (e:=e6) (by simp) (by omega)
  have bQ:=an.cell
  have br:=hide au
  have bD:=E8.out.below.size
  clear au an be
  go_wp2_with (at_builtin; refine BP C9 rfl _ _ rfl w.heap.size (.slice AA mA cA) mA _ rfl bt [.int .i64 (e6:Int)] 1 rfl rfl (by simp [Value.oneCell']) (by omega) bD ?_; intro g2 b4 bM V hk U hg; obtain⟨⟨bJ,bK,E⟩,-,C⟩:=br.out g2 b4 bM V hk U; have E9:=hide C; have bS:=E.frozen 3; have bT:=E.lt; have bP:=E.cell; clear C E V hk U)
  go_ret
  refine⟨gd,gm,500,rfl,by decide,?_⟩
  rw [hP.out]
  exact(E9.out.big (by omega)).sub (fun _ h=>by cases h) (fun _ h=>by cases h)
end Go.Proofs.YtfcfpoemojjglaaGreatDoor
