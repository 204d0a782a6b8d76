/-
  Part SD of a proof.
-/
import Derived.Test.YtfcfpoemojjglaaGreatDoorPA
import Derived.Test.YtfcfpoemojjglaaGreatDoorSC
set_option maxHeartbeats 16000000
set_option maxRecDepth 100000
set_option linter.unusedVariables false
set_option linter.unusedSimpArgs false
namespace Go.Proofs.YtfcfpoemojjglaaGreatDoor
open Go.RowKit
open K (Az Fc AW)
set_option maxHeartbeats 16000000
set_option maxRecDepth 100000
section
variable {w0:World} {gd gm L g3 g5 g9:Nat} {vS vA:Value} {ls:Lst} {rc:Array Value} {left right:List Int} {f t:Int}
theorem Xq (G:MR w0 rc f t left right) (E:(g3,99,rc)∈ls) (I:(g5,161,#[.pointer (some ⟨gd,0,none⟩)])∈ls) (J:(g9,210,#[.func (.func 150) #[] #[.pointer (some ⟨g5,0,none⟩),.pointer (some ⟨g3,0,none⟩)]])∈ls):
  Wj w0 gd gm vS vA ls L 152 [.pointer (some ⟨g3,0,none⟩),.pointer (some ⟨g9,0,none⟩)] (Sa left right) []:=by
 intro wr vM d n x hx hn h hS
 have U:=hide (WY G E I wr vM d n x hx hn h hS)
 obtain⟨A,c,W,M⟩:=G.right
 have O:=(h.blk E).cell 15
 rw [W] at O
 have a7:=(h.blk J).cell
 have z:=Qc (c:=c) (x:=(x:Int)) (M.keep (w':=wr) (fun p hp=>h.below.cell hp) (Nat.le_refl _))
 have a3:=hide (h.big (m:=n+1) (by omega))
 obtain⟨b,F⟩:∃b,alw right (x:Int)=b:=⟨_,rfl⟩
 rw [F] at z
 obtain⟨m,V⟩:∃m,m=right.length:=⟨_,rfl⟩
 rw [←V] at O z
 have C:=hide F
 clear h M W E I J hS F V G
 show Calls _ _ #[_,_,_] _ _
 cases b
 ·have y:Hid (Sa left right x=none):=by show _=_; unfold Sa; rw [C.out]; rfl
  rw [y.out]
  clear y C U
  go_enter Tryz.func152,Tryz.ntmps152
  go_wp2_with (go_at_call 149; refine z.mono ?_; rintro Z w' ⟨rfl,rfl⟩)
  go_ret
  exact⟨rfl,a3.out⟩
 ·have y:Hid (Sa left right x=Wo left x):=by show _=_; unfold Sa; rw [C.out]; rfl
  rw [y.out]
  clear y C
  go_enter Tryz.func152,Tryz.ntmps152
  go_wp2_with (go_at_call 149; refine z.mono ?_; rintro Z w' ⟨rfl,rfl⟩)
  refine Calls.ret (show Calls _ _ #[_,_,_] _ _ from U.out) ?_
  rintro v w2 ⟨rfl,hF⟩
  go_wp2_with fail
  go_ret
  exact⟨Eq.trans rfl rfl,hF⟩
end
def WU (F:Nat) (caps:List Value):Prop:=
 (∃c1,caps=[c1]∧(F=194∨F=146∨F=148))∨(∃c1 c2,caps=[c1,c2]∧(F=156∨F=157∨F=150∨F=152∨F=153∨F=155))∨∃c1 c2 c3,caps=[c1,c2,c3]∧F=154
theorem Drw.kpN_num {d:Drw} {f:Nme} {κ:Nat→Option Nme} {k:Nme} (hk:k∈d.nm):∀n,k∈(d.kpN f κ n).nm∧(d.kpN f κ n).num k=d.num k
 | 0=>⟨hk,rfl⟩
 | n+1=>by
  obtain⟨h1,h⟩:=Drw.kpN_num (f:=f) (κ:=κ) hk n
  rw [Drw.kpN_succ]
  unfold Drw.kp1
  split
  ·exact⟨h1,h⟩
  ·exact⟨Drw.mem_add.2 (.inl h1),(Drw.add_num _ _ h1).trans h⟩
theorem Drw.Has.kpN {d:Drw} {S:List (Nme×Nat)} (h:d.Has S) (f:Nme) (κ:Nat→Option Nme) (n:Nat):(d.kpN f κ n).Has S:=fun p y=>
 ⟨(Drw.kpN_num (h p y).1 n).1,(Drw.kpN_num (h p y).1 n).2.trans (h p y).2⟩
theorem W2 {w0 w:World} {gd gm n L F:Nat} {vS vA vM:Value} {d:Drw} {ls:Lst} {caps:List Value} {κ:Nat→Option Nme} {S:List (Nme×Nat)} {f:Nme} (h:DrM w0 w gd gm vS vA vM d n ls) (I:d.L=L) (ai:L≤60) (Z:f∈d.nm) (hS:d.Has S)
  (U:Wj w0 gd gm vS vA ls L F caps κ S) (hF:WU F caps) (hn:n≤800000):
  Calls Tryz.prog 145 #[.pointer (some ⟨gd,0,none⟩),AR d f,.func (.func F) #[] caps.toArray] w (Ret fun v w'=>v=.tuple #[]∧∃vM',DrM w0 w' gd gm vS vA vM' (d.kp f κ) (n+120) ls):=by
 have aa:=h.bd.cell
 rw [I] at aa
 have af:Hid (DrM w0 w gd gm vS vA vM (d.kpN f κ 0) (n+2*0) ls):=h
 have a6:=hide U
 have a9:=hide hS
 have ab:=hide Z
 have a2:Hid (d.kp f κ=d.kpN f κ L):=by show _=_; unfold Drw.kp; rw [I]
 rw [a2.out]
 clear h U hS Z I a2
 unfold AR
 rcases hF with⟨O,rfl,rfl | rfl | rfl⟩ | ⟨O,c2,rfl,rfl | rfl | rfl | rfl | rfl | rfl⟩ | ⟨O,c2,c3,rfl,rfl⟩
 all_goals
  go_enter Tryz.func145,Tryz.ntmps145
  go_wp2_with fail
  go_loopw [13] (fun M wr=>∃(i:Nat) (vM':Value),M=.int .i64 (i:Int)∧i≤L∧Hid (DrM w0 wr gd gm vS vA vM' (d.kpN f κ i) (n+2*i) ls)) (fun M _=>L - (intOf M).toNat)
  case atStart=>exact⟨0,_,rfl,Nat.zero_le _,af⟩
  case round=>
   obtain⟨i,vM',rfl,hi,V⟩:=hrel
   by_cases ad:i<L
   ·have y:=hide (a6.out wr vM' (d.kpN f κ i) (n+2*i) i ad (by omega) V.out (a9.out.kpN f κ i))
    have hs:=hide (Drw.kpN_succ d f κ i)
    have J:=hide (Drw.kpN_num (f:=f) (κ:=κ) ab.out i)
    cases hk:κ i with
    | none=>
     have G:Hid ((d.kpN f κ i).kp1 f κ i=d.kpN f κ i):=by show _=_; unfold Drw.kp1; rw [hk]
     rw [hk] at y
     clear hk
     go_wp2_with fail
     refine Calls.ret y.out ?_
     rintro v w2 ⟨rfl,z⟩
     unfold WK
     dsimp only
     have E:Hid (DrM w0 w2 gd gm vS vA vM' (d.kpN f κ (i+1)) (n+2*(i+1)) ls):=by
      show DrM _ _ _ _ _ _ _ _ _ _
      rw [hs.out,G.out]
      exact DrM.big z (by omega)
     clear z y
     go_wp2_with fail
     exact⟨⟨i+1,vM',by go_num,by omega,E⟩,by simp [intOf]; omega⟩
    | some k=>
     have G:Hid ((d.kpN f κ i).kp1 f κ i=((d.kpN f κ i).add k).mov f i i k):=by show _=_; unfold Drw.kp1; rw [hk]
     rw [hk] at y
     clear hk
     go_wp2_with fail
     refine Calls.ret y.out ?_
     rintro v w2 ⟨rfl,W⟩
     have z:DrM w0 w2 gd gm vS vA vM' ((d.kpN f κ i).add k) (n+2*i+1) ls:=W
     have C:=hide (W6 (a:=f) (b:=k) (i:=(i:Int)) (o:=(i:Int)) z (Drw.mem_add.2 (.inl J.out.1)) (Drw.add_mem _ k) (by omega))
     have hq:Hid (AR ((d.kpN f κ i).add k) f=.int .i64 (d.num f:Int)):=by show _=_; unfold AR; rw [Drw.add_num _ _ J.out.1,J.out.2]
     unfold WK
     dsimp only
     rw [hq.out] at C
     unfold AR at C ⊢
     obtain⟨q,a3⟩:∃q,q=((d.kpN f κ i).add k).num k:=⟨_,rfl⟩
     rw [←a3] at C ⊢
     have al:(0:Int)≤(q:Int):=by omega
     clear z W y a3
     go_wp2_with fail
     refine Calls.ret C.out ?_
     rintro v w3 ⟨rfl,a5,E⟩
     have a8:Hid (DrM w0 w3 gd gm vS vA a5 (d.kpN f κ (i+1)) (n+2*(i+1)) ls):=by
      show DrM _ _ _ _ _ _ _ _ _ _
      rw [hs.out,G.out]
      exact DrM.big E (by omega)
     clear E C
     go_wp2_with fail
     exact⟨⟨i+1,a5,by go_num,by omega,a8⟩,by simp [intOf]; omega⟩
   ·obtain rfl:L=i:=by omega
    go_wp2_with fail
    exact bodyPost_ret (v:=.tuple #[]) (by simp [results,Tryz.results145,go_sem]) rfl ⟨rfl,vM',V.out.big (by omega)⟩
end Go.Proofs.YtfcfpoemojjglaaGreatDoor
namespace Go.Proofs.YtfcfpoemojjglaaGreatDoor
open Go.RowKit
open K (Az Fc AW)
set_option maxHeartbeats 16000000
set_option maxRecDepth 100000
theorem WR {w0 w:World} {O:Array Value} {A:Option Addr} {m c:Nat} {ls:Lst} (z:Below w0.heap.size w0 w) (W:O[2]?=some (.slice A m c)) (hm:m≤60) (J:∀x∈ls,Blk w x.1 x.2.1 x.2.2):
  Calls Tryz.prog 142 #[.agg O] w (Ret fun v w'=>∃gd gm,v=.pointer (some ⟨gd,0,none⟩)∧DrM w0 w' gd gm (.slice none 0 0) (.slice none 0 0) (.slice none 0 0) ⟨m,[],[],[],[]⟩ 0 ls∧Below w.heap.size w w'):=by
 obtain⟨w1,a9,C,U,-⟩:=Ae w O 27
 have a4:=U.cell 2
 rw [W] at a4
 obtain⟨w2,M⟩:∃w2,w1.alloc (.map #[] 0)=w2:=⟨_,rfl⟩
 have y:Bw w2 w1.heap.size []:=M ▸ Bw.made w1
 have G:Below w1.heap.size w1 w2:=M ▸ (Below.refl _ w1).alloc (Nat.le_refl _) _
 obtain⟨w3,aa,I,V,-⟩:=Ae w2 #[.int .i64 (m:Int),.int .i64 0,.slice none 0 0,.slice none 0 0,.slice none 0 0,.map (some w1.heap.size)] 160
 have E:=C.trans (G.mono C.size)
 have F:=E.trans (I.mono E.size)
 have hD:Hid (DrM w0 w3 w2.heap.size w1.heap.size (.slice none 0 0) (.slice none 0 0) (.slice none 0 0) ⟨m,[],[],[],[]⟩ 0 ls):=by
  refine⟨z.trans (F.mono z.size),V,y.keep (I.block _ y.lt),World.ownsRow_nil _ _ _ _,World.ownsRow_nil _ _ _ _,World.ownsRow_nil _ _ _ _,⟨List.nodup_nil,fun _ h=>(by cases h),fun _ h=>(by cases h),fun _ h=>(by cases h)⟩,by simp [Drw.size],fun g e=>(by cases e),fun x Z=>⟨(J x Z).below F,?_,by simp [Value.ownBlock],by simp [Value.ownBlock],by simp [Value.ownBlock]⟩,?_⟩
  ·have:=(J x Z).lt
   have:=E.size
   omega
  ·have:=z.size
   have:=C.size
   have:=G.size
   omega
 have a3:=hide F
 have a8:=y.lt
 have a7:(Instr.makeMap 158 none).run Tryz.prog w1=.ok (.map (some w1.heap.size)) w2:=M ▸ run_makeMap 158 w1
 clear W y C U G I V E F J z
 go_enter Tryz.func142,Tryz.ntmps142
 go_wp2_with fail
 go_ret
 exact⟨_,_,rfl,hD.out,a3.out⟩
theorem X0 {w0 w:World} {gd gm n L:Nat} {vS vA vM:Value} {d:Drw} {ls:Lst} {s:Nme} (h:DrM w0 w gd gm vS vA vM d n ls) (O:d.L=L) (a6:L≤60) (W:s∈d.nm) (hn:n≤700000):
  Calls Tryz.prog 144 #[.pointer (some ⟨gd,0,none⟩),AR d s] w (Ret fun v w'=>v=.tuple #[]∧∃vA' vM',DrM w0 w' gd gm vS vA' vM' (d.free s) (n+121) ls):=by
 have h1:=h.push 3 #[AR d s]
 obtain⟨w1,a2,a8,E,-⟩:=Ae w #[AR d s] 3
 rw [a2] at h1
 have hd:=h1.keep (Ap w1)
 have z:=hd.ac
 obtain⟨AA,cA,rfl⟩:=AH z
 have Z:=h.sz
 have ag:d.ac.length≤700000:=by unfold Drw.size at Z; omega
 have aj:=hd.bd.cell
 have a9:=E.cell
 have ad:=hd.below.size
 have F:=hide hd
 have I:=hide W
 have a7:=hide O
 have an:=E.lt
 clear h h1 a8 E W hd Z O
 have hq:Hid (AR d s=.int .i64 (d.num s:Int)):=rfl
 rw [hq.out] at a2 a9
 unfold AR
 go_enter Tryz.func144,Tryz.ntmps144
 go_wp2_with fail
 refine Reg.cC [0,0,2,6,14,30,0,64,254,511,1023,2047,4095] [0,1,2,3,4,5,6,7,8,9,10,11,12] ?_ (by kernel_rfl) (by repeat (first | refine Reg.NoQ.then ?_ | refine Reg.NoQ.inBlock ?_ | exact Reg.NoQ.body (fun _ _ h=>h) (fun _ h=>h)))
 refine Reg.rest_walk' [0,1,2,3,4,5,6,7] [8,9,10,11,12] rfl (by kernel_rfl) ?_
 intro Qf y
 go_wp2_with fail
 first | refine y _ _ ?_ | skip
 try clear y
 refine Reg.rest_act' 8 [9,10,11,12] [] rfl (by kernel_rfl) ?_
 intro Qf y
 try simp only [gT,gS,gZ]
 try simp only [gT,gS,gZ]
 refine BP (w:=w1.drew) C9 rfl _ _ rfl w0.heap.size (.slice AA d.ac.length cA) d.ac.length _ rfl z [.int .i64 (d.num s:Int)] 1 rfl rfl (by simp [Value.oneCell']) (by omega) ad ?_
 intro g af w2 V G U al
 have C:=F.out.bd.kept G (Aw z F.out.bd (by decide))
 have ah:=C.cell
 have ak:=C.frozen 3
 have am:=C.lt
 have J:=hide (F.out.addA I.out G V U)
 have ai:=(J.out.blk List.mem_cons_self).cell
 clear V G U C z
 first | refine y _ _ ⟨Reg.nm,?_⟩ | refine⟨Reg.nm,?_⟩
 try clear y
 refine Reg.rest_walk' [9,10,11] [12] rfl (by kernel_rfl) ?_
 intro Qf y
 go_wp2_with fail
 first | refine y _ _ ?_ | skip
 try clear y
 refine Reg.rest_act' 12 [] [] rfl (by kernel_rfl) ?_
 intro Qf y
 try simp only [gT,gS,gZ]
 go_wp2_with fail
 first | refine y _ _ ⟨Reg.nm,?_⟩ | refine⟨Reg.nm,?_⟩
 try clear y
 first | refine Reg.rest_end ?_ | skip
 go_wp2_with fail
 refine Calls.ret (W2 (d:=d.acc s) (n:=n+1) (caps:=[.pointer (some ⟨w.heap.size,0,none⟩)]) (L:=L) (κ:=fun _=>some s) (S:=[(s,d.num s)]) (f:=s) J.out a7.out a6 I.out (fun p hp=>by rw [List.mem_singleton.1 hp]; exact⟨I.out,rfl⟩) (WL (.inl rfl) List.mem_cons_self) (.inl ⟨_,rfl,.inl rfl⟩) (by omega)) ?_
 rintro v w3 ⟨rfl,vM',M⟩
 have a5:=hide (M.sub (ls':=ls) fun x hx=>List.mem_cons_of_mem _ hx)
 clear M
 go_wp2_with fail
 exact bodyPost_ret (v:=.tuple #[]) (by simp [results,Tryz.results144,go_sem]) rfl ⟨rfl,_,vM',a5.out.big (by omega)⟩
end Go.Proofs.YtfcfpoemojjglaaGreatDoor
namespace Go.Proofs.YtfcfpoemojjglaaGreatDoor
open Go.RowKit
set_option maxHeartbeats 16000000
set_option maxRecDepth 100000
inductive Wm:Nat→Prop
 | mk (n:Nat):Wm n
inductive WC:Nat→Prop
 | mk (n:Nat):WC n
theorem WM {w:World} {base e size n:Nat} {v:Value} {xs:List Value} (h:w.ownsRow base e size v n xs):∀A m c,v=.slice A m c→m≤c:=by
 rintro A m c rfl
 rcases h.2 with⟨y,h0⟩ | ⟨g,C,E,y,-,-,F,-⟩
 ·injection y with _ h1 z
  omega
 ·injection y with _ h1 z
  omega
theorem Yf {w:World} {base e:Nat} (u:Value) (h:base≤w.heap.size):(w.alloc (.cells #[u] e)).ownsRow base e 1 (.slice (some ⟨w.heap.size,0,none⟩) 1 1) 1 [u]:=
 ⟨rfl,.inr ⟨w.heap.size,1,#[u],rfl,h,heap_alloc_new w _,Nat.le_refl _,by unfold maxLen; omega,rfl,rfl⟩⟩
section
variable {d:Drw} {S:List (Nme×Nat)}
theorem Drw.Has.num (h:d.Has S) {k:Nme} {e:Nat} (hk:(k,e)∈S):AR d k=.int .i64 (e:Int):=by
 unfold AR
 rw [(h _ hk).2]
theorem Drw.Has.add (h:d.Has S) (k:Nme):(d.add k).Has S:=fun p y=>⟨Drw.mem_add.2 (.inl (h p y).1),(Drw.add_num d k (h p y).1).trans (h p y).2⟩
theorem Drw.Has.kp (h:d.Has S) (f:Nme) (κ:Nat→Option Nme):(d.kp f κ).Has S:=h.kpN f κ d.L
end
section
variable {d:Drw} {k f:Nme} {κ:Nat→Option Nme}
theorem Drw.mov_L {a b:Nme} {i o:Int}:(d.mov a i o b).L=d.L:=rfl
theorem Drw.acc_L:(d.acc k).L=d.L:=rfl
theorem Drw.beg_L:(d.beg k).L=d.L:=rfl
theorem Drw.free_L:(d.free k).L=d.L:=Drw.kp_L
end
def DrS (w0 wr:World) (gd gm:Nat) (d:Drw) (n:Nat) (ls:Lst) (S:List (Nme×Nat)):Prop:=∃vS vA vM,DrM w0 wr gd gm vS vA vM d n ls∧d.Has S
section
variable {w0 wr w':World} {gd gm n L:Nat} {d:Drw} {ls ls':Lst} {S S':List (Nme×Nat)}
theorem DrS.keep (h:DrS w0 wr gd gm d n ls S) (y:Below wr.heap.size wr w'):DrS w0 w' gd gm d n ls S:=by
 obtain⟨vS,vA,vM,h,hS⟩:=h
 exact⟨vS,vA,vM,h.keep y,hS⟩
theorem DrS.big (h:DrS w0 wr gd gm d n ls S) {m:Nat} (y:n≤m):DrS w0 wr gd gm d m ls S:=by
 obtain⟨vS,vA,vM,h,hS⟩:=h
 exact⟨vS,vA,vM,h.big y,hS⟩
theorem DrS.push (h:DrS w0 wr gd gm d n ls S) (t:TypeId) (cs:Array Value):DrS w0 (wr.alloc (.cells cs t)) gd gm d n ((wr.heap.size,t,cs)::ls) S:=by
 obtain⟨vS,vA,vM,h,hS⟩:=h
 exact⟨vS,vA,vM,h.push t cs,hS⟩
theorem DrS.sub (h:DrS w0 wr gd gm d n ls S) (C:∀x∈ls',x∈ls) (y:∀x∈S',x∈S):DrS w0 wr gd gm d n ls' S':=by
 obtain⟨vS,vA,vM,h,hS⟩:=h
 exact⟨vS,vA,vM,h.sub C,fun p z=>hS p (y p z)⟩
theorem DrS.blk (h:DrS w0 wr gd gm d n ls S) {g:Nat} {t:TypeId} {cs:Array Value} (y:(g,t,cs)∈ls):Blk wr g t cs:=by
 obtain⟨vS,vA,vM,h,hS⟩:=h
 exact h.blk y
theorem DrS.below (h:DrS w0 wr gd gm d n ls S):Below w0.heap.size w0 wr:=by
 obtain⟨vS,vA,vM,h,hS⟩:=h
 exact h.below
theorem DrS.state {m c:Nat} (k:Nme) (h:DrS w0 wr gd gm d n ls S) (E:WF k m) (F:n≤1000000) {cs:Array Value} (C:cs=(nmC k m).toArray):
  Calls Tryz.prog 143 #[.pointer (some ⟨gd,0,none⟩),.slice (some ⟨wr.heap.size,0,none⟩) m c] (wr.alloc (.cells cs 3)) (Ret fun v w'=>∃e:Nat,v=.int .i64 (e:Int)∧DrS w0 w' gd gm (d.add k) (n+1) ls ((k,e)::S)):=by
 obtain⟨vS,vA,vM,h,hS⟩:=h
 refine Calls.ret (Wy (c:=c) k h E F C) ?_
 rintro v w2 ⟨rfl,z⟩
 refine⟨(d.add k).num k,rfl,vS,vA,vM,z,fun p y=>?_⟩
 rcases List.mem_cons.1 y with rfl | y
 ·exact⟨Drw.add_mem d k,rfl⟩
 ·exact hS.add k p y
theorem DrS.state' {gs m c:Nat} {cs:Array Value} (k:Nme) (h:DrS w0 wr gd gm d n ls S) (G:(gs,3,cs)∈ls) (E:WF k m) (F:n≤1000000) (C:cs=(nmC k m).toArray):
  Calls Tryz.prog 143 #[.pointer (some ⟨gd,0,none⟩),.slice (some ⟨gs,0,none⟩) m c] wr (Ret fun v w'=>∃e:Nat,v=.int .i64 (e:Int)∧DrS w0 w' gd gm (d.add k) (n+1) ls ((k,e)::S)):=by
 obtain⟨vS,vA,vM,h,hS⟩:=h
 subst C
 refine Calls.ret (Xj (c:=c) h (h.blk G) E F) ?_
 rintro v w2 ⟨rfl,z⟩
 refine⟨(d.add k).num k,rfl,vS,vA,vM,z,fun p y=>?_⟩
 rcases List.mem_cons.1 y with rfl | y
 ·exact⟨Drw.add_mem d k,rfl⟩
 ·exact hS.add k p y
theorem DrS.pushE (h:DrS w0 wr gd gm d n ls S) (t:TypeId) (cs:Array Value):∃y,wr.alloc (.cells cs t)=y∧Hid (DrS w0 y gd gm d n ((wr.heap.size,t,cs)::ls) S)∧wr.heap.size<y.heap.size:=
 ⟨_,rfl,h.push t cs,by simp⟩
theorem DrS.setB {g i:Nat} {t:TypeId} {cs:Array Value} (h:DrS w0 wr gd gm d n ls S) (O:(g,t,cs)∈ls) (v:Value) (I:∀x∈ls',x∈ls∧x.1≠g) (V:w0.heap.size≤g):DrS w0 (wr.setCell ⟨g,i,none⟩ v) gd gm d n ((g,t,cs.setIfInBounds i v)::ls') S:=by
 obtain⟨vS,vA,vM,h,hS⟩:=h
 obtain⟨E,h1,y,z,C⟩:=h.oth _ O
 dsimp only at E h1 y z C
 have hk:=(Ac.refl wr (fun k=>k=g)).setCell (p:=⟨g,i,none⟩) (fun _=>rfl) v
 have ho:∀{e sz m:Nat} {u:Value} {xs:List Value},u.ownBlock≠some g→wr.ownsRow w0.heap.size e sz u m xs→(wr.setCell ⟨g,i,none⟩ v).ownsRow w0.heap.size e sz u m xs:=fun M J=>hk.ownsRow J fun U G e=>M (by rw [G,e])
 refine⟨vS,vA,vM,⟨h.below.trans (hk.below h.below.size fun b hb (e:b=g)=>by omega),h.bd.kept hk (fun e=>h1 e.symm),h.map.kept hk (fun e=>BT E h.map e.symm),ho y h.st,ho z h.ac,ho C h.mv,h.ok,h.sz,h.sep,fun x F=>?_,h.ge⟩,hS⟩
 rcases List.mem_cons.1 F with rfl | F
 ·exact⟨E.set_ i v,h1,y,z,C⟩
 ·have:=I x F
  exact⟨(h.oth x this.1).1.kept hk this.2,(h.oth x this.1).2⟩
theorem DrS.move {a b:Nme} {ea eb:Nat} {i o:Int} (h:DrS w0 wr gd gm d n ls S) (y:(a,ea)∈S) (z:(b,eb)∈S) (F:n≤1000000):
  Calls Tryz.prog 147 #[.pointer (some ⟨gd,0,none⟩),.int .i64 (ea:Int),.int .i64 i,.int .i64 o,.int .i64 (eb:Int)] wr (Ret fun v w'=>v=.tuple #[]∧DrS w0 w' gd gm (d.mov a i o b) (n+1) ls S):=by
 obtain⟨vS,vA,vM,h,hS⟩:=h
 have C:=W6 (i:=i) (o:=o) h (hS _ y).1 (hS _ z).1 F
 rw [hS.num y,hS.num z] at C
 refine Calls.ret C ?_
 rintro v w2 ⟨rfl,vM',E⟩
 exact⟨rfl,vS,vA,vM',E,fun p G=>hS p G⟩
theorem DrS.keep_ {F ef:Nat} {caps:List Value} {κ:Nat→Option Nme} {f:Nme} {S0:List (Nme×Nat)} (h:DrS w0 wr gd gm d n ls S) (I:d.L=L) (J:L≤60) (z:(f,ef)∈S) (M:∀p∈S0,p∈S) (C:∀vS vA,Wj w0 gd gm vS vA ls L F caps κ S0) (G:WU F caps) (O:n≤800000):
  Calls Tryz.prog 145 #[.pointer (some ⟨gd,0,none⟩),.int .i64 (ef:Int),.func (.func F) #[] caps.toArray] wr (Ret fun v w'=>v=.tuple #[]∧DrS w0 w' gd gm (d.kp f κ) (n+120) ls S):=by
 obtain⟨vS,vA,vM,h,hS⟩:=h
 have y:=W2 h I J (hS _ z).1 (fun p U=>hS p (M p U)) (C vS vA) G O
 rw [hS.num z] at y
 refine Calls.ret y ?_
 rintro v w2 ⟨rfl,vM',E⟩
 exact⟨rfl,vS,vA,vM',E,hS.kp f κ⟩
theorem DrS.free {s:Nme} {es:Nat} (h:DrS w0 wr gd gm d n ls S) (E:d.L=L) (F:L≤60) (z:(s,es)∈S) (G:n≤700000):
  Calls Tryz.prog 144 #[.pointer (some ⟨gd,0,none⟩),.int .i64 (es:Int)] wr (Ret fun v w'=>v=.tuple #[]∧DrS w0 w' gd gm (d.free s) (n+121) ls S):=by
 obtain⟨vS,vA,vM,h,hS⟩:=h
 have y:=X0 h E F (hS _ z).1 G
 rw [hS.num z] at y
 refine Calls.ret y ?_
 rintro v w2 ⟨rfl,vA',vM',C⟩
 exact⟨rfl,vS,vA',vM',C,Drw.Has.kp (d:=d.acc s) (fun p I=>hS p I) s _⟩
theorem DrS.begin {a:Nme} {e:Nat} (h:DrS w0 wr gd gm d n ls S) (h0:d.st=[]) (y:(a,e)∈S):
  (∃cs,Blk (wr.alloc (.cells #[.int .i64 (e:Int)] 3)) gd 160 cs∧2<cs.size)∧DrS w0 ((wr.alloc (.cells #[.int .i64 (e:Int)] 3)).setCell ⟨gd,2,none⟩ (.slice (some ⟨wr.heap.size,0,none⟩) 1 1)) gd gm (d.beg a) (n+1) ls S:=by
 obtain⟨vS,vA,vM,h,hS⟩:=h
 refine⟨⟨_,h.bd.below ((Below.refl _ wr).alloc (Nat.le_refl _) _),by simp⟩,_,vA,vM,h.addS (hS _ y).1 ((Ac.refl wr _).alloc _) ?_ (.inr ⟨_,rfl,Nat.le_refl _⟩),fun p z=>hS p z⟩
 rw [h0,hS.num y]
 exact Yf _ h.below.size
theorem DrS.app {a:Nme} {e:Nat} (h:DrS w0 wr gd gm d n ls S) (z:(a,e)∈S) (I:n≤1000000):∃A m c,(∃vS vM,Blk wr gd 160 #[.int .i64 (d.L:Int),.int .i64 (d.nm.length:Int),vS,.slice A m c,vM,.map (some gm)])∧m≤1000000∧∃xs,wr.ownsRow w0.heap.size 3 1 (.slice A m c) m xs∧
  ∀g y w2,w2.ownsRow w0.heap.size 3 1 (.slice (some ⟨g,0,none⟩) (m+1) y) (m+1) (xs++[.int .i64 (e:Int)])→Ac wr w2 (fun k=>(Value.slice A m c).ownBlock=some k)→BJ wr (.slice A m c) (.slice (some ⟨g,0,none⟩) (m+1) y)→
   (∃vS vM,Blk w2 gd 160 #[.int .i64 (d.L:Int),.int .i64 (d.nm.length:Int),vS,.slice A m c,vM,.map (some gm)])∧(∀x∈ls,Blk w2 x.1 x.2.1 x.2.2)∧DrS w0 (w2.setCell ⟨gd,3,none⟩ (.slice (some ⟨g,0,none⟩) (m+1) y)) gd gm (d.acc a) (n+1) ls S:=by
 obtain⟨vS,vA,vM,h,hS⟩:=h
 obtain⟨A,c,rfl⟩:=AH h.ac
 have G:=h.sz
 refine⟨A,d.ac.length,c,⟨vS,vM,h.bd⟩,by unfold Drw.size at G; omega,_,h.ac,fun g y w2 ho hk E=>⟨⟨vS,vM,h.bd.kept hk (Aw h.ac h.bd (by decide))⟩,fun x C=>(h.oth x C).1.kept hk (h.oth x C).2.2.2.1,vS,_,vM,h.addA (hS _ z).1 hk (by rw [hS.num z]; exact ho) E,fun p F=>hS p F⟩⟩
theorem DrS.appS {a:Nme} {e:Nat} (h:DrS w0 wr gd gm d n ls S) (z:(a,e)∈S) (G:n≤1000000):∃A m c,(∃vA vM,Blk wr gd 160 #[.int .i64 (d.L:Int),.int .i64 (d.nm.length:Int),.slice A m c,vA,vM,.map (some gm)])∧m≤1000000∧∃xs,wr.ownsRow w0.heap.size 3 1 (.slice A m c) m xs∧
  ∀g y w2,w2.ownsRow w0.heap.size 3 1 (.slice (some ⟨g,0,none⟩) (m+1) y) (m+1) (xs++[.int .i64 (e:Int)])→Ac wr w2 (fun k=>(Value.slice A m c).ownBlock=some k)→BJ wr (.slice A m c) (.slice (some ⟨g,0,none⟩) (m+1) y)→
   (∃vA vM,Blk w2 gd 160 #[.int .i64 (d.L:Int),.int .i64 (d.nm.length:Int),.slice A m c,vA,vM,.map (some gm)])∧DrS w0 (w2.setCell ⟨gd,2,none⟩ (.slice (some ⟨g,0,none⟩) (m+1) y)) gd gm (d.beg a) (n+1) ls S:=by
 obtain⟨vS,vA,vM,h,hS⟩:=h
 obtain⟨A,c,rfl⟩:=AH h.st
 have F:=h.sz
 refine⟨A,d.st.length,c,⟨vA,vM,h.bd⟩,by unfold Drw.size at F; omega,_,h.st,fun g y w2 ho hk C=>⟨⟨vA,vM,h.bd.kept hk (Aw h.st h.bd (by decide))⟩,_,vA,vM,h.addS (hS _ z).1 hk (by rw [hS.num z]; exact ho) C,fun p E=>hS p E⟩⟩
theorem DrS.fin (h:DrS w0 wr gd gm d n ls S) (y:n≤1000000):∃vS vA vM,Blk wr gd 160 #[.int .i64 (d.L:Int),.int .i64 (d.nm.length:Int),vS,vA,vM,.map (some gm)]∧H6 wr wr.heap.size (.agg #[.int .i64 (d.L:Int),.int .i64 (d.nm.length:Int),vS,vA,vM]) d.tr:=by
 obtain⟨vS,vA,vM,h,hS⟩:=h
 exact⟨vS,vA,vM,h.bd,h.tr (by omega) (WM h.st)⟩
end
end Go.Proofs.YtfcfpoemojjglaaGreatDoor
