/-
  Part SD of a proof.
-/
import Derived.Test.YtjejejmeddkciaaGreatDoorPA
import Derived.Test.YtjejejmeddkciaaGreatDoorSC
import Derived.Test.YtjejejmeddkciaaGreatDoorCE
set_option maxHeartbeats 16000000
set_option maxRecDepth 100000
set_option linter.unusedVariables false
set_option linter.unusedSimpArgs false
namespace Go.Proofs.YtjejejmeddkciaaGreatDoor
open Go.RowKit
open K (Az Fc AW)
set_option maxHeartbeats 16000000
set_option maxRecDepth 100000
section
variable {w0:World} {gd gm L g3 g5 g9:Nat} {vS vA:Value} {ls:Lst} {rc:Array Value} {left right:List Int} {f t:Int}
theorem Yx (J:K4 w0 rc f t left right) (G:(g3,109,rc)∈ls) (M:(g5,128,#[.pointer (some ⟨gd,0,none⟩)])∈ls) (O:(g9,187,#[.func (.func 108) #[] #[.pointer (some ⟨g5,0,none⟩),.pointer (some ⟨g3,0,none⟩)]])∈ls):
  Wq w0 gd gm vS vA ls L 110 [.pointer (some ⟨g3,0,none⟩),.pointer (some ⟨g9,0,none⟩)] (Q1 left right) []:=by
 intro wr vM d n x hx hn h hS;have W:=hide (XC J G M wr vM d n x hx hn h hS);obtain⟨A,c,a2,U⟩:=J.right;have V:=(h.blk G).cell 15;rw [a2] at V;have a9:=(h.blk O).cell;have E:=Wj (c:=c) (x:=(x:Int)) (U.keep (w':=wr) (fun p hp=>h.below.cell hp) (Nat.le_refl _));have a5:=hide (h.big (m:=n+1) (by omega));obtain⟨b,I⟩:∃b,alw right (x:Int)=b:=⟨_,rfl⟩;rw [I] at E;obtain⟨m,Z⟩:∃m,m=right.length:=⟨_,rfl⟩;rw [<-Z] at V E;have F:=hide I;clear h U a2 G M O hS I Z J;show Calls _ _ #[_,_,_] _ _
 cases b
 ·have C:Hid (Q1 left right x=none):=by show _=_;unfold Q1;rw [F.out];rfl
  rw [C.out];clear C F W;go_enter Tryz.func110,Tryz.ntmps110;go_wp2_with (go_at_call 107;refine E.mono ?_;rintro e' w' ⟨rfl,rfl⟩);go_ret;exact⟨rfl,a5.out⟩
 ·have C:Hid (Q1 left right x=Wt left x):=by show _=_;unfold Q1;rw [F.out];rfl
  rw [C.out];clear C F;go_enter Tryz.func110,Tryz.ntmps110;go_wp2_with (go_at_call 107;refine E.mono ?_;rintro e' w' ⟨rfl,rfl⟩);refine Calls.ret (show Calls _ _ #[_,_,_] _ _ from W.out) ?_;rintro v w2 ⟨rfl,hF⟩;go_wp2_with fail;go_ret;exact⟨Eq.trans rfl rfl,hF⟩
end
def Xr (F:Nat) (caps:List Value):Prop:=
 (∃c1,caps=[c1]/\(F=150\/F=104\/F=106))\/(∃c1 c2,caps=[c1,c2]/\(F=114\/F=115\/F=108\/F=110\/F=111\/F=113))\/∃c1 c2 c3,caps=[c1,c2,c3]/\F=112
theorem Drw.kpN_num {d:Drw} {f:Nme} {κ:Nat->Option Nme} {k:Nme} (C:k∈d.nm):∀n,k∈(d.kpN f κ n).nm/\(d.kpN f κ n).num k=d.num k
 | 0=>⟨C,rfl⟩
 | n+1=>by
  obtain⟨h1,h⟩:=Drw.kpN_num (f:=f) (κ:=κ) C n;rw [Drw.kpN_succ];unfold Drw.kp1;split
  ·exact⟨h1,h⟩
  ·exact⟨Drw.mem_add.2 (.inl h1),(Drw.add_num _ _ h1).trans h⟩
theorem Drw.Has.kpN {d:Drw} {S:List (Nme×Nat)} (h:d.Has S) (f:Nme) (κ:Nat->Option Nme) (n:Nat):(d.kpN f κ n).Has S:=fun p C=>
 ⟨(Drw.kpN_num (h p C).1 n).1,(Drw.kpN_num (h p C).1 n).2.trans (h p C).2⟩
theorem XK {w0 w:World} {gd gm n L F:Nat} {vS vA vM:Value} {d:Drw} {ls:Lst} {caps:List Value} {κ:Nat->Option Nme} {S:List (Nme×Nat)} {f:Nme} (h:DrM w0 w gd gm vS vA vM d n ls) (U:d.L=L) (ak:L<=60) (hf:f∈d.nm) (hS:d.Has S)
  (Z:Wq w0 gd gm vS vA ls L F caps κ S) (hF:Xr F caps) (hn:n<=800000):
  Calls Tryz.prog 103 #[.pointer (some ⟨gd,0,none⟩),Af d f,.func (.func F) #[] caps.toArray] w (Ret fun v w'=>v=.tuple #[]/\∃C,DrM w0 w' gd gm vS vA C (d.kp f κ) (n+120) ls):=by
 have ae:=h.bd.cell;rw [U] at ae;have ai:Hid (DrM w0 w gd gm vS vA vM (d.kpN f κ 0) (n+2*0) ls):=h;have a9:=hide Z;have ad:=hide hS;have af:=hide hf;have a5:Hid (d.kp f κ=d.kpN f κ L):=by show _=_;unfold Drw.kp;rw [U]
 rw [a5.out];clear h Z hS hf U a5;unfold Af;rcases hF with⟨c1,rfl,rfl|rfl|rfl⟩|⟨c1,c2,rfl,rfl|rfl|rfl|rfl|rfl|rfl⟩|⟨c1,c2,c3,rfl,rfl⟩
 all_goals
  go_enter Tryz.func103,Tryz.ntmps103;go_wp2_with fail;go_loopw [13] (fun W wr=>∃(i:Nat) (C:Value),W=.int .i64 (i:Int)/\i<=L/\Hid (DrM w0 wr gd gm vS vA C (d.kpN f κ i) (n+2*i) ls)) (fun W _=>L - (intOf W).toNat)
  case atStart=>exact⟨0,_,rfl,Nat.zero_le _,ai⟩
  case round=>
   obtain⟨i,C,rfl,hi,hD⟩:=hrel;by_cases ag:i<L
   ·have E:=hide (a9.out wr C (d.kpN f κ i) (n+2*i) i ag (by omega) hD.out (ad.out.kpN f κ i));have hs:=hide (Drw.kpN_succ d f κ i);have V:=hide (Drw.kpN_num (f:=f) (κ:=κ) af.out i);cases G:κ i with
    | none=>
     have O:Hid ((d.kpN f κ i).kp1 f κ i=d.kpN f κ i):=by show _=_;unfold Drw.kp1;rw [G]
     rw [G] at E;clear G;go_wp2_with fail;refine Calls.ret E.out ?_;rintro v w2 ⟨rfl,I⟩;unfold Xj;dsimp only;have M:Hid (DrM w0 w2 gd gm vS vA C (d.kpN f κ (i+1)) (n+2*(i+1)) ls):=by
      show DrM _ _ _ _ _ _ _ _ _ _
      rw [hs.out,O.out];exact DrM.big I (by omega)
     clear I E;go_wp2_with fail;exact⟨⟨i+1,C,by go_num,by omega,M⟩,by simp [intOf];omega⟩
    | some k=>
     have O:Hid ((d.kpN f κ i).kp1 f κ i=((d.kpN f κ i).add k).mov f i i k):=by show _=_;unfold Drw.kp1;rw [G]
     rw [G] at E;clear G;go_wp2_with fail;refine Calls.ret E.out ?_;rintro v w2 ⟨rfl,a3⟩;have I:DrM w0 w2 gd gm vS vA C ((d.kpN f κ i).add k) (n+2*i+1) ls:=a3;have J:=hide (XR (a:=f) (b:=k) (i:=(i:Int)) (o:=(i:Int)) I (Drw.mem_add.2 (.inl V.out.1)) (Drw.add_mem _ k) (by omega));have hq:Hid (Af ((d.kpN f κ i).add k) f=.int .i64 (d.num f:Int)):=by show _=_;unfold Af;rw [Drw.add_num _ _ V.out.1,V.out.2]
     unfold Xj;dsimp only;rw [hq.out] at J;unfold Af at J ⊢;obtain⟨q,a6⟩:∃q,q=((d.kpN f κ i).add k).num k:=⟨_,rfl⟩;rw [<-a6] at J ⊢;have an:(0:Int)<=(q:Int):=by omega
     clear I a3 E a6;go_wp2_with fail;refine Calls.ret J.out ?_;rintro v w3 ⟨rfl,a8,M⟩;have ab:Hid (DrM w0 w3 gd gm vS vA a8 (d.kpN f κ (i+1)) (n+2*(i+1)) ls):=by
      show DrM _ _ _ _ _ _ _ _ _ _
      rw [hs.out,O.out];exact DrM.big M (by omega)
     clear M J;go_wp2_with fail;exact⟨⟨i+1,a8,by go_num,by omega,ab⟩,by simp [intOf];omega⟩
   ·obtain rfl:L=i:=by omega
    go_wp2_with fail;exact bodyPost_ret (v:=.tuple #[]) (by simp [results,Tryz.results103,go_sem]) rfl ⟨rfl,C,hD.out.big (by omega)⟩
end Go.Proofs.YtjejejmeddkciaaGreatDoor
namespace Go.Proofs.YtjejejmeddkciaaGreatDoor
open Go.RowKit
open K (Az Fc AW)
set_option maxHeartbeats 16000000
set_option maxRecDepth 100000
theorem Xo {w0 w:World} {W:Array Value} {A:Option Addr} {m c:Nat} {ls:Lst} (F:Below w0.heap.size w0 w) (hp:W[2]?=some (.slice A m c)) (hm:m<=60) (U:∀x∈ls,Blk w x.1 x.2.1 x.2.2):
  Calls Tryz.prog 100 #[.agg W] w (Ret fun v w'=>∃gd gm,v=.pointer (some ⟨gd,0,none⟩)/\DrM w0 w' gd gm (.slice none 0 0) (.slice none 0 0) (.slice none 0 0) ⟨m,[],[],[],[]⟩ 0 ls/\Below w.heap.size w w'):=by
 obtain⟨C,ad,G,Z,-⟩:=Ae w W 27;have a7:=Z.cell 2;rw [hp] at a7;obtain⟨w2,V⟩:∃w2,C.alloc (.map #[] 0)=w2:=⟨_,rfl⟩;have E:Bw w2 C.heap.size []:=V ▸ Bw.made C;have M:Below C.heap.size C w2:=V ▸ (Below.refl _ C).alloc (Nat.le_refl _) _;obtain⟨w3,ae,O,a2,-⟩:=Ae w2 #[.int .i64 (m:Int),.int .i64 0,.slice none 0 0,.slice none 0 0,.slice none 0 0,.map (some C.heap.size)] 127;have I:=G.trans (M.mono G.size);have J:=I.trans (O.mono I.size);have hD:Hid (DrM w0 w3 w2.heap.size C.heap.size (.slice none 0 0) (.slice none 0 0) (.slice none 0 0) ⟨m,[],[],[],[]⟩ 0 ls):=by
  refine⟨F.trans (J.mono F.size),a2,E.keep (O.block _ E.lt),World.ownsRow_nil _ _ _ _,World.ownsRow_nil _ _ _ _,World.ownsRow_nil _ _ _ _,⟨List.nodup_nil,fun _ h=>(by cases h),fun _ h=>(by cases h),fun _ h=>(by cases h)⟩,by simp [Drw.size],fun g e=>(by cases e),fun x hx=>⟨(U x hx).below J,?_,by simp [Value.ownBlock],by simp [Value.ownBlock],by simp [Value.ownBlock]⟩,?_⟩
  ·have:=(U x hx).lt;have:=I.size;omega
  ·have:=F.size;have:=G.size;have:=M.size;omega
 have a6:=hide J;have ab:=E.lt;have aa:(Instr.makeMap 125 none).run Tryz.prog C=.ok (.map (some C.heap.size)) w2:=V ▸ run_makeMap 125 C;clear hp E G Z M O a2 I J U F;go_enter Tryz.func100,Tryz.ntmps100;go_wp2_with fail;go_ret;exact⟨_,_,rfl,hD.out,a6.out⟩
theorem Zt {w0 w:World} {gd gm n L:Nat} {vS vA vM:Value} {d:Drw} {ls:Lst} {s:Nme} (h:DrM w0 w gd gm vS vA vM d n ls) (Z:d.L=L) (ab:L<=60) (hs:s∈d.nm) (hn:n<=700000):
  Calls Tryz.prog 102 #[.pointer (some ⟨gd,0,none⟩),Af d s] w (Ret fun v w'=>v=.tuple #[]/\∃vA' U,DrM w0 w' gd gm vS vA' U (d.free s) (n+121) ls):=by
 have h1:=h.push 3 #[Af d s];obtain⟨w1,a6,ae,I,-⟩:=Ae w #[Af d s] 3;rw [a6] at h1;have E:=h1.keep (Ap w1);have F:=E.ac;obtain⟨AA,cA,rfl⟩:=AH F;have a5:=h.sz;have ak:d.ac.length<=700000:=by unfold Drw.size at a5;omega
 have an:=E.bd.cell;have af:=I.cell;have ai:=E.below.size;have J:=hide E;have O:=hide hs;have ad:=hide Z;have ar:=I.lt;clear h h1 ae I hs E a5 Z;have hq:Hid (Af d s=.int .i64 (d.num s:Int)):=rfl;rw [hq.out] at a6 af;unfold Af;go_enter Tryz.func102,Tryz.ntmps102;go_wp2_with fail;refine Reg.cC [0,0,2,6,14,30,0,64,254,511,1023,2047,4095] [0,1,2,3,4,5,6,7,8,9,10,11,12] ?_ (by kernel_rfl) (by repeat (first|refine Reg.NoQ.then ?_|refine Reg.NoQ.inBlock ?_|exact Reg.NoQ.body (fun _ _ h=>h) (fun _ h=>h)));refine Reg.rest_walk' [0,1,2,3,4,5,6,7] [8,9,10,11,12] rfl (by kernel_rfl) ?_;intro Qf C;go_wp2_with fail;first|refine C _ _ ?_|skip
 (try clear C);refine Reg.rest_act' 8 [9,10,11,12] [] rfl (by kernel_rfl) ?_;intro Qf C;try simp only [gT,gS,gZ]
 try simp only [gT,gS,gZ]
 refine BP (w:=w1.drew) C9 rfl _ _ rfl w0.heap.size (.slice AA d.ac.length cA) d.ac.length _ rfl F [.int .i64 (d.num s:Int)] 1 rfl rfl (by simp [Value.oneCell']) (by omega) ai ?_;intro g cap w2 a3 M a2 ap;have G:=J.out.bd.kept M (Aw F J.out.bd (by decide));have al:=G.cell;have ao:=G.frozen 3;have aq:=G.lt;have V:=hide (J.out.addA O.out M a3 a2);have am:=(V.out.blk List.mem_cons_self).cell;clear a3 M a2 G F;first|refine C _ _ ⟨Reg.nm,?_⟩|refine⟨Reg.nm,?_⟩
 (try clear C);refine Reg.rest_walk' [9,10,11] [12] rfl (by kernel_rfl) ?_;intro Qf C;go_wp2_with fail;first|refine C _ _ ?_|skip
 (try clear C);refine Reg.rest_act' 12 [] [] rfl (by kernel_rfl) ?_;intro Qf C;try simp only [gT,gS,gZ]
 go_wp2_with fail;first|refine C _ _ ⟨Reg.nm,?_⟩|refine⟨Reg.nm,?_⟩
 (try clear C);first|refine Reg.rest_end ?_|skip
 go_wp2_with fail;refine Calls.ret (XK (d:=d.acc s) (n:=n+1) (caps:=[.pointer (some ⟨w.heap.size,0,none⟩)]) (L:=L) (κ:=fun _=>some s) (S:=[(s,d.num s)]) (f:=s) V.out ad.out ab O.out (fun p hp=>by rw [List.mem_singleton.1 hp];exact⟨O.out,rfl⟩) (Xk (.inl rfl) List.mem_cons_self) (.inl ⟨_,rfl,.inl rfl⟩) (by omega)) ?_;rintro v w3 ⟨rfl,U,W⟩;have aa:=hide (W.sub (ls':=ls) fun x hx=>List.mem_cons_of_mem _ hx);clear W;go_wp2_with fail;exact bodyPost_ret (v:=.tuple #[]) (by simp [results,Tryz.results102,go_sem]) rfl ⟨rfl,_,U,aa.out.big (by omega)⟩
end Go.Proofs.YtjejejmeddkciaaGreatDoor
namespace Go.Proofs.YtjejejmeddkciaaGreatDoor
open Go.RowKit
set_option maxHeartbeats 16000000
set_option maxRecDepth 100000
inductive Ww:Nat->Prop
 | mk (n:Nat):Ww n
inductive WX:Nat->Prop
 | mk (n:Nat):WX n
theorem XY {w:World} {base e size n:Nat} {v:Value} {xs:List Value} (h:w.ownsRow base e size v n xs):∀A m c,v=.slice A m c->m<=c:=by
 rintro A m c rfl;rcases h.2 with⟨C,h0⟩|⟨g,cap,F,C,-,-,G,-⟩
 ·injection C with _ h1 E
  omega
 ·injection C with _ h1 E
  omega
theorem Z1 {w:World} {base e:Nat} (u:Value) (h:base<=w.heap.size):(w.alloc (.cells #[u] e)).ownsRow base e 1 (.slice (some ⟨w.heap.size,0,none⟩) 1 1) 1 [u]:=
 ⟨rfl,.inr ⟨w.heap.size,1,#[u],rfl,h,heap_alloc_new w _,Nat.le_refl _,by unfold maxLen;omega,rfl,rfl⟩⟩
section
variable {d:Drw} {S:List (Nme×Nat)}
theorem Drw.Has.num (h:d.Has S) {k:Nme} {e:Nat} (C:(k,e)∈S):Af d k=.int .i64 (e:Int):=by
 unfold Af;rw [(h _ C).2]
theorem Drw.Has.add (h:d.Has S) (k:Nme):(d.add k).Has S:=fun p C=>⟨Drw.mem_add.2 (.inl (h p C).1),(Drw.add_num d k (h p C).1).trans (h p C).2⟩
theorem Drw.Has.kp (h:d.Has S) (f:Nme) (κ:Nat->Option Nme):(d.kp f κ).Has S:=h.kpN f κ d.L
end
section
variable {d:Drw} {k f:Nme} {κ:Nat->Option Nme}
theorem Drw.mov_L {a b:Nme} {i o:Int}:(d.mov a i o b).L=d.L:=rfl
theorem Drw.acc_L:(d.acc k).L=d.L:=rfl
theorem Drw.beg_L:(d.beg k).L=d.L:=rfl
theorem Drw.free_L:(d.free k).L=d.L:=Drw.kp_L
end
def DrS (w0 wr:World) (gd gm:Nat) (d:Drw) (n:Nat) (ls:Lst) (S:List (Nme×Nat)):Prop:=∃vS vA vM,DrM w0 wr gd gm vS vA vM d n ls/\d.Has S
section
variable {w0 wr w':World} {gd gm n L:Nat} {d:Drw} {ls ls':Lst} {S S':List (Nme×Nat)}
theorem DrS.keep (h:DrS w0 wr gd gm d n ls S) (C:Below wr.heap.size wr w'):DrS w0 w' gd gm d n ls S:=by
 obtain⟨vS,vA,vM,h,hS⟩:=h;exact⟨vS,vA,vM,h.keep C,hS⟩
theorem DrS.big (h:DrS w0 wr gd gm d n ls S) {m:Nat} (C:n<=m):DrS w0 wr gd gm d m ls S:=by
 obtain⟨vS,vA,vM,h,hS⟩:=h;exact⟨vS,vA,vM,h.big C,hS⟩
theorem DrS.push (h:DrS w0 wr gd gm d n ls S) (t:TypeId) (cs:Array Value):DrS w0 (wr.alloc (.cells cs t)) gd gm d n ((wr.heap.size,t,cs)::ls) S:=by
 obtain⟨vS,vA,vM,h,hS⟩:=h;exact⟨vS,vA,vM,h.push t cs,hS⟩
theorem DrS.sub (h:DrS w0 wr gd gm d n ls S) (F:∀x∈ls',x∈ls) (C:∀x∈S',x∈S):DrS w0 wr gd gm d n ls' S':=by
 obtain⟨vS,vA,vM,h,hS⟩:=h;exact⟨vS,vA,vM,h.sub F,fun p E=>hS p (C p E)⟩
theorem DrS.blk (h:DrS w0 wr gd gm d n ls S) {g:Nat} {t:TypeId} {cs:Array Value} (C:(g,t,cs)∈ls):Blk wr g t cs:=by
 obtain⟨vS,vA,vM,h,hS⟩:=h;exact h.blk C
theorem DrS.below (h:DrS w0 wr gd gm d n ls S):Below w0.heap.size w0 wr:=by
 obtain⟨vS,vA,vM,h,hS⟩:=h;exact h.below
theorem DrS.state {m c:Nat} (k:Nme) (h:DrS w0 wr gd gm d n ls S) (G:W1 k m) (I:n<=1000000) {cs:Array Value} (F:cs=(nmC k m).toArray):
  Calls Tryz.prog 101 #[.pointer (some ⟨gd,0,none⟩),.slice (some ⟨wr.heap.size,0,none⟩) m c] (wr.alloc (.cells cs 3)) (Ret fun v w'=>∃e:Nat,v=.int .i64 (e:Int)/\DrS w0 w' gd gm (d.add k) (n+1) ls ((k,e)::S)):=by
 obtain⟨vS,vA,vM,h,hS⟩:=h;refine Calls.ret (WR (c:=c) k h G I F) ?_;rintro v w2 ⟨rfl,E⟩;refine⟨(d.add k).num k,rfl,vS,vA,vM,E,fun p C=>?_⟩;rcases List.mem_cons.1 C with rfl|C
 ·exact⟨Drw.add_mem d k,rfl⟩
 ·exact hS.add k p C
theorem DrS.state' {E m c:Nat} {cs:Array Value} (k:Nme) (h:DrS w0 wr gd gm d n ls S) (M:(E,3,cs)∈ls) (I:W1 k m) (J:n<=1000000) (G:cs=(nmC k m).toArray):
  Calls Tryz.prog 101 #[.pointer (some ⟨gd,0,none⟩),.slice (some ⟨E,0,none⟩) m c] wr (Ret fun v w'=>∃e:Nat,v=.int .i64 (e:Int)/\DrS w0 w' gd gm (d.add k) (n+1) ls ((k,e)::S)):=by
 obtain⟨vS,vA,vM,h,hS⟩:=h;subst G;refine Calls.ret (Yf (c:=c) h (h.blk M) I J) ?_;rintro v w2 ⟨rfl,F⟩;refine⟨(d.add k).num k,rfl,vS,vA,vM,F,fun p C=>?_⟩;rcases List.mem_cons.1 C with rfl|C
 ·exact⟨Drw.add_mem d k,rfl⟩
 ·exact hS.add k p C
theorem DrS.pushE (h:DrS w0 wr gd gm d n ls S) (t:TypeId) (cs:Array Value):∃wn,wr.alloc (.cells cs t)=wn/\Hid (DrS w0 wn gd gm d n ((wr.heap.size,t,cs)::ls) S)/\wr.heap.size<wn.heap.size:=
 ⟨_,rfl,h.push t cs,by simp⟩
theorem DrS.setB {g i:Nat} {t:TypeId} {cs:Array Value} (h:DrS w0 wr gd gm d n ls S) (W:(g,t,cs)∈ls) (v:Value) (O:∀x∈ls',x∈ls/\x.1≠g) (hg:w0.heap.size<=g):DrS w0 (wr.setCell ⟨g,i,none⟩ v) gd gm d n ((g,t,cs.setIfInBounds i v)::ls') S:=by
 obtain⟨vS,vA,vM,h,hS⟩:=h;obtain⟨I,h1,E,F,G⟩:=h.oth _ W;dsimp only at I h1 E F G;have C:=(Ac.refl wr (fun k=>k=g)).setCell (p:=⟨g,i,none⟩) (fun _=>rfl) v;have ho:∀{e sz m:Nat} {u:Value} {xs:List Value},u.ownBlock≠some g->wr.ownsRow w0.heap.size e sz u m xs->(wr.setCell ⟨g,i,none⟩ v).ownsRow w0.heap.size e sz u m xs:=fun V U=>C.ownsRow U fun Z M e=>V (by rw [M,e]);refine⟨vS,vA,vM,⟨h.below.trans (C.below h.below.size fun b hb (e:b=g)=>by omega),h.bd.kept C (fun e=>h1 e.symm),h.map.kept C (fun e=>BT I h.map e.symm),ho E h.st,ho F h.ac,ho G h.mv,h.ok,h.sz,h.sep,fun x J=>?_,h.ge⟩,hS⟩;rcases List.mem_cons.1 J with rfl|J
 ·exact⟨I.set_ i v,h1,E,F,G⟩
 ·have:=O x J;exact⟨(h.oth x this.1).1.kept C this.2,(h.oth x this.1).2⟩
theorem DrS.move {a b:Nme} {ea eb:Nat} {i o:Int} (h:DrS w0 wr gd gm d n ls S) (C:(a,ea)∈S) (E:(b,eb)∈S) (I:n<=1000000):
  Calls Tryz.prog 105 #[.pointer (some ⟨gd,0,none⟩),.int .i64 (ea:Int),.int .i64 i,.int .i64 o,.int .i64 (eb:Int)] wr (Ret fun v w'=>v=.tuple #[]/\DrS w0 w' gd gm (d.mov a i o b) (n+1) ls S):=by
 obtain⟨vS,vA,vM,h,hS⟩:=h;have F:=XR (i:=i) (o:=o) h (hS _ C).1 (hS _ E).1 I;rw [hS.num C,hS.num E] at F;refine Calls.ret F ?_;rintro v w2 ⟨rfl,M,G⟩;exact⟨rfl,vS,vA,M,G,fun p J=>hS p J⟩
theorem DrS.keep_ {F ef:Nat} {caps:List Value} {κ:Nat->Option Nme} {f:Nme} {S0:List (Nme×Nat)} (h:DrS w0 wr gd gm d n ls S) (M:d.L=L) (O:L<=60) (E:(f,ef)∈S) (U:∀p∈S0,p∈S) (G:∀vS vA,Wq w0 gd gm vS vA ls L F caps κ S0) (J:Xr F caps) (V:n<=800000):
  Calls Tryz.prog 103 #[.pointer (some ⟨gd,0,none⟩),.int .i64 (ef:Int),.func (.func F) #[] caps.toArray] wr (Ret fun v w'=>v=.tuple #[]/\DrS w0 w' gd gm (d.kp f κ) (n+120) ls S):=by
 obtain⟨vS,vA,vM,h,hS⟩:=h;have C:=XK h M O (hS _ E).1 (fun p W=>hS p (U p W)) (G vS vA) J V;rw [hS.num E] at C;refine Calls.ret C ?_;rintro v w2 ⟨rfl,Z,I⟩;exact⟨rfl,vS,vA,Z,I,hS.kp f κ⟩
theorem DrS.free {s:Nme} {es:Nat} (h:DrS w0 wr gd gm d n ls S) (G:d.L=L) (I:L<=60) (E:(s,es)∈S) (J:n<=700000):
  Calls Tryz.prog 102 #[.pointer (some ⟨gd,0,none⟩),.int .i64 (es:Int)] wr (Ret fun v w'=>v=.tuple #[]/\DrS w0 w' gd gm (d.free s) (n+121) ls S):=by
 obtain⟨vS,vA,vM,h,hS⟩:=h;have C:=Zt h G I (hS _ E).1 J;rw [hS.num E] at C;refine Calls.ret C ?_;rintro v w2 ⟨rfl,vA',O,F⟩;exact⟨rfl,vS,vA',O,F,Drw.Has.kp (d:=d.acc s) (fun p M=>hS p M) s _⟩
theorem DrS.begin {a:Nme} {e:Nat} (h:DrS w0 wr gd gm d n ls S) (h0:d.st=[]) (C:(a,e)∈S):
  (∃cs,Blk (wr.alloc (.cells #[.int .i64 (e:Int)] 3)) gd 127 cs/\2<cs.size)/\DrS w0 ((wr.alloc (.cells #[.int .i64 (e:Int)] 3)).setCell ⟨gd,2,none⟩ (.slice (some ⟨wr.heap.size,0,none⟩) 1 1)) gd gm (d.beg a) (n+1) ls S:=by
 obtain⟨vS,vA,vM,h,hS⟩:=h;refine⟨⟨_,h.bd.below ((Below.refl _ wr).alloc (Nat.le_refl _) _),by simp⟩,_,vA,vM,h.addS (hS _ C).1 ((Ac.refl wr _).alloc _) ?_ (.inr ⟨_,rfl,Nat.le_refl _⟩),fun p E=>hS p E⟩;rw [h0,hS.num C];exact Z1 _ h.below.size
theorem DrS.app {a:Nme} {e:Nat} (h:DrS w0 wr gd gm d n ls S) (E:(a,e)∈S) (M:n<=1000000):∃A m c,(∃vS vM,Blk wr gd 127 #[.int .i64 (d.L:Int),.int .i64 (d.nm.length:Int),vS,.slice A m c,vM,.map (some gm)])/\m<=1000000/\∃xs,wr.ownsRow w0.heap.size 3 1 (.slice A m c) m xs/\
  ∀g cap w2,w2.ownsRow w0.heap.size 3 1 (.slice (some ⟨g,0,none⟩) (m+1) cap) (m+1) (xs++[.int .i64 (e:Int)])->Ac wr w2 (fun k=>(Value.slice A m c).ownBlock=some k)->BJ wr (.slice A m c) (.slice (some ⟨g,0,none⟩) (m+1) cap)->
   (∃vS vM,Blk w2 gd 127 #[.int .i64 (d.L:Int),.int .i64 (d.nm.length:Int),vS,.slice A m c,vM,.map (some gm)])/\(∀x∈ls,Blk w2 x.1 x.2.1 x.2.2)/\DrS w0 (w2.setCell ⟨gd,3,none⟩ (.slice (some ⟨g,0,none⟩) (m+1) cap)) gd gm (d.acc a) (n+1) ls S:=by
 obtain⟨vS,vA,vM,h,hS⟩:=h;obtain⟨A,c,rfl⟩:=AH h.ac;have J:=h.sz;refine⟨A,d.ac.length,c,⟨vS,vM,h.bd⟩,by unfold Drw.size at J;omega,_,h.ac,fun g cap w2 ho C G=>⟨⟨vS,vM,h.bd.kept C (Aw h.ac h.bd (by decide))⟩,fun x F=>(h.oth x F).1.kept C (h.oth x F).2.2.2.1,vS,_,vM,h.addA (hS _ E).1 C (by rw [hS.num E];exact ho) G,fun p I=>hS p I⟩⟩
theorem DrS.appS {a:Nme} {e:Nat} (h:DrS w0 wr gd gm d n ls S) (C:(a,e)∈S) (J:n<=1000000):∃A m c,(∃vA vM,Blk wr gd 127 #[.int .i64 (d.L:Int),.int .i64 (d.nm.length:Int),.slice A m c,vA,vM,.map (some gm)])/\m<=1000000/\∃xs,wr.ownsRow w0.heap.size 3 1 (.slice A m c) m xs/\
  ∀g cap w2,w2.ownsRow w0.heap.size 3 1 (.slice (some ⟨g,0,none⟩) (m+1) cap) (m+1) (xs++[.int .i64 (e:Int)])->Ac wr w2 (fun k=>(Value.slice A m c).ownBlock=some k)->BJ wr (.slice A m c) (.slice (some ⟨g,0,none⟩) (m+1) cap)->
   (∃vA vM,Blk w2 gd 127 #[.int .i64 (d.L:Int),.int .i64 (d.nm.length:Int),.slice A m c,vA,vM,.map (some gm)])/\DrS w0 (w2.setCell ⟨gd,2,none⟩ (.slice (some ⟨g,0,none⟩) (m+1) cap)) gd gm (d.beg a) (n+1) ls S:=by
 obtain⟨vS,vA,vM,h,hS⟩:=h;obtain⟨A,c,rfl⟩:=AH h.st;have I:=h.sz;refine⟨A,d.st.length,c,⟨vA,vM,h.bd⟩,by unfold Drw.size at I;omega,_,h.st,fun g cap w2 ho E F=>⟨⟨vA,vM,h.bd.kept E (Aw h.st h.bd (by decide))⟩,_,vA,vM,h.addS (hS _ C).1 E (by rw [hS.num C];exact ho) F,fun p G=>hS p G⟩⟩
end
end Go.Proofs.YtjejejmeddkciaaGreatDoor
namespace Go.Proofs.YtjejejmeddkciaaGreatDoor
open Go.RowKit
open K (Ah)
attribute [-go_sem] loadCellsFrom
set_option maxHeartbeats 16000000
set_option maxRecDepth 100000
theorem Z6 {w:World} {J rc:Array Value} {A:Option Addr} {L c:Nat} {topo fr t pf pt dir:Int} (aC:J.size=10) (aA:J[1]?=some (.int .i64 topo)) (aB:J[2]?=some (.slice A L c)) (hL:L<=60)
  (aE:rc[2]?=some (.int .i64 fr)) (aF:rc[3]?=some (.int .i64 t)) (aG:rc[4]?=some (.int .i64 pf)) (aH:rc[5]?=some (.int .i64 pt)) (aD:rc[17]?=some (.int .i64 dir)):
  Calls Tryz.prog 52 #[.agg J,.agg rc] w (Ret fun v w'=>∃gd gm n,v=.pointer (some ⟨gd,0,none⟩)/\n<=10000/\DrS w w' gd gm (if dir=2 then Hg L topo pf pt fr t else Hg L topo fr t pf pt) n [] []):=by
 obtain⟨w1,c0,U,ao,-⟩:=Ae w J 27;obtain⟨w2,c4,V,E,-⟩:=Ae w1 rc 109;have aw:=(U.trans (V.mono U.size)).trans ((Ap w2).mono (U.trans (V.mono U.size)).size);have aa:=ao.below (V.trans ((Ap w2).mono V.size));have ab:=E.below (Ap w2);have bu:=Ah aa aC;have M:=ab.cell;have bD:=(M 2).trans aE;have bE:=(M 3).trans aF;have bF:=(M 4).trans aG;have bG:=(M 5).trans aH;have bC:=(M 17).trans aD;have bB:=hide aA;have aK:=hide (Xo (w0:=w) (ls:=[(w.heap.size,27,J),(w1.heap.size,109,rc)]) aw aB hL (fun x hx=>by
  simp only [List.mem_cons,List.not_mem_nil,or_false] at hx;rcases hx with rfl|rfl
  ·exact aa
  ·exact ab))
 clear M U V ao E aw aa ab aE aF aG aH aD aA aB aC;obtain⟨a,b,x,y,hT⟩:∃a b x y,Hid ((if dir=2 then Hg L topo pf pt fr t else Hg L topo fr t pf pt)=Hg L topo a b x y)/\Hid ((dir=2/\a=pf/\b=pt/\x=fr/\y=t)\/(dir≠2/\a=fr/\b=t/\x=pf/\y=pt)):=by
  by_cases h:dir=2
  ·exact⟨pf,pt,fr,t,if_pos h,.inl ⟨h,rfl,rfl,rfl,rfl⟩⟩
  ·exact⟨fr,t,pf,pt,if_neg h,.inr ⟨h,rfl,rfl,rfl,rfl⟩⟩
 rw [hT.1.out];rcases hT.2.out with⟨bo,rfl,rfl,rfl,rfl⟩|⟨bo,rfl,rfl,rfl,rfl⟩
 all_goals
  clear hT;have bV:(dir==2)=decide (dir=2):=rfl;go_enter Tryz.func52,Tryz.ntmps52;go_wp2_with fail;refine Reg.cP [0,1,0,4,0,16,0,64,3,271,831,2047] ?_;go_wp2_with fail;refine Calls.ret aK.out ?_;rintro v w3 ⟨gd,gm,rfl,hM,bb⟩;have D0:=hide (show DrS w w3 gd gm ⟨L,[],[],[],[]⟩ 0 _ [] from⟨_,_,_,hM,fun p hp=>by cases hp⟩);clear hM aK bu bb bD bE bF bG bC;go_wp2_with fail;refine Calls.ret (D0.out.state (0,0,0) (m:=1) (.inl ⟨rfl,rfl,rfl⟩) (by omega) rfl) ?_;rintro v w4 ⟨G,rfl,C⟩;have D1:=hide C;clear C;go_wp2_with fail;refine Calls.ret (D1.out.state (8,0,0) (m:=1) (.inl ⟨rfl,rfl,rfl⟩) (by omega) rfl) ?_;rintro v w5 ⟨e2,rfl,C⟩;have D2:=hide C;clear C;go_wp2_with fail;refine Calls.ret (D2.out.state (5,0,0) (m:=1) (.inl ⟨rfl,rfl,rfl⟩) (by omega) rfl) ?_;rintro v w6 ⟨e3,rfl,C⟩;have D3:=hide C;clear C;have C:=D3.out.push 3 #[.int .i64 (G:Int)];obtain⟨w7,bL,bc,aq,-⟩:=Ae w6 #[.int .i64 (G:Int)] 3;rw [bL] at C;have D4:=hide C;have bj:=aq.cell;clear C bc aq;obtain⟨⟨b9,O,aJ⟩,C⟩:=D4.out.begin (a:=(0,0,0)) (e:=G) (by simp only [Drw.add_st]) (by simp);obtain⟨w8,bM,-,-,-⟩:=Ae w7 #[.int .i64 (G:Int)] 3;rw [bM] at O C;have D5:=hide C;have ax:=O.cell;have bq:=O.frozen 2;have bt:=O.lt;obtain⟨u8,aL⟩:∃u,b9[2]?=some u:=⟨_,Array.getElem?_eq_getElem aJ⟩;have bk:=(ax 2).trans aL;clear C O ax aL aJ;go_wp2_with fail;refine Calls.ret (D5.out.free (L:=L) (s:=(5,0,0)) (es:=e3) (by simp only [Drw.add_L,Drw.kp_L,Drw.mov_L,Drw.acc_L,Drw.beg_L,Drw.free_L]) hL (by simp) (by omega)) ?_;rintro v w9 ⟨rfl,C⟩;have D6:=hide C;clear C;have bl:=(D6.out.blk (g:=w6.heap.size) (t:=3) (cs:=#[.int .i64 (G:Int)]) (by simp)).cell;clear bj bq bt bk;go_wp2_with fail;refine Calls.ret (D6.out.keep_ (L:=L) (F:=104) (caps:=[.pointer (some ⟨w6.heap.size,0,none⟩)]) (κ:=fun _=>some (0,0,0)) (f:=(0,0,0)) (ef:=G) (S0:=[((0,0,0),G)]) (by simp only [Drw.add_L,Drw.kp_L,Drw.mov_L,Drw.acc_L,Drw.beg_L,Drw.free_L]) hL (by simp) (by simp) (fun _ _=>Xk (.inr (.inl rfl)) (by simp)) (.inl ⟨_,rfl,.inr (.inl rfl)⟩) (by omega)) ?_;rintro v c7 ⟨rfl,C⟩;have D7:=hide C;clear C;have bd:=(D7.out.blk (g:=w6.heap.size) (t:=3) (cs:=#[.int .i64 (G:Int)]) (by simp)).cell;clear bl;go_wp2_with fail;refine Calls.ret (D7.out.move (a:=(0,0,0)) (b:=(8,0,0)) (ea:=G) (eb:=e2) (by simp) (by simp) (by omega)) ?_;rintro v c8 ⟨rfl,C⟩;have D8:=hide C;clear C;clear bd;go_wp2_with fail;refine Calls.ret (D8.out.move (a:=(8,0,0)) (b:=(5,0,0)) (ea:=e2) (eb:=e3) (by simp) (by simp) (by omega)) ?_;rintro v c9 ⟨rfl,C⟩;have D9:=hide C;clear C;have be:=((D9.out.blk (g:=w.heap.size) (t:=27) (cs:=J) (by simp)).cell 1).trans bB.out;by_cases a3:topo=3
  case neg=>
   have hP:Hid (Hg L topo a b x y=Wg L a b x y):=if_neg a3;have bJ:(topo==3)=false:=by simp [a3]
   go_wp2_with fail;go_ret;refine⟨gd,gm,500,rfl,by decide,?_⟩;rw [hP.out];exact(D9.out.big (by omega)).sub (fun _ h=>by cases h) (fun _ h=>by cases h)
  have hP:Hid (Hg L topo a b x y=WP (Wg L a b x y) a b x y):=if_pos a3;have bJ:(topo==3)=true:=by simp [a3]
  clear a3;go_wp2_with fail;refine Calls.ret (D9.out.state (0,1,0) (m:=2) (.inr (.inl ⟨rfl,rfl⟩)) (by omega) rfl) ?_;rintro v ca ⟨e4,rfl,C⟩;have E1:=hide C;clear C;clear be;go_wp2_with fail;refine Calls.ret (E1.out.state (7,0,0) (m:=1) (.inl ⟨rfl,rfl,rfl⟩) (by omega) rfl) ?_;rintro v cb ⟨I,rfl,C⟩;have E2:=hide C;clear C;go_wp2_with fail;refine Calls.ret (E2.out.state (6,0,0) (m:=1) (.inl ⟨rfl,rfl,rfl⟩) (by omega) rfl) ?_;rintro v a4 ⟨e6,rfl,C⟩;have E3:=hide C;clear C;have C:=E3.out.push 3 #[.int .i64 (I:Int)];obtain⟨cc,bK,ba,ap,-⟩:=Ae a4 #[.int .i64 (I:Int)] 3;rw [bK] at C;have E4:=hide C;have bf:=ap.cell;clear C ba ap;obtain⟨AS,mS,cS,⟨vA,vM,au⟩,bZ,xs,bz,az⟩:=E4.out.appS (a:=(0,1,0)) (e:=e4) (by simp) (by omega);have bm:=au.cell;have bw:=hide az;have bI:=E4.out.below.size;clear az au;go_wp2_with (at_builtin;refine BP C9 rfl _ _ rfl w.heap.size (.slice AS mS cS) mS _ rfl bz [.int .i64 (e4:Int)] 1 rfl rfl (by simp [Value.oneCell']) (by omega) bI ?_;intro g cap bP a2 W Z hg;obtain⟨⟨bN,bO,E⟩,C⟩:=bw.out g cap bP a2 W Z;have E5:=hide C;have bn:=(E5.out.blk (g:=a4.heap.size) (t:=3) (cs:=#[.int .i64 (I:Int)]) (by simp)).cell;have bp:=E.frozen 2;have bs:=E.lt;have bg:=E.cell;clear C E a2 W Z);refine Calls.ret (E5.out.move (a:=(0,1,0)) (b:=(7,0,0)) (ea:=e4) (eb:=I) (by simp) (by simp) (by omega)) ?_;rintro v cd ⟨rfl,C⟩;have E6:=hide C;clear C;have bh:=(E6.out.blk (g:=a4.heap.size) (t:=3) (cs:=#[.int .i64 (I:Int)]) (by simp)).cell;clear bn bp bs bg bm bf;go_wp2_with fail;refine Calls.ret (E6.out.keep_ (L:=L) (F:=106) (caps:=[.pointer (some ⟨a4.heap.size,0,none⟩)]) (κ:=fun _=>some (7,0,0)) (f:=(7,0,0)) (ef:=I) (S0:=[((7,0,0),I)]) (by simp only [Drw.add_L,Drw.kp_L,Drw.mov_L,Drw.acc_L,Drw.beg_L,Drw.free_L]) hL (by simp) (by simp) (fun _ _=>Xk (.inr (.inr rfl)) (by simp)) (.inl ⟨_,rfl,.inr (.inr rfl)⟩) (by omega)) ?_;rintro v ce ⟨rfl,C⟩;have E7:=hide C;clear C;have bi:=(E7.out.blk (g:=a4.heap.size) (t:=3) (cs:=#[.int .i64 (I:Int)]) (by simp)).cell;clear bh;go_wp2_with fail;refine Calls.ret (E7.out.move (a:=(7,0,0)) (b:=(6,0,0)) (ea:=I) (eb:=e6) (by simp) (by simp) (by omega)) ?_;rintro v cf ⟨rfl,C⟩;have E8:=hide C;clear C;obtain⟨AA,mA,cA,⟨c6,c5,ar⟩,bY,ys,bx,ay⟩:=E8.out.app (a:=(6,0,0)) (e:=e6) (by simp) (by omega);have bU:=ar.cell;have bv:=hide ay;have bH:=E8.out.below.size;clear ay ar bi;go_wp2_with (at_builtin;refine BP C9 rfl _ _ rfl w.heap.size (.slice AA mA cA) mA _ rfl bx [.int .i64 (e6:Int)] 1 rfl rfl (by simp [Value.oneCell']) (by omega) bH ?_;intro g2 b8 bQ a2 W Z hg;obtain⟨⟨bN,bO,E⟩,-,C⟩:=bv.out g2 b8 bQ a2 W Z;have E9:=hide C;have bW:=E.frozen 3;have bX:=E.lt;have bT:=E.cell;clear C E a2 W Z);go_ret;refine⟨gd,gm,500,rfl,by decide,?_⟩;rw [hP.out];exact(E9.out.big (by omega)).sub (fun _ h=>by cases h) (fun _ h=>by cases h)
end Go.Proofs.YtjejejmeddkciaaGreatDoor
