/-
  Part TA of a proof.
-/
import Derived.Test.YtfcfpoemojjglaaGreatDoorPA
import Derived.Test.YtfcfpoemojjglaaGreatDoorSD
import Derived.Test.YtfcfpoemojjglaaGreatDoorPE
set_option maxHeartbeats 16000000
set_option maxRecDepth 100000
set_option linter.unusedVariables false
set_option linter.unusedSimpArgs false
namespace Go.Proofs.YtfcfpoemojjglaaGreatDoor
open Go.RowKit
attribute [-go_sem] loadCellsFrom
set_option maxHeartbeats 16000000
set_option maxRecDepth 100000
structure MkM (w0 wr:World) (gd L n ns na nm nt:Nat) (vS vA vM:Value) (xs ys zs:List Value) (ls:Lst):Prop where
 below:Below w0.heap.size w0 wr
 bd:Blk wr gd 164 #[.int .i64 (L:Int),.int .i64 (nt:Int),vS,vA,vM]
 st:wr.ownsRow w0.heap.size 3 1 vS ns xs
 ac:wr.ownsRow w0.heap.size 3 1 vA na ys
 mv:wr.ownsRow w0.heap.size 108 4 vM nm zs
 sz:ns≤n∧na≤n∧nm≤n∧nt≤n
 sep:∀g,vS.ownBlock=some g→vA.ownBlock≠some g
 oth:∀x∈ls,Blk wr x.1 x.2.1 x.2.2∧x.1≠gd∧vS.ownBlock≠some x.1∧vA.ownBlock≠some x.1∧vM.ownBlock≠some x.1
 ge:w0.heap.size≤gd
section
variable {w0 wr w':World} {gd L n ns na nm nt:Nat} {vS vA vM:Value} {xs ys zs:List Value} {ls ls':Lst}
theorem MkM.keep (h:MkM w0 wr gd L n ns na nm nt vS vA vM xs ys zs ls) (y:Below wr.heap.size wr w'):MkM w0 w' gd L n ns na nm nt vS vA vM xs ys zs ls:=
 ⟨h.below.trans (y.mono h.below.size),h.bd.below y,Bt h.st y,Bt h.ac y,Bt h.mv y,h.sz,h.sep,fun x C=>⟨(h.oth x C).1.below y,(h.oth x C).2⟩,h.ge⟩
theorem MkM.push (h:MkM w0 wr gd L n ns na nm nt vS vA vM xs ys zs ls) (t:TypeId) (cs:Array Value):MkM w0 (wr.alloc (.cells cs t)) gd L n ns na nm nt vS vA vM xs ys zs ((wr.heap.size,t,cs)::ls):=by
 obtain⟨G,F,E,C,-⟩:=Ae wr cs t
 rw [F]
 have h1:=h.keep E
 refine⟨h1.below,h1.bd,h1.st,h1.ac,h1.mv,h1.sz,h1.sep,fun x y=>?_,h1.ge⟩
 rcases List.mem_cons.1 y with rfl | y
 ·have:=h.bd.lt
  exact⟨C,by show wr.heap.size≠gd; omega,fun e=>absurd (Cj h.st e) (by show ¬wr.heap.size<_; omega),fun e=>absurd (Cj h.ac e) (by show ¬wr.heap.size<_; omega),fun e=>absurd (Cj h.mv e) (by show ¬wr.heap.size<_; omega)⟩
 ·exact h1.oth x y
theorem MkM.addN (h:MkM w0 wr gd L n ns na nm nt vS vA vM xs ys zs ls):MkM w0 (wr.setCell ⟨gd,1,none⟩ (.int .i64 ((nt:Int)+1))) gd L (n+1) ns na nm (nt+1) vS vA vM xs ys zs ls:=by
 have hk:=(Ac.refl wr (fun k=>k=gd)).setCell (p:=⟨gd,1,none⟩) (fun _=>rfl) (.int .i64 ((nt:Int)+1))
 have F:=h.ge
 have I:=h.sz
 have ho:∀{e m:Nat} {sz:Nat} {v:Value} {C:List Value},e≠164→wr.ownsRow w0.heap.size e sz v m C→(wr.setCell ⟨gd,1,none⟩ (.int .i64 ((nt:Int)+1))).ownsRow w0.heap.size e sz v m C:=fun E ho=>hk.ownsRow ho fun g G e=>by
  subst e
  exact Aw ho h.bd E G
 refine⟨h.below.trans (hk.below h.below.size fun b hb (e:b=gd)=>by omega),?_,ho (by decide) h.st,ho (by decide) h.ac,ho (by decide) h.mv,by omega,h.sep,fun x y=>⟨(h.oth x y).1.kept hk (h.oth x y).2.1,(h.oth x y).2⟩,F⟩
 have:=h.bd.set_ 1 (.int .i64 ((nt:Int)+1))
 have e:((nt+1:Nat):Int)=(nt:Int)+1:=by omega
 rw [e]
 exact this
theorem MkM.addM {C:Value} {E:World} {u:List Value} (h:MkM w0 wr gd L n ns na nm nt vS vA vM xs ys zs ls) (M:Ac wr E (fun k=>vM.ownBlock=some k))
  (ho:E.ownsRow w0.heap.size 108 4 C (nm+1) u) (a2:BJ wr vM C):MkM w0 (E.setCell ⟨gd,4,none⟩ C) gd L (n+1) ns na (nm+1) nt vS vA C xs ys u ls:=by
 have I:=h.bd.kept M (Aw h.mv h.bd (by decide))
 have O:=(Ac.refl E (fun k=>k=gd)).setCell (p:=⟨gd,4,none⟩) (fun _=>rfl) C
 have F:Ac wr (E.setCell ⟨gd,4,none⟩ C) (fun k=>vM.ownBlock=some k∨k=gd):=(M.mono fun _ _ e=>.inl e).trans O fun _ _ e=>.inr e
 have Z:=h.ge
 have a4:=h.sz
 have U:∀{m:Nat} {sz:Nat} {v:Value} {V:List Value},wr.ownsRow w0.heap.size 3 sz v m V→(E.setCell ⟨gd,4,none⟩ C).ownsRow w0.heap.size 3 sz v m V:=fun G=>F.ownsRow G fun g J e=>by
  rcases e with e | rfl
  ·exact WO G h.mv (by decide) J e
  ·exact Aw G h.bd (by decide) J
 refine⟨h.below.trans (F.below h.below.size fun b hb e=>?_),I.set_ 4 C,U h.st,U h.ac,AK O ho (fun g cs e W=>by subst e; exact W.ne_ I (by decide) rfl),by omega,h.sep,fun x y=>⟨(h.oth x y).1.kept F ?_,(h.oth x y).2.1,(h.oth x y).2.2.1,(h.oth x y).2.2.2.1,a2.ne (h.oth x y).1.lt (h.oth x y).2.2.2.2⟩,Z⟩
 ·rcases e with e | e
  ·have:=Bb h.mv e; omega
  ·omega
 ·rintro(e | e)
  ·exact(h.oth x y).2.2.2.2 e
  ·exact(h.oth x y).2.1 e
theorem MkM.addA {vA':Value} {E:World} {u:List Value} (h:MkM w0 wr gd L n ns na nm nt vS vA vM xs ys zs ls) (W:na+1≤n) (I:Ac wr E (fun k=>vA.ownBlock=some k))
  (ho:E.ownsRow w0.heap.size 3 1 vA' (na+1) u) (M:BJ wr vA vA'):MkM w0 (E.setCell ⟨gd,3,none⟩ vA') gd L n ns (na+1) nm nt vS vA' vM xs u zs ls:=by
 have G:=h.bd.kept I (Aw h.ac h.bd (by decide))
 have J:=(Ac.refl E (fun k=>k=gd)).setCell (p:=⟨gd,3,none⟩) (fun _=>rfl) vA'
 have F:Ac wr (E.setCell ⟨gd,3,none⟩ vA') (fun k=>vA.ownBlock=some k∨k=gd):=(I.mono fun _ _ e=>.inl e).trans J fun _ _ e=>.inr e
 have U:=h.ge
 have Z:=h.sz
 refine⟨h.below.trans (F.below h.below.size fun b V e=>?_),G.set_ 3 vA',F.ownsRow h.st fun g y e=>?_,AK J ho (fun g cs e O=>by subst e; exact O.ne_ G (by decide) rfl),F.ownsRow h.mv fun g y e=>?_,by omega,fun g y e=>?_,fun x C=>⟨(h.oth x C).1.kept F ?_,(h.oth x C).2.1,(h.oth x C).2.2.1,M.ne (h.oth x C).1.lt (h.oth x C).2.2.2.1,(h.oth x C).2.2.2.2⟩,U⟩
 ·rcases e with e | e
  ·have:=Bb h.ac e; omega
  ·omega
 ·rcases e with e | rfl
  ·exact h.sep g y e
  ·exact Aw h.st h.bd (by decide) y
 ·rcases e with e | rfl
  ·exact WO h.mv h.ac (by decide) y e
  ·exact Aw h.mv h.bd (by decide) y
 ·exact M.ne (Cj h.st y) (h.sep g y) e
 ·rintro(e | e)
  ·exact(h.oth x C).2.2.2.1 e
  ·exact(h.oth x C).2.1 e
theorem MkM.addS {E:Value} {F:World} {u:List Value} (h:MkM w0 wr gd L n ns na nm nt vS vA vM xs ys zs ls) (hn:ns+1≤n) (J:Ac wr F (fun k=>vS.ownBlock=some k))
  (ho:F.ownsRow w0.heap.size 3 1 E (ns+1) u) (O:BJ wr vS E):MkM w0 (F.setCell ⟨gd,2,none⟩ E) gd L n (ns+1) na nm nt E vA vM u ys zs ls:=by
 have I:=h.bd.kept J (Aw h.st h.bd (by decide))
 have M:=(Ac.refl F (fun k=>k=gd)).setCell (p:=⟨gd,2,none⟩) (fun _=>rfl) E
 have G:Ac wr (F.setCell ⟨gd,2,none⟩ E) (fun k=>vS.ownBlock=some k∨k=gd):=(J.mono fun _ _ e=>.inl e).trans M fun _ _ e=>.inr e
 have W:=h.ge
 have a3:=h.sz
 refine⟨h.below.trans (G.below h.below.size fun b Z e=>?_),I.set_ 2 E,AK M ho (fun g cs e V=>by subst e; exact V.ne_ I (by decide) rfl),G.ownsRow h.ac fun g y e=>?_,G.ownsRow h.mv fun g y e=>?_,by omega,fun g y e=>?_,fun x C=>⟨(h.oth x C).1.kept G ?_,(h.oth x C).2.1,O.ne (h.oth x C).1.lt (h.oth x C).2.2.1,(h.oth x C).2.2.2⟩,W⟩
 ·rcases e with e | e
  ·have:=Bb h.st e; omega
  ·omega
 ·rcases e with e | rfl
  ·exact h.sep g e y
  ·exact Aw h.ac h.bd (by decide) y
 ·rcases e with e | rfl
  ·exact WO h.mv h.st (by decide) y e
  ·exact Aw h.mv h.bd (by decide) y
 ·exact O.ne (Cj h.ac e) (fun U=>h.sep g U e) y
 ·rintro(e | e)
  ·exact(h.oth x C).2.2.1 e
  ·exact(h.oth x C).2.1 e
end
def MkS (w0 wr:World) (gd L n:Nat) (ls:Lst):Prop:=∃ns na nm nt vS vA vM xs ys zs,MkM w0 wr gd L n ns na nm nt vS vA vM xs ys zs ls
section
variable {w0 wr w':World} {gd L n:Nat} {ls ls':Lst}
theorem MkS.keep (h:MkS w0 wr gd L n ls) (x:Below wr.heap.size wr w'):MkS w0 w' gd L n ls:=by
 obtain⟨ns,na,nm,nt,vS,vA,vM,xs,ys,zs,h⟩:=h
 exact⟨ns,na,nm,nt,vS,vA,vM,xs,ys,zs,h.keep x⟩
theorem MkS.push (h:MkS w0 wr gd L n ls) (t:TypeId) (cs:Array Value):MkS w0 (wr.alloc (.cells cs t)) gd L n ((wr.heap.size,t,cs)::ls):=by
 obtain⟨ns,na,nm,nt,vS,vA,vM,xs,ys,zs,h⟩:=h
 exact⟨ns,na,nm,nt,vS,vA,vM,xs,ys,zs,h.push t cs⟩
theorem MkS.big (h:MkS w0 wr gd L n ls) {m:Nat} (x:n≤m):MkS w0 wr gd L m ls:=by
 obtain⟨ns,na,nm,nt,vS,vA,vM,xs,ys,zs,h⟩:=h
 have:=h.sz
 exact⟨ns,na,nm,nt,vS,vA,vM,xs,ys,zs,h.below,h.bd,h.st,h.ac,h.mv,by omega,h.sep,h.oth,h.ge⟩
theorem MkS.sub (h:MkS w0 wr gd L n ls) (y:∀x∈ls',x∈ls):MkS w0 wr gd L n ls':=by
 obtain⟨ns,na,nm,nt,vS,vA,vM,xs,ys,zs,h⟩:=h
 exact⟨ns,na,nm,nt,vS,vA,vM,xs,ys,zs,h.below,h.bd,h.st,h.ac,h.mv,h.sz,h.sep,fun x C=>h.oth x (y x C),h.ge⟩
theorem MkS.blk (h:MkS w0 wr gd L n ls) {g:Nat} {t:TypeId} {cs:Array Value} (x:(g,t,cs)∈ls):Blk wr g t cs:=by
 obtain⟨ns,na,nm,nt,vS,vA,vM,xs,ys,zs,h⟩:=h
 exact(h.oth _ x).1
theorem MkS.below (h:MkS w0 wr gd L n ls):Below w0.heap.size w0 wr:=by
 obtain⟨ns,na,nm,nt,vS,vA,vM,xs,ys,zs,h⟩:=h
 exact h.below
theorem MkS.pushE (h:MkS w0 wr gd L n ls) (t:TypeId) (cs:Array Value):∃wn,wr.alloc (.cells cs t)=wn∧Hid (MkS w0 wn gd L n ((wr.heap.size,t,cs)::ls))∧wr.heap.size<wn.heap.size:=
 ⟨_,rfl,h.push t cs,by simp⟩
theorem MkS.let_ (h:MkS w0 wr gd L n ls):wr.cell? ⟨gd,0,none⟩=some (.int .i64 (L:Int)):=by
 obtain⟨ns,na,nm,nt,vS,vA,vM,xs,ys,zs,h⟩:=h
 exact h.bd.cell 0
theorem MkS.move {a i o b:Int} (h:MkS w0 wr gd L n ls) (hn:n≤1000000):
  Calls Tryz.prog 196 #[.pointer (some ⟨gd,0,none⟩),.int .i64 a,.int .i64 i,.int .i64 o,.int .i64 b] wr (Ret fun v w'=>v=.tuple #[]∧MkS w0 w' gd L (n+1) ls):=by
 obtain⟨ns,na,nm,nt,vS,vA,vM,xs,ys,zs,h⟩:=h
 have Z:=h.bd.cell
 have C:=h.mv
 obtain⟨G,I,rfl⟩:=AH C
 have V:=h.sz
 have a5:nm≤1000000:=by omega
 have U:=h.below.size
 have x:=hide h
 have F:=hide C
 clear h V C
 go_enter Tryz.func196,Tryz.ntmps196
 go_wp2_with (at_builtin; refine BP Yb rfl _ _ rfl w0.heap.size (.slice G nm I) nm _ rfl F.out [.int .i64 a,.int .i64 i,.int .i64 o,.int .i64 b] 1 rfl rfl (by simp [Value.oneCell']) (by omega) U ?_; intro g cap w2 O E M a3; have y:=x.out.bd.kept E (Aw F.out x.out.bd (by decide)); have W:=y.cell; have a2:=y.frozen 4; have a4:=y.lt; have J:=hide (x.out.addM E O M))
 exact bodyPost_ret (v:=.tuple #[]) (by simp [results,Tryz.results196,go_sem]) rfl ⟨rfl,_,_,_,_,_,_,_,_,_,_,J.out⟩
end
theorem G4 {s a:Bool} {w0 wr:World} {gd L n:Nat} {ls:Lst} (h:MkS w0 wr gd L n ls) (hn:n≤1000000) (a7:s=false∨a=false):
  Calls Tryz.prog 195 #[.pointer (some ⟨gd,0,none⟩),.bool s,.bool a] wr (Ret fun v w'=>(∃e:Int,v=.int .i64 e)∧MkS w0 w' gd L (n+1) ls):=by
 obtain⟨ns,na,nm,nt,vS,vA,vM,xs,ys,zs,h⟩:=h
 have ab:=h.bd.cell
 have ad:=h.bd.frozen 1
 have ae:=h.bd.lt
 obtain⟨W,cS,rfl⟩:=AH h.st
 obtain⟨V,Z,rfl⟩:=AH h.ac
 have M:=h.sz
 have aj:=h.below.size
 have h1:=h.addN
 obtain⟨U,I⟩:∃U,U=wr.setCell ⟨gd,1,none⟩ (.int .i64 ((nt:Int)+1)):=⟨_,rfl⟩
 rw [←I] at h1
 have ak:=I.symm
 clear I
 have aa:=h1.bd.cell
 have J:=h1.below.size
 have x:=hide h1
 have e0:(0:Int)≤nt:=by omega
 have ai:nt≤1000000:=by omega
 have ah:ns≤1000000:=by omega
 have ag:na≤1000000:=by omega
 have O:=hide M
 clear h h1 M
 cases s
 ·cases a
  ·go_enter Tryz.func195,Tryz.ntmps195
   go_wp2_with fail
   exact bodyPost_ret (v:=.int .i64 (nt:Int)) (by simp [results,Tryz.results195,go_sem]) rfl ⟨⟨_,rfl⟩,_,_,_,_,_,_,_,_,_,_,x.out⟩
  ·go_enter Tryz.func195,Tryz.ntmps195
   go_wp2_with (at_builtin; refine BP C9 rfl _ _ rfl w0.heap.size (.slice V na Z) na _ rfl x.out.ac [.int .i64 (nt:Int)] 1 rfl rfl (by simp [Value.oneCell']) (by omega) J ?_; intro g cap w2 G C F a5; have y:=x.out.bd.kept C (Aw x.out.ac x.out.bd (by decide)); have a3:=y.cell; have a4:=y.frozen 3; have a6:=y.lt; have E:=hide (x.out.addA (by have:=O.out; omega) C G F))
   exact bodyPost_ret (v:=.int .i64 (nt:Int)) (by simp [results,Tryz.results195,go_sem]) rfl ⟨⟨_,rfl⟩,_,_,_,_,_,_,_,_,_,_,E.out⟩
 ·cases a
  ·go_enter Tryz.func195,Tryz.ntmps195
   go_wp2_with (at_builtin; refine BP C9 rfl _ _ rfl w0.heap.size (.slice W ns cS) ns _ rfl x.out.st [.int .i64 (nt:Int)] 1 rfl rfl (by simp [Value.oneCell']) (by omega) J ?_; intro g cap w2 G C F a5; have y:=x.out.bd.kept C (Aw x.out.st x.out.bd (by decide)); have a3:=y.cell; have a4:=y.frozen 2; have a6:=y.lt; have E:=hide (x.out.addS (by have:=O.out; omega) C G F))
   exact bodyPost_ret (v:=.int .i64 (nt:Int)) (by simp [results,Tryz.results195,go_sem]) rfl ⟨⟨_,rfl⟩,_,_,_,_,_,_,_,_,_,_,E.out⟩
  ·exact absurd a7 (by decide)
theorem Wm (b:Bool) (w:World):Calls Tryz.prog 198 #[.bool b] w fun e w'=>e=.returned (.int .i64 (Ab b:Int))∧w=w':=by
 cases b
 all_goals
  go_enter Tryz.func198,Tryz.ntmps198
  go_wp2_with fail
  go_ret
  exact⟨rfl,rfl⟩
theorem WE {w:World} {B:Nat} {A:Option Addr} {c:Nat} {l:List Int} (n:Int) (h:Sl w B 1 Ai A l):
  Calls Tryz.prog 197 #[.slice A l.length c,.int .i64 n] w fun e w'=>(∃b,e=.returned (.bool b))∧w=w':=by
 have y:=h.1
 have x:=hide (has_any (c:=c) n h)
 obtain⟨k,hk⟩:∃k,k=l.length:=⟨_,rfl⟩
 rw [←hk] at y x ⊢
 clear h hk
 go_enter Tryz.func197,Tryz.ntmps197
 by_cases h0:k=0
 ·subst h0
  go_wp2_with fail
  go_ret
  exact⟨⟨_,rfl⟩,rfl⟩
 ·have h1:((k:Int)==0)=false:=by simp; omega
  go_wp2_with fail
  refine Calls.mono x.out ?_
  rintro e C ⟨rfl,rfl⟩
  go_wp2_with fail
  go_ret
  exact⟨⟨_,rfl⟩,rfl⟩
end Go.Proofs.YtfcfpoemojjglaaGreatDoor
namespace Go.Proofs.YtfcfpoemojjglaaGreatDoor
open Go.RowKit
attribute [-go_sem] loadCellsFrom
set_option maxHeartbeats 16000000
set_option maxRecDepth 100000
theorem ZQ {w0 w:World} {gd L n:Nat} {ls:Lst} {rc:Array Value} {left right:List Int} {f t at_:Int} (h:MkS w0 w gd L n ls) (hL:L≤60) (hr:K4 w0 rc f t left right) (af:rc[13]?=some (.int .i64 at_)) (hn:n≤100000):
  Calls Tryz.prog 160 #[.pointer (some ⟨gd,0,none⟩),.agg rc] w (Ret fun v w'=>v=.tuple #[]∧MkS w0 w' gd L (n+400) ls):=by
 obtain⟨r2,r3,⟨AL,cL,ag,sL⟩,⟨AR,cR,ah,sR⟩⟩:=hr
 obtain⟨w1,b9,aa,b0⟩:=h.pushE 99 rc
 have m3:(w.heap.size,99,rc)∈((w.heap.size,99,rc)::ls):=List.mem_cons_self
 have aE:Hid (∀J (x:Int),Below w0.heap.size w0 J→Calls Tryz.prog 197 #[.slice AL left.length cL,.int .i64 x] J fun e w'=>(∃b,e=.returned (.bool b))∧J=w'):=hide fun J x hb=>WE x (sL.below hb)
 have aF:Hid (∀J (x:Int),Below w0.heap.size w0 J→Calls Tryz.prog 197 #[.slice AR right.length cR,.int .i64 x] J fun e w'=>(∃b,e=.returned (.bool b))∧J=w'):=hide fun J x hb=>WE x (sR.below hb)
 have bg:=hide ag
 have aK:=hide ah
 have b7:=sL.1
 have b8:=sR.1
 have c0:=aa.out.let_
 generalize left.length=nl at*
 generalize right.length=nr at*
 clear sL sR h
 have D1:=hide (aa.out.keep (Ap w1))
 have am:=((D1.out.blk m3).cell 15).trans ah
 have aX:((nr:Int)==0)=decide (nr=0):=by rw [Bool.eq_iff_iff]; simp
 have ab:(at_ != 2)=true∨(at_ != 2)=false:=by cases (at_ != 2) <;> simp
 have V:(at_ != 1)=true∨(at_ != 1)=false:=by cases (at_ != 1) <;> simp
 go_enter Tryz.func160,Tryz.ntmps160
 go_wp2_with fail
 refine Reg.cI [0,1,0,0,8,24,56,127,0,511,1023,2047,4095] [0,2,3,4,5,6,8,1,7,9,10,11,12] ?_
 refine Reg.wI [0,2,3,4,5,6,8] [1,7,9,10,11,12] rfl fun Qf C=>?_
 go_wp2_with fail
 first | refine C _ _ ⟨rfl,?_⟩ | refine⟨rfl,?_⟩ | refine C _ _ ⟨by simp [Reg.fineT,Reg.intOp,Region.wanted,yielded,Reg.intFine,Reg.isInt,Act.eval],?_⟩
 try clear C
 refine Reg.aI 1 [7,9,10,11,12] [4] rfl fun Qf C=>?_
 try simp only [gT,gS,gZ]
 go_wp2_with fail
 refine Calls.ret (G4 D1.out (by omega) (.inr rfl)) ?_
 rintro v w2 ⟨⟨e2,rfl⟩,y⟩
 have O:=hide y
 clear y
 have ae:=((O.out.blk m3).cell 15).trans aK.out
 go_wp2_with fail
 first | refine C _ _ ⟨?_,?_⟩ | refine⟨?_,?_⟩
 ·intro z hz q hq
  simp only [List.mem_cons,List.not_mem_nil,or_false] at hz
  subst hz
  injection hq with hq
  subst hq
  exact Reg.same_load1 rfl rfl (am) (ae) Tryz.underlying24 rfl
 try clear C
 refine Reg.aI 7 [9,10,11,12] [] rfl fun Qf C=>?_
 try simp only [gT,gS,gZ]
 go_wp2_with fail
 refine Calls.ret (G4 O.out (by omega) (.inl rfl)) ?_
 rintro v w3 ⟨⟨e3,rfl⟩,y⟩
 have W:=hide y
 clear y
 go_wp2_with fail
 first | refine C _ _ ⟨Reg.nm,?_⟩ | refine⟨Reg.nm,?_⟩
 try clear C
 refine Reg.aI 9 [10,11,12] [] rfl fun Qf C=>?_
 try simp only [gT,gS,gZ]
 go_wp2_with fail
 refine Calls.ret (G4 W.out (by omega) (.inl rfl)) ?_
 rintro v w4 ⟨⟨e4,rfl⟩,y⟩
 have D4:=hide y
 clear y
 go_wp2_with fail
 first | refine C _ _ ⟨Reg.nm,?_⟩ | refine⟨Reg.nm,?_⟩
 try clear C
 refine Reg.wI [10,11,12] [] rfl fun Qf C=>?_
 go_wp2_with fail
 first | refine C _ _ ⟨rfl,?_⟩ | refine⟨rfl,?_⟩ | refine C _ _ ⟨by simp [Reg.fineT,Reg.intOp,Region.wanted,yielded,Reg.intFine,Reg.isInt,Act.eval],?_⟩
 try clear C
 first | refine Reg.restI_end ?_ | skip
 go_wp2_with fail
 refine Calls.ret (G4 D4.out (by omega) (.inl rfl)) ?_
 rintro v w5 ⟨⟨e5,rfl⟩,y⟩
 have G:=hide y
 clear y
 go_wp2_with fail
 refine Calls.ret (G4 G.out (by omega) (.inl rfl)) ?_
 rintro v w6 ⟨⟨e6,rfl⟩,y⟩
 have D6:=hide y
 clear y
 obtain⟨w7,ba,D7,b4⟩:=D6.out.pushE 3 #[.int .i64 e5,.int .i64 e6]
 obtain⟨a7,Z⟩:∃l:Lst,l=(w6.heap.size,3,#[.int .i64 e5,.int .i64 e6])::(w.heap.size,99,rc)::ls:=⟨_,rfl⟩
 rw [←Z] at D7
 have M:(w6.heap.size,3,#[.int .i64 e5,.int .i64 e6])∈a7:=by rw [Z]; simp
 have E:(w.heap.size,99,rc)∈a7:=by rw [Z]; simp
 have a6:∀x∈ls,x∈a7:=by rw [Z]; intro x hx; simp [hx]
 clear Z D1 O W D4 G D6 aa am ae
 go_wp2_with fail
 go_loopw [9] (fun ii wr=>∃(x:Nat),ii=.int .i64 (x:Int)∧x≤L∧Hid (MkS w0 wr gd L (n+5+5*x) a7)) (fun ii _=>L - (intOf ii).toNat)
 case atStart=>exact⟨0,rfl,Nat.zero_le _,D7⟩
 case round=>
  obtain⟨x,rfl,hx,F⟩:=hrel
  by_cases b5:x<L
  ·have ax:=((F.out.blk E).cell 14).trans ag
   go_wp2_with fail
   refine Calls.mono (aE.out _ _ F.out.below) ?_
   rintro e wb ⟨⟨b,rfl⟩,rfl⟩
   go_wp2_with fail
   refine Calls.mono (Wm b _) ?_
   rintro e wb ⟨rfl,rfl⟩
   obtain⟨q,ao,hq⟩:∃q,Ab b=q∧q<2:=⟨_,rfl,by cases b <;> decide⟩
   rw [ao]
   clear ao
   obtain⟨ev,aD⟩:∃ev,(#[Value.int .i64 e5,.int .i64 e6]:Array Value)[q]?=some (.int .i64 ev):=by match q,hq with | 0,_=>exact⟨_,rfl⟩ | 1,_=>exact⟨_,rfl⟩
   have aY:=((F.out.blk M).cell q).trans aD
   go_wp2_with fail
   refine Calls.ret (F.out.move (by omega)) ?_
   rintro v w2 ⟨rfl,y⟩
   have O:=hide y
   clear y
   have p0:=(O.out.blk M).cell 0
   go_wp2_with fail
   refine Calls.ret (O.out.move (by omega)) ?_
   rintro v w3 ⟨rfl,y⟩
   have W:=hide y
   clear y
   have p1:=(W.out.blk M).cell 1
   go_wp2_with fail
   refine Calls.ret (W.out.move (by omega)) ?_
   rintro v w4 ⟨rfl,y⟩
   have D4:=hide y
   clear y
   go_wp2_with fail
   refine Calls.ret (D4.out.move (by omega)) ?_
   rintro v w5 ⟨rfl,y⟩
   have G:=hide y
   clear y
   have aJ:=((G.out.blk E).cell 13).trans af
   have ae:=((G.out.blk E).cell 15).trans ah
   rcases ab with ab | ab
   ·go_wp2_with fail
    refine Calls.mono (aF.out _ _ G.out.below) ?_
    rintro e wb ⟨⟨b2,rfl⟩,rfl⟩
    cases b2
    ·go_wp2_with fail
     exact⟨⟨x+1,by go_num,by omega,hide (G.out.big (by omega))⟩,by simp [intOf]; omega⟩
    ·go_wp2_with fail
     refine Calls.ret (G.out.move (by omega)) ?_
     rintro v w6 ⟨rfl,y⟩
     have D6:=hide y
     clear y
     go_wp2_with fail
     exact⟨⟨x+1,by go_num,by omega,hide (D6.out.big (by omega))⟩,by simp [intOf]; omega⟩
   ·go_wp2_with fail
    exact⟨⟨x+1,by go_num,by omega,hide (G.out.big (by omega))⟩,by simp [intOf]; omega⟩
  ·obtain rfl:x=L:=by omega
   have c2:=((F.out.blk E).cell 2).trans r2
   have c3:=((F.out.blk E).cell 3).trans r3
   have aS:=((F.out.blk E).cell 13).trans af
   have ax:=((F.out.blk E).cell 14).trans ag
   have aT:=(F.out.blk M).cell 1
   by_cases aG:nl=0
   ·subst aG
    go_wp2_with fail
    refine Calls.ret (F.out.move (by omega)) ?_
    rintro v w8 ⟨rfl,y⟩
    have U:=hide y
    clear y
    have p2:=((U.out.blk E).cell 2).trans r2
    have p3:=((U.out.blk E).cell 3).trans r3
    have aJ:=((U.out.blk E).cell 13).trans af
    have bf:=(U.out.blk M).cell 1
    have I:=hide (U.out.keep (Ap _))
    have d2:=((I.out.blk E).cell 2).trans r2
    have d3:=((I.out.blk E).cell 3).trans r3
    have aC:=(I.out.blk M).cell 1
    rcases V with V | V
    ·go_wp2_with fail
     refine Reg.cP [0,0,2,6,0,16,0,64,0,511] ?_
     go_wp2_with fail
     refine Calls.ret (I.out.move (by omega)) ?_
     rintro v w9 ⟨rfl,y⟩
     have D9:=hide y
     clear y
     go_wp2_with fail
     exact bodyPost_ret (v:=.tuple #[]) (by simp [results,Tryz.results160,go_sem]) rfl ⟨rfl,(D9.out.sub a6).big (by omega)⟩
    ·go_wp2_with fail
     exact bodyPost_ret (v:=.tuple #[]) (by simp [results,Tryz.results160,go_sem]) rfl ⟨rfl,(U.out.sub a6).big (by omega)⟩
   ·have aZ:((nl:Int)==0)=false:=by simp; omega
    have I:=hide (F.out.keep (Ap _))
    have d2:=((I.out.blk E).cell 2).trans r2
    have d3:=((I.out.blk E).cell 3).trans r3
    have aC:=(I.out.blk M).cell 1
    rcases V with V | V
    ·go_wp2_with fail
     refine Reg.cP [0,0,2,6,0,16,0,64,0,511] ?_
     go_wp2_with fail
     refine Calls.ret (I.out.move (by omega)) ?_
     rintro v w9 ⟨rfl,y⟩
     have D9:=hide y
     clear y
     go_wp2_with fail
     exact bodyPost_ret (v:=.tuple #[]) (by simp [results,Tryz.results160,go_sem]) rfl ⟨rfl,(D9.out.sub a6).big (by omega)⟩
    ·go_wp2_with fail
     exact bodyPost_ret (v:=.tuple #[]) (by simp [results,Tryz.results160,go_sem]) rfl ⟨rfl,(F.out.sub a6).big (by omega)⟩
theorem ZR {w0 w:World} {gd L n:Nat} {ls:Lst} {rc:Array Value} {ring:Bool} {fr t pf pt dir:Int} (h:MkS w0 w gd L n ls) (hL:L≤60) (r2:rc[2]?=some (.int .i64 fr)) (r3:rc[3]?=some (.int .i64 t)) (r4:rc[4]?=some (.int .i64 pf)) (r5:rc[5]?=some (.int .i64 pt)) (a3:rc[17]?=some (.int .i64 dir)) (hn:n≤100000):
  Calls Tryz.prog 158 #[.pointer (some ⟨gd,0,none⟩),.agg rc,.bool ring] w (Ret fun v w'=>v=.tuple #[]∧MkS w0 w' gd L (n+400) ls):=by
 obtain⟨w1,ax,I,ar⟩:=h.pushE 99 rc
 have U:(w.heap.size,99,rc)∈((w.heap.size,99,rc)::ls):=List.mem_cons_self
 have Z:∀x∈ls,x∈((w.heap.size,99,rc)::ls):=fun x hx=>List.mem_cons_of_mem _ hx
 have c0:=I.out.let_
 have G:=I.out.blk U
 have c2:=(G.cell 2).trans r2
 have c3:=(G.cell 3).trans r3
 have c4:=(G.cell 4).trans r4
 have c5:=(G.cell 5).trans r5
 have aj:=((I.out.blk U).cell 17).trans a3
 have D1:=hide (I.out.keep (Ap w1))
 generalize (w.heap.size,99,rc)::ls=ls2 at*
 clear h r2 r3 r4 r5 a3 U
 have O:(dir==2)=true∨(dir==2)=false:=by cases (dir==2) <;> simp
 rcases O with O | O
 all_goals
  go_enter Tryz.func158,Tryz.ntmps158
  go_wp2_with fail
  refine Reg.cP [0,1,0,4,0,16,0,64,3,271,831,2047] ?_
  go_wp2_with fail
  refine Calls.ret (G4 D1.out (by omega) (.inr rfl)) ?_
  rintro v w2 ⟨⟨e2,rfl⟩,C⟩
  have D2:=hide C
  clear C
  go_wp2_with fail
  refine Calls.ret (G4 D2.out (by omega) (.inl rfl)) ?_
  rintro v w3 ⟨⟨e3,rfl⟩,C⟩
  have D3:=hide C
  clear C
  go_wp2_with fail
  refine Calls.ret (G4 D3.out (by omega) (.inl rfl)) ?_
  rintro v w4 ⟨⟨e4,rfl⟩,C⟩
  have D4:=hide C
  clear C
  go_wp2_with fail
  go_loopw [14] (fun E wr=>∃(x:Nat),E=.int .i64 (x:Int)∧x≤L∧Hid (MkS w0 wr gd L (n+3+2*x) ls2)) (fun E _=>L - (intOf E).toNat)
  case atStart=>exact⟨0,rfl,Nat.zero_le _,D4⟩
  case round=>
   obtain⟨x,rfl,hx,V⟩:=hrel
   by_cases au:x<L
   ·go_wp2_with fail
    refine Calls.ret (V.out.move (by omega)) ?_
    rintro v w5 ⟨rfl,C⟩
    have M:=hide C
    clear C
    go_wp2_with fail
    refine Calls.ret (M.out.move (by omega)) ?_
    rintro v w6 ⟨rfl,C⟩
    have F:=hide C
    clear C
    go_wp2_with fail
    exact⟨⟨x+1,by go_num,by omega,hide (F.out.big (by omega))⟩,by simp [intOf]; omega⟩
   ·obtain rfl:x=L:=by omega
    go_wp2_with fail
    refine Calls.ret (V.out.move (by omega)) ?_
    rintro v w5 ⟨rfl,C⟩
    have M:=hide C
    clear C
    go_wp2_with fail
    refine Calls.ret (M.out.move (by omega)) ?_
    rintro v w6 ⟨rfl,C⟩
    have F:=hide C
    clear C
    cases ring
    ·go_wp2_with fail
     exact bodyPost_ret (v:=.tuple #[]) (by simp [results,Tryz.results158,go_sem]) rfl ⟨rfl,(F.out.sub Z).big (by omega)⟩
    ·go_wp2_with fail
     refine Calls.ret (G4 F.out (by omega) (.inr rfl)) ?_
     rintro v w7 ⟨⟨e7,rfl⟩,C⟩
     have D7:=hide C
     clear C
     go_wp2_with fail
     refine Calls.ret (G4 D7.out (by omega) (.inl rfl)) ?_
     rintro v w8 ⟨⟨e8,rfl⟩,C⟩
     have D8:=hide C
     clear C
     go_wp2_with fail
     refine Calls.ret (G4 D8.out (by omega) (.inl rfl)) ?_
     rintro v w9 ⟨⟨e9,rfl⟩,C⟩
     have D9:=hide C
     clear C
     go_wp2_with fail
     refine Calls.ret (D9.out.move (by omega)) ?_
     rintro v az ⟨rfl,C⟩
     have a7:=hide C
     clear C
     go_wp2_with fail
     go_loopw [18] (fun E wr=>∃(y:Nat),E=.int .i64 (y:Int)∧y≤x∧Hid (MkS w0 wr gd x (n+3+2*x+6+y) ls2)) (fun E _=>x - (intOf E).toNat)
     case atStart=>exact⟨0,rfl,Nat.zero_le _,a7⟩
     case round=>
      obtain⟨y,rfl,hy,W⟩:=hrel
      by_cases av:y<x
      ·go_wp2_with fail
       refine Calls.ret (W.out.move (by omega)) ?_
       rintro v af ⟨rfl,C⟩
       have J:=hide C
       clear C
       go_wp2_with fail
       exact⟨⟨y+1,by go_num,by omega,hide (J.out.big (by omega))⟩,by simp [intOf]; omega⟩
      ·obtain rfl:y=x:=by omega
       go_wp2_with fail
       refine Calls.ret (W.out.move (by omega)) ?_
       rintro v af ⟨rfl,C⟩
       have J:=hide C
       clear C
       go_wp2_with fail
       exact bodyPost_ret (v:=.tuple #[]) (by simp [results,Tryz.results158,go_sem]) rfl ⟨rfl,(J.out.sub Z).big (by omega)⟩
end Go.Proofs.YtfcfpoemojjglaaGreatDoor
