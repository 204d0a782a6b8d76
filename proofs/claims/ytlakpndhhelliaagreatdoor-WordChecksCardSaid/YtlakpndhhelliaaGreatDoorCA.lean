/-
  Part CA of a proof.
-/
import Derived.Lib.Fields
import Derived.Test.YtlakpndhhelliaaGreatDoorPA
import Derived.Test.YtlakpndhhelliaaGreatDoorPB
set_option maxHeartbeats 16000000
set_option maxRecDepth 100000
set_option linter.unusedVariables false
set_option linter.unusedSimpArgs false
namespace Go.Proofs.YtlakpndhhelliaaGreatDoor.K
instance RC:DecidableEq ByteArray:=fun a b=>decidable_of_iff (a.data=b.data) ⟨ByteArray.ext,fun e=>by rw [e]⟩
instance Rz:LawfulBEq ByteArray where
 eq_of_beq {a b} h:=by
  have h2:(a.data==b.data)=true:=h
  exact ByteArray.ext (eq_of_beq h2)
 rfl {a}:=by
  show(a.data==a.data)=true
  simp
theorem CR (a b:ByteArray):(a.toList==b.toList)=decide (a=b):=by
 rw [ByteArray.toList_eq,ByteArray.toList_eq,Bool.eq_iff_iff,beq_iff_eq,decide_eq_true_eq]
 exact⟨fun h=>ByteArray.ext (Array.toList_inj.1 h),fun h=>by rw [h]⟩
structure Lin where
 c:Int
 n:Int
 t:Int
 f:Int
structure Thr where
 msg:Int
 coef:Int
 bound:Lin
structure As where
 name:ByteArray
 kind:Int
 fr:Int
 to:Int
 pf:Int
 pt:Int
 resp:List Int
 guards:List Thr
 ex:List Int
 fa:List Int
 rd:Int
 wr:Int
 send:List Int
 at_:Int
 left:List Int
 right:List Int
 parent:List Int
 dir:Int
structure Ao where
 name:ByteArray
 topo:Int
 states:List ByteArray
 messages:List ByteArray
 values:List ByteArray
 fault:Int
 res:List Lin
 initial:List Int
 leader:List Int
 rules:List As
structure DI where
 states:List Int
 least:Int
structure Bd where
 name:ByteArray
 kind:Int
 start:List Int
 bad:List DI
 adj:List Int
 goal:List Int
deriving instance DecidableEq for Lin
deriving instance DecidableEq for Thr
def orE (a b:Int):Int:=if a=0 then b else a
def Ac (b:Bool) (e:Int):Int:=if b then e else 0
def Ah {A:Type} (f:A→Int):List A→Int
 | []=>0
 | x::l=>orE (f x) (Ah f l)
theorem BI (b:Int):orE 0 b=b:=rfl
theorem Bz {a b:Int} (h:a≠0):orE a b=a:=if_neg h
theorem DO (a b c:Int):orE (orE a b) c=orE a (orE b c):=by
 unfold orE
 split <;> simp_all
theorem Be (a:Int):orE a 0=a:=by
 unfold orE
 split <;> simp_all
theorem ID {A:Type} (f:A→Int):∀l m:List A,Ah f (l++m)=orE (Ah f l) (Ah f m)
 | [],m=>rfl
 | x::l,m=>by rw [List.cons_append,Ah,Ah,ID f l m,DO]
theorem Cq {A:Type} (f:A→Int) {l:List A} {k:Nat} {x:A} (y:l[k]?=some x) (h:Ah f (l.take k)=0):Ah f (l.take (k+1))=f x:=by
 rw [show l.take (k+1)=l.take k++[x] by rw [List.take_add_one,y]; rfl,ID,h,BI,Ah,Ah,Be]
theorem Cd {A:Type} (f:A→Int):∀{l:List A} {k:Nat} {x:A},l[k]?=some x→Ah f (l.take k)=0→f x≠0→Ah f l=f x
 | y::l,0,x,hx,_,hf=>by
  have:y=x:=by simpa using hx
  subst this
  rw [Ah,Bz hf]
 | y::l,k+1,x,hx,h,hf=>by
  rw [List.take_succ_cons,Ah] at h
  have z:f y=0:=by
   unfold orE at h
   split at h
   ·assumption
   ·exact absurd h ‹_›
  rw [z,BI] at h
  rw [Ah,z,BI]
  exact Cd f (by simpa using hx) h hf
def Da (c:UInt8):Bool:=decide (97≤c.toNat)&&decide (c.toNat≤122)
def GH (c:UInt8):Bool:=decide (48≤c.toNat)&&decide (c.toNat≤57)
def nmB (c:UInt8):Bool:=Da c||GH c||decide (c.toNat=95)
def Fh:List UInt8→Bool
 | []=>false
 | c::l=>decide (l.length<12)&&Da c&&l.all nmB
def inE (i n:Int):Bool:=decide (0≤i)&&decide (i<n)
def Dk:List Int→Bool
 | []=>true
 | [_]=>true
 | a::b::l=>decide (a<b)&&Dk (b::l)
def Aa (l:List Int) (n:Int):Int:=orE (Ac (!l.all (inE · n)) 5) (Ac (!Dk l) 1)
def Cr (n:Int):Bool:=decide (-100≤n)&&decide (n≤100)
def AR (l:Lin):Bool:=Cr l.c&&Cr l.n&&Cr l.t&&Cr l.f
def AP (p:Ao):List ByteArray:=p.states++p.messages++p.values
def CB (ok:ByteArray→Bool) (l:List ByteArray):Int:=Ah (fun i=>Ac (!ok (l.getD i .empty)||decide (l.getD i .empty∈l.take i)) 2) (List.range l.length)
def BR (topo:Int) (r:As):Bool:=
 (!decide (r.kind=1)&&(!r.guards.isEmpty||!r.ex.isEmpty||!r.fa.isEmpty||!r.send.isEmpty))||
 ((!decide (r.kind=1)&&!decide (r.kind=2)&&!decide (r.kind=3))&&(!decide (r.rd= -1)||!decide (r.wr= -1)))||
 ((!decide (r.kind=2)&&!decide (r.kind=5))&&(!decide (r.pf=0)||!decide (r.pt=0)))||
 (!decide (r.kind=3)&&!r.resp.isEmpty)||(!decide (r.kind=5)&&!decide (r.dir=0))||
 (!decide (r.kind=4)&&(!decide (r.at_=0)||!r.left.isEmpty||!r.right.isEmpty))||
 (!r.parent.isEmpty&&!(decide (r.kind=4)&&decide (topo=4)))
def BS (m:Int) (g:Thr):Int:=orE (Ac (!inE g.msg m) 5) (orE (Ac (!(decide (1≤g.coef)&&decide (g.coef≤100))) 1) (Ac (!AR g.bound) 4))
def CL (n:Int) (l:List Int):Int:=if (l.length:Int)≠n then 1 else Ah (fun x=>Ac (!inE x n) 5) l
def AF (v k:Int):Bool:=decide (-1≤v)&&decide (v<k)
def AW (ok:ByteArray→Bool) (topo n m k:Int) (taken:Bool) (r:As):Int:=
 orE (Ac (!ok r.name||taken) 2)
 (orE (Ac (!(decide (1≤r.kind)&&decide (r.kind≤5))||(decide (r.kind≤3) != decide (topo=1))||BR topo r) 6)
 (orE (Ac (!inE r.fr n||!inE r.to n||(decide (r.kind=2)||decide (r.kind=5))&&(!inE r.pf n||!inE r.pt n)) 5)
 (orE (if r.kind=3 then CL n r.resp else 0)
 (orE (Ah (BS m) r.guards)
 (orE (Ac (decide (2<r.guards.length)) 4)
 (orE (Aa r.ex n)
 (orE (Aa r.fa n)
 (orE (Ac (!AF r.rd k||!AF r.wr k) 5)
 (orE (Aa r.send m)
 (orE (Aa r.left n)
 (orE (Aa r.right n)
 (orE (Aa r.parent n)
 (orE (Ac (decide (r.kind=4)&&(!(decide (0≤r.at_)&&decide (r.at_≤2))||(!decide (r.at_=0)&&decide (topo=3)))) 1)
 (orE (Ac (decide (r.kind=5)&&decide (topo=4)&&!(decide (3≤r.dir)&&decide (r.dir≤4))) 1)
 (Ac (decide (r.kind=5)&&!decide (topo=4)&&!(decide (1≤r.dir)&&decide (r.dir≤2))) 1)))))))))))))))
def Bu (ok:ByteArray→Bool) (p:Ao) (i:Nat):Int:=
 match p.rules[i]? with
 | none=>0
 | some r=>AW ok p.topo p.states.length p.messages.length p.values.length ((p.rules.take i).any fun x=>decide (x.name=r.name)) r
def Bp (l:List Thr) (g:Thr):List Thr:=if g∈l then l else l++[g]
def BH (l:List As):List Thr:=(l.flatMap As.guards).foldl Bp []
def At (ok:ByteArray→Bool) (p:Ao):Int:=
 orE (Ac (!ok p.name) 2)
 (orE (Ac (!(decide (1≤p.topo)&&decide (p.topo≤4))||!(decide (0≤p.fault)&&decide (p.fault≤3))) 1)
 (orE (Ac p.states.isEmpty 1)
 (orE (Ac (decide (6<p.states.length)||decide (3<p.messages.length)||decide (3<p.values.length)||decide (4<p.res.length)||decide (8<p.rules.length)) 4)
 (orE (CB ok (AP p))
 (orE (Ac ((!decide (p.topo=1)&&(!p.messages.isEmpty||!p.values.isEmpty||!p.res.isEmpty||!decide (p.fault=0)))||(decide (p.topo=1)&&!p.leader.isEmpty)) 1)
 (orE (Ac (!p.res.all AR) 4)
 (orE (Aa p.initial p.states.length)
 (orE (Ac p.initial.isEmpty 1)
 (orE (Aa p.leader p.states.length)
 (orE (Ah (Bu ok p) (List.range p.rules.length))
 (Ac (decide (3<(BH p.rules).length)) 4)))))))))))
def Az (n:Int) (c:DI):Int:=orE (Aa c.states n) (Ac (c.states.isEmpty||!(decide (1≤c.least)&&decide (c.least≤3))) 1)
def Bb (topo n:Int) (l:List Int):Int:=
 orE (Ac (!l.isEmpty&&decide (topo=1)) 6) (orE (Ac (!l.isEmpty&&!decide (l.length=2)) 1) (Ah (fun x=>Ac (!inE x n) 5) l))
def AJ (ok:ByteArray→Bool) (p:Ao) (q:Bd):Int:=
 orE (At ok p)
 (orE (Ac (!ok q.name) 2)
 (orE (Ac (!decide (q.kind=1)&&!decide (q.kind=2)) 1)
 (orE (Ac ((decide (q.kind=1)&&!q.goal.isEmpty)||(decide (q.kind=2)&&(!q.bad.isEmpty||!q.adj.isEmpty))) 1)
 (orE (Aa q.start p.states.length)
 (orE (Ac (!q.start.all fun x=>decide (x∈p.initial)) 5)
 (if q.kind=2 then orE (Aa q.goal p.states.length) (Ac q.goal.isEmpty 1) else
  orE (Ac (q.bad.isEmpty&&q.adj.isEmpty) 1)
  (orE (Ac (decide (3<q.bad.length)) 4)
  (orE (Ah (Az p.states.length) q.bad) (Bb p.topo p.states.length q.adj)))))))))
def Rx (ok:ByteArray→Bool) (p:Ao) (q:Bd):Int:=orE (AJ ok p q) (Ac (!decide (p.topo=4)||!decide (q.kind=1)) 7)
end Go.Proofs.YtlakpndhhelliaaGreatDoor.K
namespace Go.Proofs.YtlakpndhhelliaaGreatDoor.K
open Go.RowKit
def Bx (x:ByteArray) (_:Nat):Value:=.string x
def En (l:Lin):Nat→Value
 | 0=>.int .i64 l.c
 | 1=>.int .i64 l.n
 | 2=>.int .i64 l.t
 | _=>.int .i64 l.f
def CC (g:Thr):Nat→Value
 | 0=>.int .i64 g.msg
 | 1=>.int .i64 g.coef
 | 2=>.int .i64 g.bound.c
 | 3=>.int .i64 g.bound.n
 | 4=>.int .i64 g.bound.t
 | _=>.int .i64 g.bound.f
def BJ {D:Type} (w:World) (B k:Nat) (R:List Value→D→Prop) (A:Option Addr) (ds:List D):Prop:=
 ds.length≤9223372036854775807∧(ds≠[]→∃b off,A=some ⟨b,off,none⟩∧b<B∧∀(i:Nat) (d:D),ds[i]?=some d→∃cs:List Value,cs.length=k∧(∀(j:Nat) (u:Value),cs[j]?=some u→w.cell? ⟨b,off+i*k+j,none⟩=some u)∧R cs d)
section
variable {D:Type} {w w':World} {B B' k:Nat} {R R':List Value→D→Prop} {A:Option Addr} {ds:List D}
theorem BJ.keep (h:BJ w B k R A ds) (hk:∀p:Addr,p.block<B→w'.cell? p=w.cell? p) (f:∀cs d,R cs d→R' cs d) (M:B≤B'):BJ w' B' k R' A ds:=
 ⟨h.1,fun y=>by
  obtain⟨b,z,e,C,E⟩:=h.2 y
  refine⟨b,z,e,by omega,fun i d hd=>?_⟩
  obtain⟨cs,F,G,I⟩:=E i d hd
  exact⟨cs,F,fun j u J=>(hk _ C).trans (G j u J),f _ _ I⟩⟩
theorem BJ.at (h:BJ w B k R A ds) {i:Nat} (y:i<ds.length):∃b f d cs,A=some ⟨b,f,none⟩∧b<B∧ds[i]?=some d∧cs.length=k∧(∀(j:Nat) (u:Value),cs[j]?=some u→w.cell? ⟨b,f+i*k+j,none⟩=some u)∧R cs d:=by
 obtain⟨b,f,e,z,C⟩:=h.2 (by intro e; subst e; simp at y)
 obtain⟨cs,E,F,G⟩:=C i ds[i] (List.getElem?_eq_getElem y)
 exact⟨b,f,ds[i],cs,e,z,List.getElem?_eq_getElem y,E,F,G⟩
theorem BJ.take (h:BJ w B k R A ds) (n:Nat):BJ w B k R A (ds.take n):=
 ⟨Nat.le_trans (List.length_take_le' ..) h.1,fun f=>by
  obtain⟨b,y,e,z,C⟩:=h.2 (by rintro rfl; simp at f)
  refine⟨b,y,e,z,fun i d hd=>C i d ?_⟩
  rw [List.getElem?_take] at hd
  split at hd
  ·exact hd
  ·cases hd⟩
theorem BJ.nil (h:ds=[]):BJ w B k R A ds:=by subst h; exact⟨by simp,fun h=>absurd rfl h⟩
end
def AB (w:World) (B:Nat) (cs:List Value) (r:As):Prop:=
 ∃A1 c1 A2 c2 A3 c3 A4 c4 A5 c5 A6 c6 A7 c7 A8 c8,cs=[.string r.name,.int .i64 r.kind,.int .i64 r.fr,.int .i64 r.to,.int .i64 r.pf,.int .i64 r.pt,.slice A1 r.resp.length c1,.slice A2 r.guards.length c2,.slice A3 r.ex.length c3,.slice A4 r.fa.length c4,
  .int .i64 r.rd,.int .i64 r.wr,.slice A5 r.send.length c5,.int .i64 r.at_,.slice A6 r.left.length c6,.slice A7 r.right.length c7,.slice A8 r.parent.length c8,.int .i64 r.dir]∧
  Sl w B 1 Ai A1 r.resp∧Sl w B 6 CC A2 r.guards∧Sl w B 1 Ai A3 r.ex∧Sl w B 1 Ai A4 r.fa∧Sl w B 1 Ai A5 r.send∧Sl w B 1 Ai A6 r.left∧Sl w B 1 Ai A7 r.right∧Sl w B 1 Ai A8 r.parent
def CY (w:World) (B:Nat) (cs:List Value) (c:DI):Prop:=∃A1 c1,cs=[.slice A1 c.states.length c1,.int .i64 c.least]∧Sl w B 1 Ai A1 c.states
def Ax (w:World) (B:Nat) (cs:List Value) (p:Ao):Prop:=
 ∃A1 c1 A2 c2 A3 c3 A4 c4 A5 c5 A6 c6 A7 c7,cs=[.string p.name,.int .i64 p.topo,.slice A1 p.states.length c1,.slice A2 p.messages.length c2,.slice A3 p.values.length c3,.int .i64 p.fault,.slice A4 p.res.length c4,.slice A5 p.initial.length c5,.slice A6 p.leader.length c6,.slice A7 p.rules.length c7]∧
  Sl w B 1 Bx A1 p.states∧Sl w B 1 Bx A2 p.messages∧Sl w B 1 Bx A3 p.values∧Sl w B 4 En A4 p.res∧Sl w B 1 Ai A5 p.initial∧Sl w B 1 Ai A6 p.leader∧BJ w B 18 (AB w B) A7 p.rules∧p.rules.length≤c7
def BE (w:World) (B:Nat) (cs:List Value) (q:Bd):Prop:=
 ∃A1 c1 A2 c2 A3 c3 A4 c4,cs=[.string q.name,.int .i64 q.kind,.slice A1 q.start.length c1,.slice A2 q.bad.length c2,.slice A3 q.adj.length c3,.slice A4 q.goal.length c4]∧
  Sl w B 1 Ai A1 q.start∧BJ w B 2 (CY w B) A2 q.bad∧Sl w B 1 Ai A3 q.adj∧Sl w B 1 Ai A4 q.goal
section
variable {w w':World} {B B':Nat} {cs:List Value}
theorem AB.keep {r:As} (h:AB w B cs r) (hk:∀p:Addr,p.block<B→w'.cell? p=w.cell? p) (f:B≤B'):AB w' B' cs r:=by
 obtain⟨y,z,C,c2,E,F,G,I,J,M,O,U,V,W,Z,c8,e,h1,h2,h3,h4,h5,h6,h7,h8⟩:=h
 exact⟨y,z,C,c2,E,F,G,I,J,M,O,U,V,W,Z,c8,e,h1.keep hk f,h2.keep hk f,h3.keep hk f,h4.keep hk f,h5.keep hk f,h6.keep hk f,h7.keep hk f,h8.keep hk f⟩
theorem CY.keep {c:DI} (h:CY w B cs c) (hk:∀p:Addr,p.block<B→w'.cell? p=w.cell? p) (f:B≤B'):CY w' B' cs c:=by
 obtain⟨y,z,e,C⟩:=h
 exact⟨y,z,e,C.keep hk f⟩
theorem Ax.keep {p:Ao} (h:Ax w B cs p) (hk:∀p:Addr,p.block<B→w'.cell? p=w.cell? p) (f:B≤B'):Ax w' B' cs p:=by
 obtain⟨y,z,C,c2,E,F,G,I,J,M,O,U,V,W,e,Z,h2,h3,h4,h5,h6,h7,h8⟩:=h
 exact⟨y,z,C,c2,E,F,G,I,J,M,O,U,V,W,e,Z.keep hk f,h2.keep hk f,h3.keep hk f,h4.keep hk f,h5.keep hk f,h6.keep hk f,h7.keep hk (fun _ _ h=>h.keep hk f) f,h8⟩
theorem BE.keep {q:Bd} (h:BE w B cs q) (hk:∀p:Addr,p.block<B→w'.cell? p=w.cell? p) (f:B≤B'):BE w' B' cs q:=by
 obtain⟨y,z,C,c2,E,F,G,I,e,J,M,O,U⟩:=h
 exact⟨y,z,C,c2,E,F,G,I,e,J.keep hk f,M.keep hk (fun _ _ h=>h.keep hk f) f,O.keep hk f,U.keep hk f⟩
end
end Go.Proofs.YtlakpndhhelliaaGreatDoor.K
namespace Go.Proofs.YtlakpndhhelliaaGreatDoor.K
theorem EC (n:Int):Aa [] n=0:=rfl
theorem Ew (a b:Bool) (e:Int):Ac (a||b) e=orE (Ac a e) (Ac b e):=by
 cases a <;> cases b <;> simp [Ac,orE]
theorem RP (a b c:Int) (h:a=0∨b=0∨a=b):orE a (orE b c)=orE b (orE a c):=by
 unfold orE
 split <;> split <;> simp_all
def C6 (kind topo:Int):Bool:=if kind=1∨kind=2∨kind=3 then decide (topo=1) else if kind=4∨kind=5 then !decide (topo=1) else false
def AQ (resp guards ex fa send left right parent:Nat) (pf pt at_ dir rd wr:Int):Bool:=
 decide (0<resp+guards+ex+fa+send+left+right+parent)||!decide (pf=0)||!decide (pt=0)||!decide (at_=0)||!decide (dir=0)||!decide (rd= -1)||!decide (wr= -1)
def An (topo:Int) (r:As):Bool:=
 if r.kind=1 then AQ r.resp.length 0 0 0 0 r.left.length r.right.length r.parent.length r.pf r.pt r.at_ r.dir (-1) (-1)
 else if r.kind=2 then (if 0<r.resp.length then true else AQ 0 r.guards.length r.ex.length r.fa.length r.send.length r.left.length r.right.length r.parent.length 0 0 r.at_ r.dir (-1) (-1))
 else if r.kind=3 then AQ 0 r.guards.length r.ex.length r.fa.length r.send.length r.left.length r.right.length r.parent.length r.pf r.pt r.at_ r.dir (-1) (-1)
 else if r.kind=4 then AQ r.resp.length r.guards.length r.ex.length r.fa.length r.send.length 0 0 (if topo=4 then 0 else r.parent.length) r.pf r.pt 0 r.dir r.rd r.wr
 else if r.kind=5 then AQ r.resp.length r.guards.length r.ex.length r.fa.length r.send.length r.left.length r.right.length r.parent.length 0 0 r.at_ 0 r.rd r.wr
 else AQ r.resp.length r.guards.length r.ex.length r.fa.length r.send.length r.left.length r.right.length r.parent.length r.pf r.pt r.at_ r.dir r.rd r.wr
def Db (m:Int) (l:List Thr):Int:=orE (Ah (BS m) l) (Ac (decide (2<l.length)) 4)
def Aw (i n:Int):Int:=Ac (!inE i n) 5
def Bi (v k:Int):Int:=Ac (!AF v k) 5
def Ch (topo n m k:Int) (r:As):Int:=
 if r.kind=1 then orE (Db m r.guards) (orE (Aa r.ex n) (orE (Aa r.fa n) (orE (Bi r.rd k) (orE (Bi r.wr k) (Aa r.send m)))))
 else if r.kind=2 then orE (Aw r.pf n) (orE (Aw r.pt n) (orE (Bi r.rd k) (Bi r.wr k)))
 else if r.kind=3 then orE (CL n r.resp) (orE (Bi r.rd k) (Bi r.wr k))
 else if r.kind=4 then orE (Aa r.left n) (orE (Aa r.right n) (orE (Aa r.parent n) (Ac (decide (r.at_<0)||decide (2<r.at_)||(!decide (r.at_=0)&&decide (topo=3))) 1)))
 else orE (Aw r.pf n) (orE (Aw r.pt n) (Ac (if topo=4 then decide (r.dir<3)||decide (4<r.dir) else decide (r.dir<1)||decide (2<r.dir)) 1))
def Fb (ok:ByteArray→Bool) (topo n m k:Int) (taken:Bool) (r:As):Int:=
 orE (Ac (!ok r.name||taken) 2) (orE (Ac (!C6 r.kind topo||An topo r) 6) (orE (orE (Aw r.fr n) (Aw r.to n)) (Ch topo n m k r)))
theorem RH {A:Type} (l:List A):decide (0<l.length)= !l.isEmpty:=by cases l <;> simp
theorem M6 (k:Int) (hk:0≤k):Bi (-1) k=0:=by
 unfold Bi AF Ac
 simp
 omega
theorem Bn {A:Type} (l:List A):l.isEmpty=decide (l.length=0):=by cases l <;> simp
theorem Lb (topo:Int) (r:As):(!C6 r.kind topo||An topo r)=(!(decide (1≤r.kind)&&decide (r.kind≤5))||(decide (r.kind≤3) != decide (topo=1))||BR topo r):=by
 obtain⟨name,kind,fr,to,pf,pt,resp,guards,ex,fa,rd,wr,send,at_,left,right,parent,dir⟩:=r
 simp only [C6,An,BR,AQ,Bn]
 generalize resp.length=n1
 generalize guards.length=n2
 generalize ex.length=n3
 generalize fa.length=n4
 generalize send.length=n5
 generalize left.length=n6
 generalize right.length=n7
 generalize parent.length=n8
 by_cases f:kind=1
 ·subst f
  rw [Bool.eq_iff_iff]
  simp
  omega
 by_cases h:kind=2
 ·subst h
  rw [Bool.eq_iff_iff]
  by_cases y:0<n1
  ·simp [y]
   omega
  ·simp [y]
   omega
 by_cases z:kind=3
 ·subst z
  rw [Bool.eq_iff_iff]
  simp
  omega
 by_cases C:kind=4
 ·subst C
  rw [Bool.eq_iff_iff]
  by_cases ht:topo=4
  ·simp [ht]
   omega
  ·simp [ht]
   omega
 by_cases E:kind=5
 ·subst E
  rw [Bool.eq_iff_iff]
  simp
  omega
 ·rw [Bool.eq_iff_iff]
  simp [f,h,z,C,E]
  omega
theorem Ey (e:Int):Ac false e=0:=rfl
theorem JQ (ok:ByteArray→Bool) (topo n m k:Int) (hk:0≤k) (C:Bool) (r:As):Fb ok topo n m k C r=AW ok topo n m k C r:=by
 unfold Fb AW
 congr 1
 rw [Lb]
 cases E:(!(decide (1≤r.kind)&&decide (r.kind≤5))||(decide (r.kind≤3) != decide (topo=1))||BR topo r)
 case true=>simp [Ac,orE]
 case false=>
  rw [show Ac false 6=0 from rfl,BI,BI]
  simp only [Bool.or_eq_false_iff,Bool.not_eq_false'] at E
  obtain⟨⟨F,-⟩,f⟩:=E
  simp only [Bool.and_eq_true,decide_eq_true_eq] at F
  have h:Bi (-1) k=0:=M6 k hk
  unfold Bi at h
  obtain⟨name,kind,fr,to,pf,pt,resp,guards,ex,fa,rd,wr,send,at_,left,right,parent,dir⟩:=r
  dsimp only at F f ⊢
  have G:kind=1∨kind=2∨kind=3∨kind=4∨kind=5:=by omega
  unfold Ch Db Aw Bi BR at*
  rcases G with rfl | rfl | rfl | rfl | rfl <;> simp [and_assoc] at f
  ·obtain⟨rfl,rfl,rfl,rfl,rfl,rfl,rfl,rfl⟩:=f
   simp [BI,EC,Ey,Be,DO,Ew]
  ·obtain⟨rfl,rfl,rfl,rfl,rfl,rfl,rfl,rfl,rfl,rfl⟩:=f
   simp [BI,EC,Ey,Be,DO,Ew,Ah]
  ·obtain⟨rfl,rfl,rfl,rfl,rfl,rfl,rfl,rfl,rfl,rfl,rfl⟩:=f
   simp [BI,EC,Ey,Be,DO,Ew,Ah]
  ·obtain⟨rfl,rfl,rfl,rfl,rfl,rfl,rfl,rfl,rfl,rfl,-⟩:=f
   have y:decide (at_<0)= !decide (0≤at_):=by rw [Bool.eq_iff_iff]; simp
   have z:decide (2<at_)= !decide (at_≤2):=by rw [Bool.eq_iff_iff]; simp
   simp [BI,EC,Ey,DO,Ew,Ah,h,y,z,Be]
  ·obtain⟨rfl,rfl,rfl,rfl,rfl,rfl,rfl,rfl,rfl,rfl,rfl⟩:=f
   have y:decide (dir<3)= !decide (3≤dir):=by rw [Bool.eq_iff_iff]; simp
   have z:decide (4<dir)= !decide (dir≤4):=by rw [Bool.eq_iff_iff]; simp
   have I:decide (dir<1)= !decide (1≤dir):=by rw [Bool.eq_iff_iff]; simp
   have J:decide (2<dir)= !decide (dir≤2):=by rw [Bool.eq_iff_iff]; simp
   by_cases ht:topo=4
   ·simp [BI,EC,Ey,DO,Ew,Ah,h,y,z,ht,Be]
   ·simp [BI,EC,Ey,DO,Ew,Ah,h,I,J,ht]
end Go.Proofs.YtlakpndhhelliaaGreatDoor.K
namespace Go.Proofs.YtlakpndhhelliaaGreatDoor.K
open Go.RowKit
def inC (n lo hi:Int):Bool:=decide (lo≤n)&&decide (n≤hi)
theorem CJ (n k:Int):inE n k=inC n 0 (k - 1):=by
 unfold inE inC; congr 1; exact decide_eq_decide.2 (by omega)
theorem Ap (w:World):Below w.heap.size w w.drew:=⟨rfl,rfl,rfl,Nat.le_refl _,fun _ _=>rfl⟩
theorem BZ (b:Bool) (e:Int) (w:World):Calls Tryz.prog 27 #[.bool b,.int .i64 e] w fun r w'=>r=.returned (.int .i64 (Ac b e))∧w=w':=by
 cases b
 all_goals
  go_enter Tryz.func27,Tryz.ntmps27
  go_wp2
  go_ret
  exact⟨rfl,rfl⟩
theorem Cl (i n:Int) (w:World):Calls Tryz.prog 52 #[.int .i64 i,.int .i64 n] w fun r w'=>r=.returned (.int .i64 (Aw i n))∧w=w':=by
 have key:∀b:Bool,b= !inE i n→Ac b 5=Aw i n:=fun b f=>by rw [f]; rfl
 by_cases h:i<0
 ·have f:=hide (key true (by simp [inE]; omega))
  clear key
  go_enter Tryz.func52,Tryz.ntmps52
  go_wp2_with (go_at_call 27; refine(BZ _ _ _).mono ?_; rintro e w' ⟨rfl,rfl⟩; rw [f.out])
  go_ret
  exact⟨rfl,rfl⟩
 ·by_cases y:n≤i
  ·have f:=hide (key true (by simp [inE]; omega))
   clear key
   go_enter Tryz.func52,Tryz.ntmps52
   go_wp2_with (go_at_call 27; refine(BZ _ _ _).mono ?_; rintro e w' ⟨rfl,rfl⟩; rw [f.out])
   go_ret
   exact⟨rfl,rfl⟩
  ·have f:=hide (key false (by simp [inE]; omega))
   clear key
   go_enter Tryz.func52,Tryz.ntmps52
   go_wp2_with (go_at_call 27; refine(BZ _ _ _).mono ?_; rintro e w' ⟨rfl,rfl⟩; rw [f.out])
   go_ret
   exact⟨rfl,rfl⟩
theorem N4 (n:Int) (w:World):Calls Tryz.prog 71 #[.int .i64 n] w fun r w'=>r=.returned (.bool (Cr n))∧w=w':=by
 by_cases h:-100≤n
 all_goals
  go_enter Tryz.func71,Tryz.ntmps71
  go_wp2
  go_ret
  exact⟨by simp [Cr]; omega,rfl⟩
theorem Al (n f y:Int) (w:World):Calls Tryz.prog 35 #[.int .i64 n,.int .i64 f,.int .i64 y] w fun e w'=>e=.returned (.bool (inC n f y))∧w=w':=by
 by_cases h:f≤n
 all_goals
  go_enter Tryz.func35,Tryz.ntmps35
  go_wp2
  go_ret
  exact⟨by simp [inC]; omega,rfl⟩
theorem B7 {w:World} {B c:Nat} {A:Option Addr} {l:List Int} (h:Sl w B 1 Ai A l):Calls Tryz.prog 26 #[.slice A l.length c] w fun r w'=>r=.returned (.int .i64 (Ah id l))∧w=w':=by
 have J:=hide h
 have Z:=h.1
 clear h
 go_enter Tryz.func26,Tryz.ntmps26
 go_wp2_with fail
 go_loopw [7] (fun z wr=>∃(k:Nat),z=.int .i64 (k:Int)∧k≤l.length∧w=wr∧Hid (Ah id (l.take k)=0)) (fun z _=>l.length - (intOf z).toNat)
 case atStart=>exact⟨0,rfl,Nat.zero_le _,(by first | rfl | trivial),rfl⟩
 case round=>
  obtain⟨k,rfl,hk,rfl,C⟩:=hrel
  by_cases M:k<l.length
  ·obtain⟨b,a2,e,O,a3,F,G⟩:=J.out.at M
   have U:=G 0 (by omega)
   simp only [Nat.add_zero,Nat.mul_one,Ai] at U
   have I:=hide F
   subst O
   clear G F
   by_cases f:e=0
   ·have y:=hide f
    clear f
    have V:(e==0)=true:=by simp [y.out]
    go_wp2_with fail
    refine⟨⟨k+1,by go_num,by omega,(by first | rfl | trivial),?_⟩,by simp [intOf]; omega⟩
    show _=_
    rw [Cq id I.out C.out]
    exact y.out
   ·have y:=hide f
    have V:(e==0)=false:=by simp [f]
    clear f
    go_wp2_with fail
    go_ret
    exact⟨by rw [Cd id I.out C.out y.out]; rfl,rfl⟩
  ·have e:k=l.length:=by omega
   have E:=C.out
   rw [e,List.take_length] at E
   have W:=hide E
   clear E e
   go_wp2_with fail
   go_ret
   exact⟨by rw [W.out]; rfl,rfl⟩
end Go.Proofs.YtlakpndhhelliaaGreatDoor.K
namespace Go.Proofs.YtlakpndhhelliaaGreatDoor.K
open Go.RowKit
theorem Do {D:Type} {l:List D} {k:Nat} {x y:D} (z:l[k]?=some x) (h:y∉l.take k) (C:x≠y):y∉l.take (k+1):=by
 rw [List.take_add_one,z]
 intro f
 rcases List.mem_append.1 f with f | f
 ·exact h f
 ·have:y=x:=by simpa using f
  exact C this.symm
theorem BP {D:Type} {p:D→Bool} {l:List D} {k:Nat} {x:D} (f:l[k]?=some x) (h:(l.take k).all p=true) (y:p x=true):(l.take (k+1)).all p=true:=by
 rw [List.take_add_one,f]; simp_all
theorem G9 {D:Type} {p:D→Bool} {l:List D} {k:Nat} {x:D} (f:l[k]?=some x) (h:p x=false):l.all p=false:=by
 rw [List.all_eq_false]
 exact⟨x,List.mem_of_getElem? f,by simp [h]⟩
theorem Gs:∀l:List Int,Dk l=true↔∀i a b,l[i]?=some a→l[i+1]?=some b→a<b
 | []=>by simp [Dk]
 | [a]=>by simp [Dk]
 | a::b::l=>by
  rw [Dk,Bool.and_eq_true,Gs (b::l),decide_eq_true_eq]
  constructor
  ·rintro⟨E,C⟩ i x y f z
   cases i with
   | zero=>
    have F:a=x:=by simpa using f
    have G:b=y:=by simpa using z
    omega
   | succ i=>exact C i x y (by simpa using f) (by simpa using z)
  ·intro h
   exact⟨h 0 a b rfl rfl,fun i x y f z=>h (i+1) x y (by simpa using f) (by simpa using z)⟩
section
variable {w:World} {B c:Nat} {A:Option Addr}
theorem Fu {l:List Int} {x:Int} (h:Sl w B 1 Ai A l):Calls Tryz.prog 34 #[.slice A l.length c,.int .i64 x] w fun r w'=>r=.returned (.bool (decide (x∈l)))∧w=w':=by
 have J:=hide h
 have Z:=h.1
 clear h
 go_enter Tryz.func34,Tryz.ntmps34
 go_wp2_with fail
 go_loopw [5] (fun z wr=>∃(k:Nat),z=.int .i64 (k:Int)∧k≤l.length∧w=wr∧Hid (x∉l.take k)) (fun z _=>l.length - (intOf z).toNat)
 case atStart=>exact⟨0,rfl,Nat.zero_le _,(by first | rfl | trivial),by show ¬_; simp⟩
 case round=>
  obtain⟨k,rfl,hk,rfl,E⟩:=hrel
  by_cases M:k<l.length
  ·obtain⟨b,a2,e,O,a3,F,G⟩:=J.out.at M
   have U:=G 0 (by omega)
   simp only [Nat.add_zero,Nat.mul_one,Ai] at U
   have I:=hide F
   subst O
   clear G F
   by_cases f:e=x
   ·have y:=hide f
    clear f
    have V:(e==x)=true:=by simp [y.out]
    go_wp2_with fail
    go_ret
    exact⟨by rw [decide_eq_true (by rw [←y.out]; exact List.mem_of_getElem? I.out)]; rfl,rfl⟩
   ·have y:=hide f
    have V:(e==x)=false:=by simp [f]
    clear f
    go_wp2_with fail
    exact⟨⟨k+1,by go_num,by omega,(by first | rfl | trivial),Do I.out E.out y.out⟩,by simp [intOf]; omega⟩
  ·have e:k=l.length:=by omega
   have C:=E.out
   rw [e,List.take_length] at C
   have W:=hide C
   clear C e
   go_wp2_with fail
   go_ret
   exact⟨by rw [decide_eq_false W.out]; rfl,rfl⟩
theorem GY {l:List ByteArray} {x:ByteArray} (h:Sl w B 1 Bx A l):Calls Tryz.prog 53 #[.slice A l.length c,.string x] w fun r w'=>r=.returned (.bool (decide (x∈l)))∧w=w':=by
 have J:=hide h
 have Z:=h.1
 clear h
 go_enter Tryz.func53,Tryz.ntmps53
 go_wp2_with fail
 go_loopw [5] (fun z wr=>∃(k:Nat),z=.int .i64 (k:Int)∧k≤l.length∧w=wr∧Hid (x∉l.take k)) (fun z _=>l.length - (intOf z).toNat)
 case atStart=>exact⟨0,rfl,Nat.zero_le _,(by first | rfl | trivial),by show ¬_; simp⟩
 case round=>
  obtain⟨k,rfl,hk,rfl,E⟩:=hrel
  by_cases M:k<l.length
  ·obtain⟨b,a2,e,O,a3,F,G⟩:=J.out.at M
   have U:=G 0 (by omega)
   simp only [Nat.add_zero,Nat.mul_one,Bx] at U
   have I:=hide F
   subst O
   clear G F
   by_cases f:e=x
   ·have y:=hide f
    clear f
    have V:(e.toList==x.toList)=true:=by rw [CR]; exact decide_eq_true y.out
    go_wp2_with fail
    go_ret
    exact⟨by rw [decide_eq_true (by rw [←y.out]; exact List.mem_of_getElem? I.out)]; rfl,rfl⟩
   ·have y:=hide f
    have V:(e.toList==x.toList)=false:=by rw [CR]; exact decide_eq_false f
    clear f
    go_wp2_with fail
    exact⟨⟨k+1,by go_num,by omega,(by first | rfl | trivial),Do I.out E.out y.out⟩,by simp [intOf]; omega⟩
  ·have e:k=l.length:=by omega
   have C:=E.out
   rw [e,List.take_length] at C
   have W:=hide C
   clear C e
   go_wp2_with fail
   go_ret
   exact⟨by rw [decide_eq_false W.out]; rfl,rfl⟩
end
end Go.Proofs.YtlakpndhhelliaaGreatDoor.K
namespace Go.Proofs.YtlakpndhhelliaaGreatDoor.K
open Go.RowKit
theorem He {l:List Int} {n:Int} (h:l.all (inE · n)=false):Aa l n=5:=by
 unfold Aa
 rw [h]
 rfl
theorem II {l:List Int} {n:Int} (h:l.all (inE · n)=true) (f:Dk l=false):Aa l n=1:=by
 unfold Aa
 rw [h,f]
 rfl
theorem HA {l:List Int} {n:Int} (h:l.all (inE · n)=true) (f:Dk l=true):Aa l n=0:=by
 unfold Aa
 rw [h,f]
 rfl
def Eq (l:List Int) (k:Nat):Prop:=∀i a b,i+1≤k→l[i]?=some a→l[i+1]?=some b→a<b
theorem Eq.next {l:List Int} {j:Nat} {x y:Int} (h:Eq l j) (C:l[j]?=some x) (E:l[j+1]?=some y) (F:x<y):Eq l (j+1):=fun i a b G f z=>by
 by_cases e:i=j
 ·subst e
  rw [C] at f
  rw [E] at z
  have I:=Option.some.inj f
  have J:=Option.some.inj z
  omega
 ·exact h i a b (by omega) f z
theorem Eq.end_ {l:List Int} {j:Nat} (h:Eq l j) (z:l.length≤j+1):Dk l=true:=(Gs l).2 fun i a b y f=>h i a b (by have:=(List.getElem?_eq_some_iff.1 f).1; omega) y f
theorem HZ {l:List Int} {j:Nat} {x y:Int} (f:l[j]?=some x) (z:l[j+1]?=some y) (C:y≤x):Dk l=false:=by
 cases h:Dk l
 ·rfl
 ·have:=(Gs l).1 h j x y f z
  omega
section
variable {w:World} {c:Nat} {A:Option Addr}
theorem Bw {l:List Int} {n:Int} (h:Sl w w.heap.size 1 Ai A l):Calls Tryz.prog 24 #[.slice A l.length c,.int .i64 n] w (Ret fun r w'=>r=.int .i64 (Aa l n)∧Below w.heap.size w w'):=by
 have V:=hide h
 have hn:=h.1
 clear h
 go_enter Tryz.func24,Tryz.ntmps24
 go_wp2_with fail
 go_loopw [10] (fun z wr=>∃(k:Nat),z=.int .i64 (k:Int)∧k≤l.length∧w=wr∧Hid ((l.take k).all (inE · n)=true)) (fun z _=>l.length - (intOf z).toNat)
 case atStart=>exact⟨0,rfl,Nat.zero_le _,(by first | rfl | trivial),by show _=_; simp⟩
 case round=>
  obtain⟨k,rfl,hk,rfl,I⟩:=hrel
  by_cases J:k<l.length
  ·obtain⟨b,aa,e,E,ab,W,C⟩:=V.out.at J
   have M:=C 0 (by omega)
   simp only [Nat.add_zero,Nat.mul_one,Ai] at M
   have O:=hide W
   subst E
   clear C W
   by_cases h0:e<0
   ·have f:=hide (G9 (p:=(inE · n)) O.out (show inE e n=false by simp [inE]; omega))
    go_wp2_with fail
    go_ret
    exact⟨by rw [He f.out]; rfl,Below.refl _ _⟩
   ·by_cases h1:n≤e
    ·have f:=hide (G9 (p:=(inE · n)) O.out (show inE e n=false by simp [inE]; omega))
     go_wp2_with fail
     go_ret
     exact⟨by rw [He f.out]; rfl,Below.refl _ _⟩
    ·have f:=hide (BP (p:=(inE · n)) O.out I.out (show inE e n=true by simp [inE]; omega))
     go_wp2_with fail
     exact⟨⟨k+1,by go_num,by omega,(by first | rfl | trivial),f.out⟩,by simp [intOf]; omega⟩
  ·have e:k=l.length:=by omega
   have U:=I.out
   rw [e,List.take_length] at U
   have Z:=hide U
   clear U e I
   go_wp2_with fail
   go_loopw [7] (fun z wr=>∃(j:Nat),z=.int .i64 ((j:Int)+1)∧j≤l.length∧Below w.heap.size w wr∧Hid (Eq l j)) (fun z _=>l.length - (intOf z).toNat)
   case atStart=>exact⟨0,rfl,Nat.zero_le _,Below.refl _ _,fun i a b hi _ _=>by omega⟩
   case round=>
    obtain⟨j,rfl,hj,F,hR⟩:=hrel
    have a3:=hide (V.out.below F)
    have ao:¬(j:Int)+1<0:=by omega
    by_cases J:j+1<l.length
    ·obtain⟨b,aa,y,E,ab,hy,C⟩:=a3.out.at J
     obtain⟨b',aq,x,G,-,hx,a6⟩:=a3.out.at (k:=j) (by omega)
     rw [E] at G
     injection G with G
     injection G with e1 e2
     subst e1 e2
     have M:=C 0 (by omega)
     have d1:=a6 0 (by omega)
     simp only [Nat.add_zero,Nat.mul_one,Ai] at M d1
     have a7:=hide hx
     have a8:=hide hy
     have a9:=hide (F.trans ((Ap wr).mono F.size))
     subst E
     clear C a6 hx hy
     by_cases ag:y≤x
     ·have f:=hide (HZ a7.out a8.out ag)
      go_wp2_with fail
      refine Reg.cN [0,0,3,7,0,0,32,112,240,511] ?_
      intro Qf ah
      go_wp2_with fail
      refine⟨rfl,?_⟩
      go_wp2_with fail
      go_ret
      exact⟨by rw [II Z.out f.out]; rfl,a9.out⟩
     ·have f:=hide (hR.out.next a7.out a8.out (by omega))
      go_wp2_with fail
      refine Reg.cN [0,0,3,7,0,0,32,112,240,511] ?_
      intro Qf ah
      go_wp2_with fail
      refine⟨rfl,?_⟩
      go_wp2_with fail
      exact⟨⟨j+1,by go_num,by omega,a9.out,f.out⟩,by simp [intOf]; omega⟩
    ·have f:=hide (hR.out.end_ (by omega))
     have ai:=hide F
     go_wp2_with fail
     go_ret
     exact⟨by rw [HA Z.out f.out]; rfl,ai.out⟩
theorem AU {l:List Int} {n:Nat} (am:n≤9223372036854775807) (h:Sl w w.heap.size 1 Ai A l):Calls Tryz.prog 33 #[.slice A l.length c,.int .i64 (n:Int)] w (Ret fun r w'=>r=.int .i64 (Aa l (n:Int))∧Below w.heap.size w w'):=by
 have W:=hide h
 have hn:=h.1
 clear h
 go_enter Tryz.func33,Tryz.ntmps33
 go_wp2_with fail
 go_loopw [5] (fun z wr=>∃(k:Nat),z=.int .i64 (k:Int)∧k≤l.length∧w=wr∧Hid ((l.take k).all (inE · (n:Int))=true)) (fun z _=>l.length - (intOf z).toNat)
 case atStart=>exact⟨0,rfl,Nat.zero_le _,(by first | rfl | trivial),by show _=_; simp⟩
 case round=>
  obtain⟨k,rfl,hk,rfl,J⟩:=hrel
  by_cases M:k<l.length
  ·obtain⟨b,ae,e,F,af,Z,E⟩:=W.out.at M
   have O:=E 0 (by omega)
   simp only [Nat.add_zero,Nat.mul_one,Ai] at O
   have a2:=hide Z
   subst F
   clear E Z
   have a3:=hide (CJ e (n:Int)).symm
   cases C:inE e (n:Int)
   ·have f:=hide (G9 (p:=(inE · (n:Int))) a2.out C)
    have U:=hide C
    clear C
    go_wp2_with (go_at_call 35; refine(Al _ _ _ _).mono ?_; rintro r w' ⟨rfl,rfl⟩; rw [a3.out,U.out])
    go_ret
    exact⟨by rw [He f.out]; rfl,Below.refl _ _⟩
   ·have f:=hide (BP (p:=(inE · (n:Int))) a2.out J.out C)
    have U:=hide C
    clear C
    go_wp2_with (go_at_call 35; refine(Al _ _ _ _).mono ?_; rintro r w' ⟨rfl,rfl⟩; rw [a3.out,U.out])
    exact⟨⟨k+1,by go_num,by omega,(by first | rfl | trivial),f.out⟩,by simp [intOf]; omega⟩
  ·have e:k=l.length:=by omega
   have V:=J.out
   rw [e,List.take_length] at V
   have a4:=hide V
   clear V e J
   go_wp2_with fail
   go_loopw [6] (fun z wr=>∃(j:Nat),z=.int .i64 ((j:Int)+1)∧j≤l.length∧Below w.heap.size w wr∧Hid (Eq l j)) (fun z _=>l.length - (intOf z).toNat)
   case atStart=>exact⟨0,rfl,Nat.zero_le _,Below.refl _ _,fun i a b hi _ _=>by omega⟩
   case round=>
    obtain⟨j,rfl,hj,G,hR⟩:=hrel
    have a6:=hide (W.out.below G)
    have aq:¬(j:Int)+1<0:=by omega
    by_cases M:j+1<l.length
    ·obtain⟨b,ae,y,F,af,hy,E⟩:=a6.out.at M
     obtain⟨b',au,x,I,-,hx,a9⟩:=a6.out.at (k:=j) (by omega)
     rw [F] at I
     injection I with I
     injection I with e1 e2
     subst e1 e2
     have O:=E 0 (by omega)
     have d1:=a9 0 (by omega)
     simp only [Nat.add_zero,Nat.mul_one,Ai] at O d1
     have aa:=hide hx
     have ab:=hide hy
     have ad:=hide (G.trans ((Ap wr).mono G.size))
     subst F
     clear E a9 hx hy
     by_cases aj:y≤x
     ·have f:=hide (HZ aa.out ab.out aj)
      go_wp2_with fail
      refine Reg.cN [0,0,3,7,0,0,32,112,240,511] ?_
      intro Qf ak
      go_wp2_with fail
      refine⟨rfl,?_⟩
      go_wp2_with fail
      go_ret
      exact⟨by rw [II a4.out f.out]; rfl,ad.out⟩
     ·have f:=hide (hR.out.next aa.out ab.out (by omega))
      go_wp2_with fail
      refine Reg.cN [0,0,3,7,0,0,32,112,240,511] ?_
      intro Qf ak
      go_wp2_with fail
      refine⟨rfl,?_⟩
      go_wp2_with fail
      exact⟨⟨j+1,by go_num,by omega,ad.out,f.out⟩,by simp [intOf]; omega⟩
    ·have f:=hide (hR.out.end_ (by omega))
     have al:=hide G
     go_wp2_with fail
     go_ret
     exact⟨by rw [HA a4.out f.out]; rfl,al.out⟩
end
end Go.Proofs.YtlakpndhhelliaaGreatDoor.K
namespace Go.Proofs.YtlakpndhhelliaaGreatDoor.K
open Go.RowKit
def F1 (l:Lin):Value:=.agg #[.int .i64 l.c,.int .i64 l.n,.int .i64 l.t,.int .i64 l.f]
theorem IQ {l:Lin} {b1 b2 b3 b4:Bool} (h:Cr l.c=b1) (y:Cr l.n=b2) (z:Cr l.t=b3) (C:Cr l.f=b4):AR l=(b1&&b2&&b3&&b4):=by
 unfold AR
 rw [h,y,z,C]
theorem Fr (l:Lin) (w:World):Calls Tryz.prog 47 #[F1 l] w (Ret fun r w'=>r=.bool (AR l)∧Below w.heap.size w w'):=by
 obtain⟨c,n,t,f⟩:=l
 unfold F1
 obtain⟨w1,V,E,F,W⟩:=Ag w #[.int .i64 c,.int .i64 n,.int .i64 t,.int .i64 f] 92
 have Z:=F.cell
 have G:=hide E
 clear E
 cases h:Cr c <;> cases y:Cr n <;> cases z:Cr t <;> cases C:Cr f
 all_goals
  have I:=hide (IQ (l:=⟨c,n,t,f⟩) h y z C)
  have J:=hide h
  have M:=hide y
  have O:=hide z
  have U:=hide C
  clear h y z C
  go_enter Tryz.func47,Tryz.ntmps47
  go_wp2_with (go_at_call 71; refine(N4 _ _).mono ?_; rintro e w' ⟨rfl,rfl⟩; first | rw [J.out] | rw [M.out] | rw [O.out] | rw [U.out])
  go_ret
  exact⟨by rw [I.out]; rfl,G.out⟩
theorem FS (l:Lin) (w:World):Calls Tryz.prog 54 #[F1 l] w (Ret fun r w'=>r=.bool (AR l)∧Below w.heap.size w w'):=by
 obtain⟨c,n,t,f⟩:=l
 unfold F1
 obtain⟨w1,V,E,F,W⟩:=Ag w #[.int .i64 c,.int .i64 n,.int .i64 t,.int .i64 f] 92
 have Z:=F.cell
 have G:=hide E
 clear E
 cases h:Cr c <;> cases y:Cr n <;> cases z:Cr t <;> cases C:Cr f
 all_goals
  have I:=hide (IQ (l:=⟨c,n,t,f⟩) h y z C)
  have J:=hide (show inC c (-100) 100=_ from h)
  have M:=hide (show inC n (-100) 100=_ from y)
  have O:=hide (show inC t (-100) 100=_ from z)
  have U:=hide (show inC f (-100) 100=_ from C)
  clear h y z C
  go_enter Tryz.func54,Tryz.ntmps54
  go_wp2_with (go_at_call 35; refine(Al _ _ _ _).mono ?_; rintro e w' ⟨rfl,rfl⟩; first | rw [J.out] | rw [M.out] | rw [O.out] | rw [U.out])
  go_ret
  exact⟨by rw [I.out]; rfl,G.out⟩
theorem Nh {w:World} {B c:Nat} {A:Option Addr} {l:List Int} {x:Int} (h:Sl w B 1 Ai A l):Calls Tryz.prog 51 #[.slice A l.length c,.int .i64 x] w fun r w'=>(∃z:Int,r=.returned (.int .i64 z)∧(0≤z↔x∈l))∧w=w':=by
 have M:=hide h
 have hn:=h.1
 clear h
 go_enter Tryz.func51,Tryz.ntmps51
 go_wp2_with fail
 go_loopw [8] (fun C wr=>∃(k:Nat),C=.int .i64 (k:Int)∧k≤l.length∧w=wr∧Hid (x∉l.take k)) (fun C _=>l.length - (intOf C).toNat)
 case atStart=>exact⟨0,rfl,Nat.zero_le _,(by first | rfl | trivial),by show ¬_; simp⟩
 case round=>
  obtain⟨k,rfl,hk,rfl,F⟩:=hrel
  by_cases O:k<l.length
  ·obtain⟨b,a3,e,U,a4,G,I⟩:=M.out.at O
   have V:=I 0 (by omega)
   simp only [Nat.add_zero,Nat.mul_one,Ai] at V
   have J:=hide G
   subst U
   clear I G
   by_cases f:x=e
   ·have y:=hide f
    clear f
    have W:(x==e)=true:=by simp [y.out]
    go_wp2_with fail
    go_ret
    exact⟨⟨(k:Int),rfl,fun _=>by rw [y.out]; exact List.mem_of_getElem? J.out,fun _=>by omega⟩,rfl⟩
   ·have y:=hide f
    have W:(x==e)=false:=by simp [f]
    clear f
    go_wp2_with fail
    exact⟨⟨k+1,by go_num,by omega,(by first | rfl | trivial),Do J.out F.out (fun e=>y.out e.symm)⟩,by simp [intOf]; omega⟩
  ·have e:k=l.length:=by omega
   have E:=F.out
   rw [e,List.take_length] at E
   have Z:=hide E
   clear E e
   go_wp2_with fail
   go_ret
   exact⟨⟨-1,rfl,fun h=>by omega,fun h=>absurd h Z.out⟩,rfl⟩
theorem Dx {w:World} {B c:Nat} {A:Option Addr} {l:List Int} {x:Int} (h:Sl w B 1 Ai A l):Calls Tryz.prog 25 #[.slice A l.length c,.int .i64 x] w fun r w'=>r=.returned (.bool (decide (x∈l)))∧w=w':=by
 have y:=hide h
 have E:=h.1
 clear h
 go_enter Tryz.func25,Tryz.ntmps25
 go_wp2_with (go_at_call 51; refine(Nh y.out).mono ?_; rintro r w' ⟨⟨z,rfl,f⟩,rfl⟩)
 have C:=hide f
 clear f
 go_ret
 refine⟨?_,rfl⟩
 have:decide (x∈l)=decide (0≤z):=decide_eq_decide.2 C.out.symm
 rw [this]
 first | rfl | trace_state
theorem Mg {w:World} {B c:Nat} {A:Option Addr} {l:List ByteArray} {x:ByteArray} (h:Sl w B 1 Bx A l):Calls Tryz.prog 92 #[.slice A l.length c,.string x] w fun r w'=>(∃z:Int,r=.returned (.int .i64 z)∧(0≤z↔x∈l))∧w=w':=by
 have M:=hide h
 have hn:=h.1
 clear h
 go_enter Tryz.func92,Tryz.ntmps92
 go_wp2_with fail
 go_loopw [8] (fun C wr=>∃(k:Nat),C=.int .i64 (k:Int)∧k≤l.length∧w=wr∧Hid (x∉l.take k)) (fun C _=>l.length - (intOf C).toNat)
 case atStart=>exact⟨0,rfl,Nat.zero_le _,(by first | rfl | trivial),by show ¬_; simp⟩
 case round=>
  obtain⟨k,rfl,hk,rfl,F⟩:=hrel
  by_cases O:k<l.length
  ·obtain⟨b,a3,e,U,a4,G,I⟩:=M.out.at O
   have V:=I 0 (by omega)
   simp only [Nat.add_zero,Nat.mul_one,Bx] at V
   have J:=hide G
   subst U
   clear I G
   by_cases f:x=e
   ·have y:=hide f
    clear f
    have W:(x.toList==e.toList)=true:=by rw [CR]; exact decide_eq_true y.out
    go_wp2_with fail
    go_ret
    exact⟨⟨(k:Int),rfl,fun _=>by rw [y.out]; exact List.mem_of_getElem? J.out,fun _=>by omega⟩,rfl⟩
   ·have y:=hide f
    have W:(x.toList==e.toList)=false:=by rw [CR]; exact decide_eq_false f
    clear f
    go_wp2_with fail
    exact⟨⟨k+1,by go_num,by omega,(by first | rfl | trivial),Do J.out F.out (fun e=>y.out e.symm)⟩,by simp [intOf]; omega⟩
  ·have e:k=l.length:=by omega
   have E:=F.out
   rw [e,List.take_length] at E
   have Z:=hide E
   clear E e
   go_wp2_with fail
   go_ret
   exact⟨⟨-1,rfl,fun h=>by omega,fun h=>absurd h Z.out⟩,rfl⟩
theorem IH {w:World} {B c:Nat} {A:Option Addr} {l:List ByteArray} {x:ByteArray} (h:Sl w B 1 Bx A l):Calls Tryz.prog 70 #[.slice A l.length c,.string x] w fun r w'=>r=.returned (.bool (decide (x∈l)))∧w=w':=by
 have y:=hide h
 have E:=h.1
 clear h
 go_enter Tryz.func70,Tryz.ntmps70
 go_wp2_with (go_at_call 92; refine(Mg y.out).mono ?_; rintro r w' ⟨⟨z,rfl,f⟩,rfl⟩)
 have C:=hide f
 clear f
 go_ret
 refine⟨?_,rfl⟩
 have:decide (x∈l)=decide (0≤z):=decide_eq_decide.2 C.out.symm
 rw [this]
 first | rfl | trace_state
end Go.Proofs.YtlakpndhhelliaaGreatDoor.K
