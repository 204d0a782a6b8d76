/-
  Part CA of a proof.
-/
import Derived.Lib.Fields
import Derived.Test.YtjejejmeddkciaaGreatDoorPA
import Derived.Test.YtjejejmeddkciaaGreatDoorPB
set_option maxHeartbeats 16000000
set_option maxRecDepth 100000
set_option linter.unusedVariables false
set_option linter.unusedSimpArgs false
namespace Go.Proofs.YtjejejmeddkciaaGreatDoor.K
instance Uu:DecidableEq ByteArray:=fun a b=>decidable_of_iff (a.data=b.data) ⟨ByteArray.ext,fun e=>by rw [e]⟩
instance Uv:LawfulBEq ByteArray where
 eq_of_beq {a b} h:=by
  have h2:(a.data==b.data)=true:=h;exact ByteArray.ext (eq_of_beq h2)
 rfl {a}:=by
  show(a.data==a.data)=true
  simp
theorem DM (a b:ByteArray):(a.toList==b.toList)=decide (a=b):=by
 rw [ByteArray.toList_eq,ByteArray.toList_eq,Bool.eq_iff_iff,beq_iff_eq,decide_eq_true_eq];exact⟨fun h=>ByteArray.ext (Array.toList_inj.1 h),fun h=>by rw [h]⟩
structure Lin where
 c:Int
 n:Int
 t:Int
 f:Int
structure Thr where
 msg:Int
 coef:Int
 bound:Lin
structure Az where
 name:ByteArray
 kind:Int
 fr:Int
 to:Int
 pf:Int
 pt:Int
 resp:List Int
 guards:List Thr
 ex:List Int
 fa:List Int
 rd:Int
 wr:Int
 send:List Int
 at_:Int
 left:List Int
 right:List Int
 parent:List Int
 dir:Int
structure Am where
 name:ByteArray
 topo:Int
 states:List ByteArray
 messages:List ByteArray
 values:List ByteArray
 fault:Int
 res:List Lin
 initial:List Int
 leader:List Int
 rules:List Az
structure D9 where
 states:List Int
 least:Int
structure AB where
 name:ByteArray
 kind:Int
 start:List Int
 bad:List D9
 adj:List Int
 goal:List Int
deriving instance DecidableEq for Lin
deriving instance DecidableEq for Thr
def orE (a b:Int):Int:=if a=0 then b else a
def Ad (b:Bool) (e:Int):Int:=if b then e else 0
def Aj {A:Type} (f:A->Int):List A->Int
 | []=>0
 | x::l=>orE (f x) (Aj f l)
theorem AY (b:Int):orE 0 b=b:=rfl
theorem BF {a b:Int} (h:a≠0):orE a b=a:=if_neg h
theorem Ef (a b c:Int):orE (orE a b) c=orE a (orE b c):=by
 unfold orE;split <;> simp_all
theorem Bk (a:Int):orE a 0=a:=by
 unfold orE;split <;> simp_all
theorem IP {A:Type} (f:A->Int):∀l m:List A,Aj f (l++m)=orE (Aj f l) (Aj f m)
 | [],m=>rfl
 | x::l,m=>by rw [List.cons_append,Aj,Aj,IP f l m,Ef]
theorem CD {A:Type} (f:A->Int) {l:List A} {k:Nat} {x:A} (C:l[k]?=some x) (h:Aj f (l.take k)=0):Aj f (l.take (k+1))=f x:=by
 rw [show l.take (k+1)=l.take k++[x] by rw [List.take_add_one,C];rfl,IP,h,AY,Aj,Aj,Bk]
theorem Ct {A:Type} (f:A->Int):∀{l:List A} {k:Nat} {x:A},l[k]?=some x->Aj f (l.take k)=0->f x≠0->Aj f l=f x
 | y::l,0,x,hx,_,hf=>by
  have:y=x:=by simpa using hx
  subst this;rw [Aj,BF hf]
 | y::l,k+1,x,hx,h,hf=>by
  rw [List.take_succ_cons,Aj] at h;have h1:f y=0:=by
   unfold orE at h;split at h
   ·assumption
   ·exact absurd h ‹_›
  rw [h1,AY] at h;rw [Aj,h1,AY];exact Ct f (by simpa using hx) h hf
def DB (c:UInt8):Bool:=decide (97<=c.toNat)&&decide (c.toNat<=122)
def Hk (c:UInt8):Bool:=decide (48<=c.toNat)&&decide (c.toNat<=57)
def nmB (c:UInt8):Bool:=DB c||Hk c||decide (c.toNat=95)
def F3:List UInt8->Bool
 | []=>false
 | c::l=>decide (l.length<12)&&DB c&&l.all nmB
def inE (i n:Int):Bool:=decide (0<=i)&&decide (i<n)
def DT:List Int->Bool
 | []=>true
 | [_]=>true
 | a::b::l=>decide (a<b)&&DT (b::l)
def Aa (l:List Int) (n:Int):Int:=orE (Ad (!l.all (inE · n)) 5) (Ad (!DT l) 1)
def CE (n:Int):Bool:=decide (-100<=n)&&decide (n<=100)
def Bg (l:Lin):Bool:=CE l.c&&CE l.n&&CE l.t&&CE l.f
def Bd (p:Am):List ByteArray:=p.states++p.messages++p.values
def CU (ok:ByteArray->Bool) (l:List ByteArray):Int:=Aj (fun i=>Ad (!ok (l.getD i .empty)||decide (l.getD i .empty∈l.take i)) 2) (List.range l.length)
def B9 (topo:Int) (r:Az):Bool:=
 (!decide (r.kind=1)&&(!r.guards.isEmpty||!r.ex.isEmpty||!r.fa.isEmpty||!r.send.isEmpty))||
 ((!decide (r.kind=1)&&!decide (r.kind=2)&&!decide (r.kind=3))&&(!decide (r.rd= -1)||!decide (r.wr= -1)))||
 ((!decide (r.kind=2)&&!decide (r.kind=5))&&(!decide (r.pf=0)||!decide (r.pt=0)))||
 (!decide (r.kind=3)&&!r.resp.isEmpty)||(!decide (r.kind=5)&&!decide (r.dir=0))||
 (!decide (r.kind=4)&&(!decide (r.at_=0)||!r.left.isEmpty||!r.right.isEmpty))||
 (!r.parent.isEmpty&&!(decide (r.kind=4)&&decide (topo=4)))
def B7 (m:Int) (g:Thr):Int:=orE (Ad (!inE g.msg m) 5) (orE (Ad (!(decide (1<=g.coef)&&decide (g.coef<=100))) 1) (Ad (!Bg g.bound) 4))
def C8 (n:Int) (l:List Int):Int:=if (l.length:Int)≠n then 1 else Aj (fun x=>Ad (!inE x n) 5) l
def AO (v k:Int):Bool:=decide (-1<=v)&&decide (v<k)
def BC (ok:ByteArray->Bool) (topo n m k:Int) (taken:Bool) (r:Az):Int:=
 orE (Ad (!ok r.name||taken) 2)
 (orE (Ad (!(decide (1<=r.kind)&&decide (r.kind<=5))||(decide (r.kind<=3) != decide (topo=1))||B9 topo r) 6)
 (orE (Ad (!inE r.fr n||!inE r.to n||(decide (r.kind=2)||decide (r.kind=5))&&(!inE r.pf n||!inE r.pt n)) 5)
 (orE (if r.kind=3 then C8 n r.resp else 0)
 (orE (Aj (B7 m) r.guards)
 (orE (Ad (decide (2<r.guards.length)) 4)
 (orE (Aa r.ex n)
 (orE (Aa r.fa n)
 (orE (Ad (!AO r.rd k||!AO r.wr k) 5)
 (orE (Aa r.send m)
 (orE (Aa r.left n)
 (orE (Aa r.right n)
 (orE (Aa r.parent n)
 (orE (Ad (decide (r.kind=4)&&(!(decide (0<=r.at_)&&decide (r.at_<=2))||(!decide (r.at_=0)&&decide (topo=3)))) 1)
 (orE (Ad (decide (r.kind=5)&&decide (topo=4)&&!(decide (3<=r.dir)&&decide (r.dir<=4))) 1)
 (Ad (decide (r.kind=5)&&!decide (topo=4)&&!(decide (1<=r.dir)&&decide (r.dir<=2))) 1)))))))))))))))
def BB (ok:ByteArray->Bool) (p:Am) (i:Nat):Int:=
 match p.rules[i]? with
 | none=>0
 | some r=>BC ok p.topo p.states.length p.messages.length p.values.length ((p.rules.take i).any fun x=>decide (x.name=r.name)) r
def Bx (l:List Thr) (g:Thr):List Thr:=if g∈l then l else l++[g]
def BO (l:List Az):List Thr:=(l.flatMap Az.guards).foldl Bx []
def protE (ok:ByteArray->Bool) (p:Am):Int:=
 orE (Ad (!ok p.name) 2)
 (orE (Ad (!(decide (1<=p.topo)&&decide (p.topo<=4))||!(decide (0<=p.fault)&&decide (p.fault<=3))) 1)
 (orE (Ad p.states.isEmpty 1)
 (orE (Ad (decide (6<p.states.length)||decide (3<p.messages.length)||decide (3<p.values.length)||decide (4<p.res.length)||decide (8<p.rules.length)) 4)
 (orE (CU ok (Bd p))
 (orE (Ad ((!decide (p.topo=1)&&(!p.messages.isEmpty||!p.values.isEmpty||!p.res.isEmpty||!decide (p.fault=0)))||(decide (p.topo=1)&&!p.leader.isEmpty)) 1)
 (orE (Ad (!p.res.all Bg) 4)
 (orE (Aa p.initial p.states.length)
 (orE (Ad p.initial.isEmpty 1)
 (orE (Aa p.leader p.states.length)
 (orE (Aj (BB ok p) (List.range p.rules.length))
 (Ad (decide (3<(BO p.rules).length)) 4)))))))))))
def AV (n:Int) (c:D9):Int:=orE (Aa c.states n) (Ad (c.states.isEmpty||!(decide (1<=c.least)&&decide (c.least<=3))) 1)
def BA (topo n:Int) (l:List Int):Int:=
 orE (Ad (!l.isEmpty&&decide (topo=1)) 6) (orE (Ad (!l.isEmpty&&!decide (l.length=2)) 1) (Aj (fun x=>Ad (!inE x n) 5) l))
def aCq (ok:ByteArray->Bool) (p:Am) (q:AB):Int:=
 orE (protE ok p)
 (orE (Ad (!ok q.name) 2)
 (orE (Ad (!decide (q.kind=1)&&!decide (q.kind=2)) 1)
 (orE (Ad ((decide (q.kind=1)&&!q.goal.isEmpty)||(decide (q.kind=2)&&(!q.bad.isEmpty||!q.adj.isEmpty))) 1)
 (orE (Aa q.start p.states.length)
 (orE (Ad (!q.start.all fun x=>decide (x∈p.initial)) 5)
 (if q.kind=2 then orE (Aa q.goal p.states.length) (Ad q.goal.isEmpty 1) else
  orE (Ad (q.bad.isEmpty&&q.adj.isEmpty) 1)
  (orE (Ad (decide (3<q.bad.length)) 4)
  (orE (Aj (AV p.states.length) q.bad) (BA p.topo p.states.length q.adj)))))))))
end Go.Proofs.YtjejejmeddkciaaGreatDoor.K
namespace Go.Proofs.YtjejejmeddkciaaGreatDoor.K
open Go.RowKit
def BE (x:ByteArray) (_:Nat):Value:=.string x
def EG (l:Lin):Nat->Value
 | 0=>.int .i64 l.c
 | 1=>.int .i64 l.n
 | 2=>.int .i64 l.t
 | _=>.int .i64 l.f
def CS (g:Thr):Nat->Value
 | 0=>.int .i64 g.msg
 | 1=>.int .i64 g.coef
 | 2=>.int .i64 g.bound.c
 | 3=>.int .i64 g.bound.n
 | 4=>.int .i64 g.bound.t
 | _=>.int .i64 g.bound.f
def BR {D:Type} (w:World) (B k:Nat) (R:List Value->D->Prop) (A:Option Addr) (ds:List D):Prop:=
 ds.length<=9223372036854775807/\(ds≠[]->∃b off,A=some ⟨b,off,none⟩/\b<B/\∀(i:Nat) (d:D),ds[i]?=some d->∃cs:List Value,cs.length=k/\(∀(j:Nat) (u:Value),cs[j]?=some u->w.cell? ⟨b,off+i*k+j,none⟩=some u)/\R cs d)
section
variable {D:Type} {w w':World} {B B' k:Nat} {R R':List Value->D->Prop} {A:Option Addr} {ds:List D}
theorem BR.keep (h:BR w B k R A ds) (J:∀p:Addr,p.block<B->w'.cell? p=w.cell? p) (C:∀cs d,R cs d->R' cs d) (W:B<=B'):BR w' B' k R' A ds:=
 ⟨h.1,fun O=>by
  obtain⟨b,off,e,E,F⟩:=h.2 O;refine⟨b,off,e,by omega,fun i d I=>?_⟩;obtain⟨cs,M,G,U⟩:=F i d I;exact⟨cs,M,fun j u V=>(J _ E).trans (G j u V),C _ _ U⟩⟩
theorem BR.at (h:BR w B k R A ds) {i:Nat} (C:i<ds.length):∃b off d cs,A=some ⟨b,off,none⟩/\b<B/\ds[i]?=some d/\cs.length=k/\(∀(j:Nat) (u:Value),cs[j]?=some u->w.cell? ⟨b,off+i*k+j,none⟩=some u)/\R cs d:=by
 obtain⟨b,off,e,E,F⟩:=h.2 (by intro e;subst e;simp at C);obtain⟨cs,I,G,J⟩:=F i ds[i] (List.getElem?_eq_getElem C);exact⟨b,off,ds[i],cs,e,E,List.getElem?_eq_getElem C,I,G,J⟩
theorem BR.take (h:BR w B k R A ds) (n:Nat):BR w B k R A (ds.take n):=
 ⟨Nat.le_trans (List.length_take_le' ..) h.1,fun G=>by
  obtain⟨b,off,e,E,F⟩:=h.2 (by rintro rfl;simp at G);refine⟨b,off,e,E,fun i d C=>F i d ?_⟩;rw [List.getElem?_take] at C;split at C
  ·exact C
  ·cases C⟩
theorem BR.nil (h:ds=[]):BR w B k R A ds:=by subst h;exact⟨by simp,fun h=>absurd rfl h⟩
end
def AW (w:World) (B:Nat) (cs:List Value) (r:Az):Prop:=
 ∃A1 c1 A2 c2 A3 c3 A4 c4 A5 c5 A6 c6 A7 c7 A8 c8,cs=[.string r.name,.int .i64 r.kind,.int .i64 r.fr,.int .i64 r.to,.int .i64 r.pf,.int .i64 r.pt,.slice A1 r.resp.length c1,.slice A2 r.guards.length c2,.slice A3 r.ex.length c3,.slice A4 r.fa.length c4,
  .int .i64 r.rd,.int .i64 r.wr,.slice A5 r.send.length c5,.int .i64 r.at_,.slice A6 r.left.length c6,.slice A7 r.right.length c7,.slice A8 r.parent.length c8,.int .i64 r.dir]/\
  Sl w B 1 Ai A1 r.resp/\Sl w B 6 CS A2 r.guards/\Sl w B 1 Ai A3 r.ex/\Sl w B 1 Ai A4 r.fa/\Sl w B 1 Ai A5 r.send/\Sl w B 1 Ai A6 r.left/\Sl w B 1 Ai A7 r.right/\Sl w B 1 Ai A8 r.parent
def Db (w:World) (B:Nat) (cs:List Value) (c:D9):Prop:=∃A1 c1,cs=[.slice A1 c.states.length c1,.int .i64 c.least]/\Sl w B 1 Ai A1 c.states
def At (w:World) (B:Nat) (cs:List Value) (p:Am):Prop:=
 ∃A1 c1 A2 c2 A3 c3 A4 c4 A5 c5 A6 c6 A7 c7,cs=[.string p.name,.int .i64 p.topo,.slice A1 p.states.length c1,.slice A2 p.messages.length c2,.slice A3 p.values.length c3,.int .i64 p.fault,.slice A4 p.res.length c4,.slice A5 p.initial.length c5,.slice A6 p.leader.length c6,.slice A7 p.rules.length c7]/\
  Sl w B 1 BE A1 p.states/\Sl w B 1 BE A2 p.messages/\Sl w B 1 BE A3 p.values/\Sl w B 4 EG A4 p.res/\Sl w B 1 Ai A5 p.initial/\Sl w B 1 Ai A6 p.leader/\BR w B 18 (AW w B) A7 p.rules/\p.rules.length<=c7
def Ba (w:World) (B:Nat) (cs:List Value) (q:AB):Prop:=
 ∃A1 c1 A2 c2 A3 c3 A4 c4,cs=[.string q.name,.int .i64 q.kind,.slice A1 q.start.length c1,.slice A2 q.bad.length c2,.slice A3 q.adj.length c3,.slice A4 q.goal.length c4]/\
  Sl w B 1 Ai A1 q.start/\BR w B 2 (Db w B) A2 q.bad/\Sl w B 1 Ai A3 q.adj/\Sl w B 1 Ai A4 q.goal
section
variable {w w':World} {B B':Nat} {cs:List Value}
theorem AW.keep {r:Az} (h:AW w B cs r) (E:∀p:Addr,p.block<B->w'.cell? p=w.cell? p) (C:B<=B'):AW w' B' cs r:=by
 obtain⟨F,c1,G,c2,I,c3,J,V,M,W,O,Z,A7,c7,U,c8,e,h1,h2,h3,h4,h5,h6,h7,h8⟩:=h;exact⟨F,c1,G,c2,I,c3,J,V,M,W,O,Z,A7,c7,U,c8,e,h1.keep E C,h2.keep E C,h3.keep E C,h4.keep E C,h5.keep E C,h6.keep E C,h7.keep E C,h8.keep E C⟩
theorem Db.keep {c:D9} (h:Db w B cs c) (F:∀p:Addr,p.block<B->w'.cell? p=w.cell? p) (E:B<=B'):Db w' B' cs c:=by
 obtain⟨C,c1,e,h1⟩:=h;exact⟨C,c1,e,h1.keep F E⟩
theorem At.keep {p:Am} (h:At w B cs p) (E:∀p:Addr,p.block<B->w'.cell? p=w.cell? p) (C:B<=B'):At w' B' cs p:=by
 obtain⟨F,c1,G,c2,I,c3,J,U,M,V,O,W,A7,c7,e,h1,Z,h3,h4,h5,h6,h7,h8⟩:=h;exact⟨F,c1,G,c2,I,c3,J,U,M,V,O,W,A7,c7,e,h1.keep E C,Z.keep E C,h3.keep E C,h4.keep E C,h5.keep E C,h6.keep E C,h7.keep E (fun _ _ h=>h.keep E C) C,h8⟩
theorem Ba.keep {q:AB} (h:Ba w B cs q) (E:∀p:Addr,p.block<B->w'.cell? p=w.cell? p) (C:B<=B'):Ba w' B' cs q:=by
 obtain⟨F,c1,G,c2,I,c3,J,M,e,h1,O,U,V⟩:=h;exact⟨F,c1,G,c2,I,c3,J,M,e,h1.keep E C,O.keep E (fun _ _ h=>h.keep E C) C,U.keep E C,V.keep E C⟩
end
end Go.Proofs.YtjejejmeddkciaaGreatDoor.K
namespace Go.Proofs.YtjejejmeddkciaaGreatDoor.K
theorem Fv (n:Int):Aa [] n=0:=rfl
theorem FF (a b:Bool) (e:Int):Ad (a||b) e=orE (Ad a e) (Ad b e):=by
 cases a <;> cases b <;> simp [Ad,orE]
def Dx (kind topo:Int):Bool:=if kind=1\/kind=2\/kind=3 then decide (topo=1) else if kind=4\/kind=5 then !decide (topo=1) else false
def Be (resp guards ex fa send left right parent:Nat) (pf pt at_ dir rd wr:Int):Bool:=
 decide (0<resp+guards+ex+fa+send+left+right+parent)||!decide (pf=0)||!decide (pt=0)||!decide (at_=0)||!decide (dir=0)||!decide (rd= -1)||!decide (wr= -1)
def As (topo:Int) (r:Az):Bool:=
 if r.kind=1 then Be r.resp.length 0 0 0 0 r.left.length r.right.length r.parent.length r.pf r.pt r.at_ r.dir (-1) (-1)
 else if r.kind=2 then (if 0<r.resp.length then true else Be 0 r.guards.length r.ex.length r.fa.length r.send.length r.left.length r.right.length r.parent.length 0 0 r.at_ r.dir (-1) (-1))
 else if r.kind=3 then Be 0 r.guards.length r.ex.length r.fa.length r.send.length r.left.length r.right.length r.parent.length r.pf r.pt r.at_ r.dir (-1) (-1)
 else if r.kind=4 then Be r.resp.length r.guards.length r.ex.length r.fa.length r.send.length 0 0 (if topo=4 then 0 else r.parent.length) r.pf r.pt 0 r.dir r.rd r.wr
 else if r.kind=5 then Be r.resp.length r.guards.length r.ex.length r.fa.length r.send.length r.left.length r.right.length r.parent.length 0 0 r.at_ 0 r.rd r.wr
 else Be r.resp.length r.guards.length r.ex.length r.fa.length r.send.length r.left.length r.right.length r.parent.length r.pf r.pt r.at_ r.dir r.rd r.wr
def Dy (m:Int) (l:List Thr):Int:=orE (Aj (B7 m) l) (Ad (decide (2<l.length)) 4)
def AD (i n:Int):Int:=Ad (!inE i n) 5
def Bn (v k:Int):Int:=Ad (!AO v k) 5
def Cx (topo n m k:Int) (r:Az):Int:=
 if r.kind=1 then orE (Dy m r.guards) (orE (Aa r.ex n) (orE (Aa r.fa n) (orE (Bn r.rd k) (orE (Bn r.wr k) (Aa r.send m)))))
 else if r.kind=2 then orE (AD r.pf n) (orE (AD r.pt n) (orE (Bn r.rd k) (Bn r.wr k)))
 else if r.kind=3 then orE (C8 n r.resp) (orE (Bn r.rd k) (Bn r.wr k))
 else if r.kind=4 then orE (Aa r.left n) (orE (Aa r.right n) (orE (Aa r.parent n) (Ad (decide (r.at_<0)||decide (2<r.at_)||(!decide (r.at_=0)&&decide (topo=3))) 1)))
 else orE (AD r.pf n) (orE (AD r.pt n) (Ad (if topo=4 then decide (r.dir<3)||decide (4<r.dir) else decide (r.dir<1)||decide (2<r.dir)) 1))
def Gd (ok:ByteArray->Bool) (topo n m k:Int) (taken:Bool) (r:Az):Int:=
 orE (Ad (!ok r.name||taken) 2) (orE (Ad (!Dx r.kind topo||As topo r) 6) (orE (orE (AD r.fr n) (AD r.to n)) (Cx topo n m k r)))
theorem TV (k:Int) (h:0<=k):Bn (-1) k=0:=by
 unfold Bn AO Ad;simp;omega
theorem Bv {A:Type} (l:List A):l.isEmpty=decide (l.length=0):=by cases l <;> simp
theorem P1 (topo:Int) (r:Az):(!Dx r.kind topo||As topo r)=(!(decide (1<=r.kind)&&decide (r.kind<=5))||(decide (r.kind<=3) != decide (topo=1))||B9 topo r):=by
 obtain⟨name,kind,fr,to,pf,pt,resp,guards,ex,fa,rd,wr,send,at_,left,right,parent,dir⟩:=r;simp only [Dx,As,B9,Be,Bv];generalize resp.length=n1;generalize guards.length=n2;generalize ex.length=n3;generalize fa.length=n4;generalize send.length=n5;generalize left.length=n6;generalize right.length=n7;generalize parent.length=n8;by_cases h1:kind=1
 ·subst h1;rw [Bool.eq_iff_iff];simp;omega
 by_cases h:kind=2
 ·subst h;rw [Bool.eq_iff_iff];by_cases G:0<n1
  ·simp [G];omega
  ·simp [G];omega
 by_cases C:kind=3
 ·subst C;rw [Bool.eq_iff_iff];simp;omega
 by_cases E:kind=4
 ·subst E;rw [Bool.eq_iff_iff];by_cases ht:topo=4
  ·simp [ht];omega
  ·simp [ht];omega
 by_cases F:kind=5
 ·subst F;rw [Bool.eq_iff_iff];simp;omega
 ·rw [Bool.eq_iff_iff];simp [h1,h,C,E,F];omega
theorem FG (e:Int):Ad false e=0:=rfl
theorem KU (ok:ByteArray->Bool) (topo n m k:Int) (U:0<=k) (J:Bool) (r:Az):Gd ok topo n m k J r=BC ok topo n m k J r:=by
 unfold Gd BC;congr 1;rw [P1];cases G:(!(decide (1<=r.kind)&&decide (r.kind<=5))||(decide (r.kind<=3) != decide (topo=1))||B9 topo r)
 case true=>simp [Ad,orE]
 case false=>
  rw [show Ad false 6=0 from rfl,AY,AY];simp only [Bool.or_eq_false_iff,Bool.not_eq_false'] at G;obtain⟨⟨I,-⟩,h⟩:=G;simp only [Bool.and_eq_true,decide_eq_true_eq] at I;have C:Bn (-1) k=0:=TV k U;unfold Bn at C;obtain⟨name,kind,fr,to,pf,pt,resp,guards,ex,fa,rd,wr,send,at_,left,right,parent,dir⟩:=r;dsimp only at I h ⊢;have V:kind=1\/kind=2\/kind=3\/kind=4\/kind=5:=by omega
  unfold Cx Dy AD Bn B9 at*;rcases V with rfl|rfl|rfl|rfl|rfl <;> simp [and_assoc] at h
  ·obtain⟨rfl,rfl,rfl,rfl,rfl,rfl,rfl,rfl⟩:=h;simp [AY,Fv,FG,Bk,Ef,FF]
  ·obtain⟨rfl,rfl,rfl,rfl,rfl,rfl,rfl,rfl,rfl,rfl⟩:=h;simp [AY,Fv,FG,Bk,Ef,FF,Aj]
  ·obtain⟨rfl,rfl,rfl,rfl,rfl,rfl,rfl,rfl,rfl,rfl,rfl⟩:=h;simp [AY,Fv,FG,Bk,Ef,FF,Aj]
  ·obtain⟨rfl,rfl,rfl,rfl,rfl,rfl,rfl,rfl,rfl,rfl,-⟩:=h;have E:decide (at_<0)= !decide (0<=at_):=by rw [Bool.eq_iff_iff];simp
   have F:decide (2<at_)= !decide (at_<=2):=by rw [Bool.eq_iff_iff];simp
   simp [AY,Fv,FG,Ef,FF,Aj,C,E,F,Bk]
  ·obtain⟨rfl,rfl,rfl,rfl,rfl,rfl,rfl,rfl,rfl,rfl,rfl⟩:=h;have E:decide (dir<3)= !decide (3<=dir):=by rw [Bool.eq_iff_iff];simp
   have F:decide (4<dir)= !decide (dir<=4):=by rw [Bool.eq_iff_iff];simp
   have M:decide (dir<1)= !decide (1<=dir):=by rw [Bool.eq_iff_iff];simp
   have O:decide (2<dir)= !decide (dir<=2):=by rw [Bool.eq_iff_iff];simp
   by_cases ht:topo=4
   ·simp [AY,Fv,FG,Ef,FF,Aj,C,E,F,ht,Bk]
   ·simp [AY,Fv,FG,Ef,FF,Aj,C,M,O,ht]
end Go.Proofs.YtjejejmeddkciaaGreatDoor.K
namespace Go.Proofs.YtjejejmeddkciaaGreatDoor.K
open Go.RowKit
def inC (n lo hi:Int):Bool:=decide (lo<=n)&&decide (n<=hi)
theorem C5 (n k:Int):inE n k=inC n 0 (k - 1):=by
 unfold inE inC;congr 1;exact decide_eq_decide.2 (by omega)
theorem Ap (w:World):Below w.heap.size w w.drew:=⟨rfl,rfl,rfl,Nat.le_refl _,fun _ _=>rfl⟩
theorem Ce (b:Bool) (e:Int) (w:World):Calls Tryz.prog 90 #[.bool b,.int .i64 e] w fun r w'=>r=.returned (.int .i64 (Ad b e))/\w=w':=by
 cases b
 all_goals
  go_enter Tryz.func90,Tryz.ntmps90;go_wp2;go_ret;exact⟨rfl,rfl⟩
theorem Cu (i n:Int) (w:World):Calls Tryz.prog 145 #[.int .i64 i,.int .i64 n] w fun r w'=>r=.returned (.int .i64 (AD i n))/\w=w':=by
 have key:∀b:Bool,b= !inE i n->Ad b 5=AD i n:=fun b C=>by rw [C];rfl
 by_cases h:i<0
 ·have C:=hide (key true (by simp [inE];omega));clear key;go_enter Tryz.func145,Tryz.ntmps145;go_wp2_with (go_at_call 90;refine(Ce _ _ _).mono ?_;rintro e w' ⟨rfl,rfl⟩;rw [C.out]);go_ret;exact⟨rfl,rfl⟩
 ·by_cases E:n<=i
  ·have C:=hide (key true (by simp [inE];omega));clear key;go_enter Tryz.func145,Tryz.ntmps145;go_wp2_with (go_at_call 90;refine(Ce _ _ _).mono ?_;rintro e w' ⟨rfl,rfl⟩;rw [C.out]);go_ret;exact⟨rfl,rfl⟩
  ·have C:=hide (key false (by simp [inE];omega));clear key;go_enter Tryz.func145,Tryz.ntmps145;go_wp2_with (go_at_call 90;refine(Ce _ _ _).mono ?_;rintro e w' ⟨rfl,rfl⟩;rw [C.out]);go_ret;exact⟨rfl,rfl⟩
theorem PS (n:Int) (w:World):Calls Tryz.prog 170 #[.int .i64 n] w fun r w'=>r=.returned (.bool (CE n))/\w=w':=by
 by_cases h:-100<=n
 all_goals
  go_enter Tryz.func170,Tryz.ntmps170;go_wp2;go_ret;exact⟨by simp [CE];omega,rfl⟩
theorem Aq (n C E:Int) (w:World):Calls Tryz.prog 138 #[.int .i64 n,.int .i64 C,.int .i64 E] w fun e w'=>e=.returned (.bool (inC n C E))/\w=w':=by
 by_cases h:C<=n
 all_goals
  go_enter Tryz.func138,Tryz.ntmps138;go_wp2;go_ret;exact⟨by simp [inC];omega,rfl⟩
theorem Ci {w:World} {B c:Nat} {A:Option Addr} {l:List Int} (h:Sl w B 1 Ai A l):Calls Tryz.prog 89 #[.slice A l.length c] w fun r w'=>r=.returned (.int .i64 (Aj id l))/\w=w':=by
 have W:=hide h;have hn:=h.1;clear h;go_enter Tryz.func89,Tryz.ntmps89;go_wp2_with fail;go_loopw [7] (fun G wr=>∃(k:Nat),G=.int .i64 (k:Int)/\k<=l.length/\w=wr/\Hid (Aj id (l.take k)=0)) (fun G _=>l.length - (intOf G).toNat)
 case atStart=>exact⟨0,rfl,Nat.zero_le _,(by first|rfl|trivial),rfl⟩
 case round=>
  obtain⟨k,rfl,hk,rfl,E⟩:=hrel;by_cases Z:k<l.length
  ·obtain⟨b,off,e,U,a3,J,I⟩:=W.out.at Z;have O:=I 0 (by omega);simp only [Nat.add_zero,Nat.mul_one,Ai] at O;have M:=hide J;subst U;clear I J;by_cases h0:e=0
   ·have C:=hide h0;clear h0;have hq:(e==0)=true:=by simp [C.out]
    go_wp2_with fail;refine⟨⟨k+1,by go_num,by omega,(by first|rfl|trivial),?_⟩,by simp [intOf];omega⟩;show _=_
    rw [CD id M.out E.out];exact C.out
   ·have C:=hide h0;have hq:(e==0)=false:=by simp [h0]
    clear h0;go_wp2_with fail;go_ret;exact⟨by rw [Ct id M.out E.out C.out];rfl,rfl⟩
  ·have e:k=l.length:=by omega
   have F:=E.out;rw [e,List.take_length] at F;have V:=hide F;clear F e;go_wp2_with fail;go_ret;exact⟨by rw [V.out];rfl,rfl⟩
end Go.Proofs.YtjejejmeddkciaaGreatDoor.K
namespace Go.Proofs.YtjejejmeddkciaaGreatDoor.K
open Go.RowKit
theorem DQ {D:Type} {l:List D} {k:Nat} {x y:D} (F:l[k]?=some x) (h:y∉l.take k) (E:x≠y):y∉l.take (k+1):=by
 rw [List.take_add_one,F];intro C;rcases List.mem_append.1 C with C|C
 ·exact h C
 ·have:y=x:=by simpa using C
  exact E this.symm
theorem Cq {D:Type} {p:D->Bool} {l:List D} {k:Nat} {x:D} (C:l[k]?=some x) (h:(l.take k).all p=true) (E:p x=true):(l.take (k+1)).all p=true:=by
 rw [List.take_add_one,C];simp_all
theorem Hc {D:Type} {p:D->Bool} {l:List D} {k:Nat} {x:D} (C:l[k]?=some x) (h:p x=false):l.all p=false:=by
 rw [List.all_eq_false];exact⟨x,List.mem_of_getElem? C,by simp [h]⟩
theorem Ia:∀l:List Int,DT l=true↔∀i a b,l[i]?=some a->l[i+1]?=some b->a<b
 | []=>by simp [DT]
 | [a]=>by simp [DT]
 | a::b::l=>by
  rw [DT,Bool.and_eq_true,Ia (b::l),decide_eq_true_eq];constructor
  ·rintro⟨h1,F⟩ i x y C E;cases i with
   | zero=>
    have G:a=x:=by simpa using C
    have I:b=y:=by simpa using E
    omega
   | succ i=>exact F i x y (by simpa using C) (by simpa using E)
  ·intro h;exact⟨h 0 a b rfl rfl,fun i x y C E=>h (i+1) x y (by simpa using C) (by simpa using E)⟩
section
variable {w:World} {B c:Nat} {A:Option Addr}
theorem aA0 {l:List Int} {x:Int} (h:Sl w B 1 Ai A l):Calls Tryz.prog 84 #[.slice A l.length c,.int .i64 x] w fun r w'=>r=.returned (.bool (decide (x∈l)))/\w=w':=by
 have W:=hide h;have hn:=h.1;clear h;go_enter Tryz.func84,Tryz.ntmps84;go_wp2_with fail;go_loopw [5] (fun F wr=>∃(k:Nat),F=.int .i64 (k:Int)/\k<=l.length/\w=wr/\Hid (x∉l.take k)) (fun F _=>l.length - (intOf F).toNat)
 case atStart=>exact⟨0,rfl,Nat.zero_le _,(by first|rfl|trivial),by show ¬_;simp⟩
 case round=>
  obtain⟨k,rfl,hk,rfl,G⟩:=hrel;by_cases Z:k<l.length
  ·obtain⟨b,off,e,U,a3,J,I⟩:=W.out.at Z;have O:=I 0 (by omega);simp only [Nat.add_zero,Nat.mul_one,Ai] at O;have M:=hide J;subst U;clear I J;by_cases h0:e=x
   ·have C:=hide h0;clear h0;have hq:(e==x)=true:=by simp [C.out]
    go_wp2_with fail;go_ret;exact⟨by rw [decide_eq_true (by rw [<-C.out];exact List.mem_of_getElem? M.out)];rfl,rfl⟩
   ·have C:=hide h0;have hq:(e==x)=false:=by simp [h0]
    clear h0;go_wp2_with fail;exact⟨⟨k+1,by go_num,by omega,(by first|rfl|trivial),DQ M.out G.out C.out⟩,by simp [intOf];omega⟩
  ·have e:k=l.length:=by omega
   have E:=G.out;rw [e,List.take_length] at E;have V:=hide E;clear E e;go_wp2_with fail;go_ret;exact⟨by rw [decide_eq_false V.out];rfl,rfl⟩
theorem Ht {l:List ByteArray} {x:ByteArray} (h:Sl w B 1 BE A l):Calls Tryz.prog 162 #[.slice A l.length c,.string x] w fun r w'=>r=.returned (.bool (decide (x∈l)))/\w=w':=by
 have W:=hide h;have hn:=h.1;clear h;go_enter Tryz.func162,Tryz.ntmps162;go_wp2_with fail;go_loopw [5] (fun F wr=>∃(k:Nat),F=.int .i64 (k:Int)/\k<=l.length/\w=wr/\Hid (x∉l.take k)) (fun F _=>l.length - (intOf F).toNat)
 case atStart=>exact⟨0,rfl,Nat.zero_le _,(by first|rfl|trivial),by show ¬_;simp⟩
 case round=>
  obtain⟨k,rfl,hk,rfl,G⟩:=hrel;by_cases Z:k<l.length
  ·obtain⟨b,off,e,U,a3,J,I⟩:=W.out.at Z;have O:=I 0 (by omega);simp only [Nat.add_zero,Nat.mul_one,BE] at O;have M:=hide J;subst U;clear I J;by_cases h0:e=x
   ·have C:=hide h0;clear h0;have hq:(e.toList==x.toList)=true:=by rw [DM];exact decide_eq_true C.out
    go_wp2_with fail;go_ret;exact⟨by rw [decide_eq_true (by rw [<-C.out];exact List.mem_of_getElem? M.out)];rfl,rfl⟩
   ·have C:=hide h0;have hq:(e.toList==x.toList)=false:=by rw [DM];exact decide_eq_false h0
    clear h0;go_wp2_with fail;exact⟨⟨k+1,by go_num,by omega,(by first|rfl|trivial),DQ M.out G.out C.out⟩,by simp [intOf];omega⟩
  ·have e:k=l.length:=by omega
   have E:=G.out;rw [e,List.take_length] at E;have V:=hide E;clear E e;go_wp2_with fail;go_ret;exact⟨by rw [decide_eq_false V.out];rfl,rfl⟩
end
end Go.Proofs.YtjejejmeddkciaaGreatDoor.K
namespace Go.Proofs.YtjejejmeddkciaaGreatDoor.K
open Go.RowKit
theorem Ii {l:List Int} {n:Int} (h:l.all (inE · n)=false):Aa l n=5:=by
 unfold Aa;rw [h];rfl
theorem Li {l:List Int} {n:Int} (h:l.all (inE · n)=true) (C:DT l=false):Aa l n=1:=by
 unfold Aa;rw [h,C];rfl
theorem Lj {l:List Int} {n:Int} (h:l.all (inE · n)=true) (C:DT l=true):Aa l n=0:=by
 unfold Aa;rw [h,C];rfl
def EE (l:List Int) (k:Nat):Prop:=∀i a b,i+1<=k->l[i]?=some a->l[i+1]?=some b->a<b
theorem EE.next {l:List Int} {j:Nat} {x y:Int} (h:EE l j) (F:l[j]?=some x) (G:l[j+1]?=some y) (O:x<y):EE l (j+1):=fun i a b M C E=>by
 by_cases e:i=j
 ·subst e;rw [F] at C;rw [G] at E;have I:=Option.some.inj C;have J:=Option.some.inj E;omega
 ·exact h i a b (by omega) C E
theorem EE.end_ {l:List Int} {j:Nat} (h:EE l j) (F:l.length<=j+1):DT l=true:=(Ia l).2 fun i a b E C=>h i a b (by have:=(List.getElem?_eq_some_iff.1 C).1;omega) E C
theorem KL {l:List Int} {j:Nat} {x y:Int} (C:l[j]?=some x) (E:l[j+1]?=some y) (F:y<=x):DT l=false:=by
 cases h:DT l
 ·rfl
 ·have:=(Ia l).1 h j x y C E;omega
section
variable {w:World} {c:Nat} {A:Option Addr}
theorem DE {l:List Int} {n:Int} (h:Sl w w.heap.size 1 Ai A l):Calls Tryz.prog 88 #[.slice A l.length c,.int .i64 n] w (Ret fun r w'=>r=.int .i64 (Aa l n)/\Below w.heap.size w w'):=by
 have hH:=hide h;have hn:=h.1;clear h;go_enter Tryz.func88,Tryz.ntmps88;go_wp2_with fail;go_loopw [10] (fun E wr=>∃(k:Nat),E=.int .i64 (k:Int)/\k<=l.length/\w=wr/\Hid ((l.take k).all (inE · n)=true)) (fun E _=>l.length - (intOf E).toNat)
 case atStart=>exact⟨0,rfl,Nat.zero_le _,(by first|rfl|trivial),by show _=_;simp⟩
 case round=>
  obtain⟨k,rfl,hk,rfl,O⟩:=hrel;by_cases W:k<l.length
  ·obtain⟨b,off,e,G,ai,he,F⟩:=hH.out.at W;have M:=F 0 (by omega);simp only [Nat.add_zero,Nat.mul_one,Ai] at M;have V:=hide he;subst G;clear F he;by_cases h0:e<0
   ·have C:=hide (Hc (p:=(inE · n)) V.out (show inE e n=false by simp [inE];omega));go_wp2_with fail;go_ret;exact⟨by rw [Ii C.out];rfl,Below.refl _ _⟩
   ·by_cases h1:n<=e
    ·have C:=hide (Hc (p:=(inE · n)) V.out (show inE e n=false by simp [inE];omega));go_wp2_with fail;go_ret;exact⟨by rw [Ii C.out];rfl,Below.refl _ _⟩
    ·have C:=hide (Cq (p:=(inE · n)) V.out O.out (show inE e n=true by simp [inE];omega));go_wp2_with fail;exact⟨⟨k+1,by go_num,by omega,(by first|rfl|trivial),C.out⟩,by simp [intOf];omega⟩
  ·have e:k=l.length:=by omega
   have U:=O.out;rw [e,List.take_length] at U;have a2:=hide U;clear U e O;go_wp2_with fail;go_loopw [7] (fun E wr=>∃(j:Nat),E=.int .i64 ((j:Int)+1)/\j<=l.length/\Below w.heap.size w wr/\Hid (EE l j)) (fun E _=>l.length - (intOf E).toNat)
   case atStart=>exact⟨0,rfl,Nat.zero_le _,Below.refl _ _,fun i a b hi _ _=>by omega⟩
   case round=>
    obtain⟨j,rfl,hj,J,hR⟩:=hrel;have a4:=hide (hH.out.below J);have an:¬(j:Int)+1<0:=by omega
    by_cases W:j+1<l.length
    ·obtain⟨b,off,y,G,ai,hy,F⟩:=a4.out.at W;obtain⟨b',aq,x,I,-,hx,a6⟩:=a4.out.at (k:=j) (by omega);rw [G] at I;injection I with I
     injection I with e1 e2
     subst e1 e2;have M:=F 0 (by omega);have d1:=a6 0 (by omega);simp only [Nat.add_zero,Nat.mul_one,Ai] at M d1;have a9:=hide hx;have ab:=hide hy;have Z:=hide (J.trans ((Ap wr).mono J.size));subst G;clear F a6 hx hy;by_cases aj:y<=x
     ·have C:=hide (KL a9.out ab.out aj);go_wp2_with fail;refine Reg.cN [0,0,3,7,0,0,32,112,240,511] ?_;intro Qf ah;go_wp2_with fail;refine⟨rfl,?_⟩;go_wp2_with fail;go_ret;exact⟨by rw [Li a2.out C.out];rfl,Z.out⟩
     ·have C:=hide (hR.out.next a9.out ab.out (by omega));go_wp2_with fail;refine Reg.cN [0,0,3,7,0,0,32,112,240,511] ?_;intro Qf ah;go_wp2_with fail;refine⟨rfl,?_⟩;go_wp2_with fail;exact⟨⟨j+1,by go_num,by omega,Z.out,C.out⟩,by simp [intOf];omega⟩
    ·have C:=hide (hR.out.end_ (by omega));have ag:=hide J;go_wp2_with fail;go_ret;exact⟨by rw [Lj a2.out C.out];rfl,ag.out⟩
theorem B0 {l:List Int} {n:Nat} (av:n<=9223372036854775807) (h:Sl w w.heap.size 1 Ai A l):Calls Tryz.prog 137 #[.slice A l.length c,.int .i64 (n:Int)] w (Ret fun r w'=>r=.int .i64 (Aa l (n:Int))/\Below w.heap.size w w'):=by
 have hH:=hide h;have hn:=h.1;clear h;go_enter Tryz.func137,Tryz.ntmps137;go_wp2_with fail;go_loopw [5] (fun E wr=>∃(k:Nat),E=.int .i64 (k:Int)/\k<=l.length/\w=wr/\Hid ((l.take k).all (inE · (n:Int))=true)) (fun E _=>l.length - (intOf E).toNat)
 case atStart=>exact⟨0,rfl,Nat.zero_le _,(by first|rfl|trivial),by show _=_;simp⟩
 case round=>
  obtain⟨k,rfl,hk,rfl,U⟩:=hrel;by_cases W:k<l.length
  ·obtain⟨b,off,e,I,al,he,G⟩:=hH.out.at W;have O:=G 0 (by omega);simp only [Nat.add_zero,Nat.mul_one,Ai] at O;have a9:=hide he;subst I;clear G he;have aa:=hide (C5 e (n:Int)).symm;cases F:inE e (n:Int)
   ·have C:=hide (Hc (p:=(inE · (n:Int))) a9.out F);have Z:=hide F;clear F;go_wp2_with (go_at_call 138;refine(Aq _ _ _ _).mono ?_;rintro r w' ⟨rfl,rfl⟩;rw [aa.out,Z.out]);go_ret;exact⟨by rw [Ii C.out];rfl,Below.refl _ _⟩
   ·have C:=hide (Cq (p:=(inE · (n:Int))) a9.out U.out F);have Z:=hide F;clear F;go_wp2_with (go_at_call 138;refine(Aq _ _ _ _).mono ?_;rintro r w' ⟨rfl,rfl⟩;rw [aa.out,Z.out]);exact⟨⟨k+1,by go_num,by omega,(by first|rfl|trivial),C.out⟩,by simp [intOf];omega⟩
  ·have e:k=l.length:=by omega
   have V:=U.out;rw [e,List.take_length] at V;have a3:=hide V;clear V e U;go_wp2_with fail;go_loopw [6] (fun E wr=>∃(j:Nat),E=.int .i64 ((j:Int)+1)/\j<=l.length/\Below w.heap.size w wr/\Hid (EE l j)) (fun E _=>l.length - (intOf E).toNat)
   case atStart=>exact⟨0,rfl,Nat.zero_le _,Below.refl _ _,fun i a b hi _ _=>by omega⟩
   case round=>
    obtain⟨j,rfl,hj,M,hR⟩:=hrel;have a5:=hide (hH.out.below M);have aq:¬(j:Int)+1<0:=by omega
    by_cases W:j+1<l.length
    ·obtain⟨b,off,y,I,al,hy,G⟩:=a5.out.at W;obtain⟨b',aw,x,J,-,hx,a7⟩:=a5.out.at (k:=j) (by omega);rw [I] at J;injection J with J
     injection J with e1 e2
     subst e1 e2;have O:=G 0 (by omega);have d1:=a7 0 (by omega);simp only [Nat.add_zero,Nat.mul_one,Ai] at O d1;have ad:=hide hx;have af:=hide hy;have a2:=hide (M.trans ((Ap wr).mono M.size));subst I;clear G a7 hx hy;by_cases am:y<=x
     ·have C:=hide (KL ad.out af.out am);go_wp2_with fail;refine Reg.cN [0,0,3,7,0,0,32,112,240,511] ?_;intro Qf ak;go_wp2_with fail;refine⟨rfl,?_⟩;go_wp2_with fail;go_ret;exact⟨by rw [Li a3.out C.out];rfl,a2.out⟩
     ·have C:=hide (hR.out.next ad.out af.out (by omega));go_wp2_with fail;refine Reg.cN [0,0,3,7,0,0,32,112,240,511] ?_;intro Qf ak;go_wp2_with fail;refine⟨rfl,?_⟩;go_wp2_with fail;exact⟨⟨j+1,by go_num,by omega,a2.out,C.out⟩,by simp [intOf];omega⟩
    ·have C:=hide (hR.out.end_ (by omega));have aj:=hide M;go_wp2_with fail;go_ret;exact⟨by rw [Lj a3.out C.out];rfl,aj.out⟩
end
end Go.Proofs.YtjejejmeddkciaaGreatDoor.K
namespace Go.Proofs.YtjejejmeddkciaaGreatDoor.K
open Go.RowKit
def Gp (l:Lin):Value:=.agg #[.int .i64 l.c,.int .i64 l.n,.int .i64 l.t,.int .i64 l.f]
theorem JT {l:Lin} {b1 b2 b3 b4:Bool} (h1:CE l.c=b1) (h:CE l.n=b2) (C:CE l.t=b3) (E:CE l.f=b4):Bg l=(b1&&b2&&b3&&b4):=by
 unfold Bg;rw [h1,h,C,E]
theorem FJ (l:Lin) (w:World):Calls Tryz.prog 141 #[Gp l] w (Ret fun r w'=>r=.bool (Bg l)/\Below w.heap.size w w'):=by
 obtain⟨c,n,t,f⟩:=l;unfold Gp;obtain⟨w1,a2,F,O,Z⟩:=Ae w #[.int .i64 c,.int .i64 n,.int .i64 t,.int .i64 f] 206;have W:=O.cell;have V:=hide F;clear F;cases h1:CE c <;> cases h:CE n <;> cases C:CE t <;> cases E:CE f
 all_goals
  have U:=hide (JT (l:=⟨c,n,t,f⟩) h1 h C E);have G:=hide h1;have I:=hide h;have J:=hide C;have M:=hide E;clear h1 h C E;go_enter Tryz.func141,Tryz.ntmps141;go_wp2_with (go_at_call 170;refine(PS _ _).mono ?_;rintro e w' ⟨rfl,rfl⟩;first|rw [G.out]|rw [I.out]|rw [J.out]|rw [M.out]);go_ret;exact⟨by rw [U.out];rfl,V.out⟩
theorem Gv (l:Lin) (w:World):Calls Tryz.prog 163 #[Gp l] w (Ret fun r w'=>r=.bool (Bg l)/\Below w.heap.size w w'):=by
 obtain⟨c,n,t,f⟩:=l;unfold Gp;obtain⟨w1,a2,F,O,Z⟩:=Ae w #[.int .i64 c,.int .i64 n,.int .i64 t,.int .i64 f] 206;have W:=O.cell;have V:=hide F;clear F;cases h1:CE c <;> cases h:CE n <;> cases C:CE t <;> cases E:CE f
 all_goals
  have U:=hide (JT (l:=⟨c,n,t,f⟩) h1 h C E);have G:=hide (show inC c (-100) 100=_ from h1);have I:=hide (show inC n (-100) 100=_ from h);have J:=hide (show inC t (-100) 100=_ from C);have M:=hide (show inC f (-100) 100=_ from E);clear h1 h C E;go_enter Tryz.func163,Tryz.ntmps163;go_wp2_with (go_at_call 138;refine(Aq _ _ _ _).mono ?_;rintro e w' ⟨rfl,rfl⟩;first|rw [G.out]|rw [I.out]|rw [J.out]|rw [M.out]);go_ret;exact⟨by rw [U.out];rfl,V.out⟩
theorem Qb {w:World} {B c:Nat} {A:Option Addr} {l:List Int} {x:Int} (h:Sl w B 1 Ai A l):Calls Tryz.prog 134 #[.slice A l.length c,.int .i64 x] w fun r w'=>(∃z:Int,r=.returned (.int .i64 z)/\(0<=z↔x∈l))/\w=w':=by
 have W:=hide h;have hn:=h.1;clear h;go_enter Tryz.func134,Tryz.ntmps134;go_wp2_with fail;go_loopw [8] (fun F wr=>∃(k:Nat),F=.int .i64 (k:Int)/\k<=l.length/\w=wr/\Hid (x∉l.take k)) (fun F _=>l.length - (intOf F).toNat)
 case atStart=>exact⟨0,rfl,Nat.zero_le _,(by first|rfl|trivial),by show ¬_;simp⟩
 case round=>
  obtain⟨k,rfl,hk,rfl,G⟩:=hrel;by_cases Z:k<l.length
  ·obtain⟨b,off,e,U,a3,J,I⟩:=W.out.at Z;have O:=I 0 (by omega);simp only [Nat.add_zero,Nat.mul_one,Ai] at O;have M:=hide J;subst U;clear I J;by_cases h0:x=e
   ·have C:=hide h0;clear h0;have hq:(x==e)=true:=by simp [C.out]
    go_wp2_with fail;go_ret;exact⟨⟨(k:Int),rfl,fun _=>by rw [C.out];exact List.mem_of_getElem? M.out,fun _=>by omega⟩,rfl⟩
   ·have C:=hide h0;have hq:(x==e)=false:=by simp [h0]
    clear h0;go_wp2_with fail;exact⟨⟨k+1,by go_num,by omega,(by first|rfl|trivial),DQ M.out G.out (fun e=>C.out e.symm)⟩,by simp [intOf];omega⟩
  ·have e:k=l.length:=by omega
   have E:=G.out;rw [e,List.take_length] at E;have V:=hide E;clear E e;go_wp2_with fail;go_ret;exact⟨⟨-1,rfl,fun h=>by omega,fun h=>absurd h V.out⟩,rfl⟩
theorem containsI_any {w:World} {B c:Nat} {A:Option Addr} {l:List Int} {x:Int} (h:Sl w B 1 Ai A l):Calls Tryz.prog 75 #[.slice A l.length c,.int .i64 x] w fun r w'=>r=.returned (.bool (decide (x∈l)))/\w=w':=by
 have E:=hide h;have G:=h.1;clear h;go_enter Tryz.func75,Tryz.ntmps75;go_wp2_with (go_at_call 134;refine(Qb E.out).mono ?_;rintro r w' ⟨⟨z,rfl,C⟩,rfl⟩);have F:=hide C;clear C;go_ret;refine⟨?_,rfl⟩;have:decide (x∈l)=decide (0<=z):=decide_eq_decide.2 F.out.symm;rw [this];first|rfl|trace_state
theorem Qd {w:World} {B c:Nat} {A:Option Addr} {l:List ByteArray} {x:ByteArray} (h:Sl w B 1 BE A l):Calls Tryz.prog 191 #[.slice A l.length c,.string x] w fun r w'=>(∃z:Int,r=.returned (.int .i64 z)/\(0<=z↔x∈l))/\w=w':=by
 have W:=hide h;have hn:=h.1;clear h;go_enter Tryz.func191,Tryz.ntmps191;go_wp2_with fail;go_loopw [8] (fun F wr=>∃(k:Nat),F=.int .i64 (k:Int)/\k<=l.length/\w=wr/\Hid (x∉l.take k)) (fun F _=>l.length - (intOf F).toNat)
 case atStart=>exact⟨0,rfl,Nat.zero_le _,(by first|rfl|trivial),by show ¬_;simp⟩
 case round=>
  obtain⟨k,rfl,hk,rfl,G⟩:=hrel;by_cases Z:k<l.length
  ·obtain⟨b,off,e,U,a3,J,I⟩:=W.out.at Z;have O:=I 0 (by omega);simp only [Nat.add_zero,Nat.mul_one,BE] at O;have M:=hide J;subst U;clear I J;by_cases h0:x=e
   ·have C:=hide h0;clear h0;have hq:(x.toList==e.toList)=true:=by rw [DM];exact decide_eq_true C.out
    go_wp2_with fail;go_ret;exact⟨⟨(k:Int),rfl,fun _=>by rw [C.out];exact List.mem_of_getElem? M.out,fun _=>by omega⟩,rfl⟩
   ·have C:=hide h0;have hq:(x.toList==e.toList)=false:=by rw [DM];exact decide_eq_false h0
    clear h0;go_wp2_with fail;exact⟨⟨k+1,by go_num,by omega,(by first|rfl|trivial),DQ M.out G.out (fun e=>C.out e.symm)⟩,by simp [intOf];omega⟩
  ·have e:k=l.length:=by omega
   have E:=G.out;rw [e,List.take_length] at E;have V:=hide E;clear E e;go_wp2_with fail;go_ret;exact⟨⟨-1,rfl,fun h=>by omega,fun h=>absurd h V.out⟩,rfl⟩
theorem Je {w:World} {B c:Nat} {A:Option Addr} {l:List ByteArray} {x:ByteArray} (h:Sl w B 1 BE A l):Calls Tryz.prog 169 #[.slice A l.length c,.string x] w fun r w'=>r=.returned (.bool (decide (x∈l)))/\w=w':=by
 have E:=hide h;have G:=h.1;clear h;go_enter Tryz.func169,Tryz.ntmps169;go_wp2_with (go_at_call 191;refine(Qd E.out).mono ?_;rintro r w' ⟨⟨z,rfl,C⟩,rfl⟩);have F:=hide C;clear C;go_ret;refine⟨?_,rfl⟩;have:decide (x∈l)=decide (0<=z):=decide_eq_decide.2 F.out.symm;rw [this];first|rfl|trace_state
end Go.Proofs.YtjejejmeddkciaaGreatDoor.K
