/-
  Part CA of a proof.
-/
import Derived.Lib.Fields
import Derived.Test.YtfcfpoemojjglaaGreatDoorPA
import Derived.Test.YtfcfpoemojjglaaGreatDoorPB
set_option maxHeartbeats 16000000
set_option maxRecDepth 100000
set_option linter.unusedVariables false
set_option linter.unusedSimpArgs false
namespace Go.Proofs.YtfcfpoemojjglaaGreatDoor.K
instance Uu:DecidableEq ByteArray:=fun a b=>decidable_of_iff (a.data=b.data) ⟨ByteArray.ext,fun e=>by rw [e]⟩
instance Uv:LawfulBEq ByteArray where
 eq_of_beq {a b} h:=by
  have h2:(a.data==b.data)=true:=h;exact ByteArray.ext (eq_of_beq h2)
 rfl {a}:=by
  show(a.data==a.data)=true
  simp
theorem DM (a b:ByteArray):(a.toList==b.toList)=decide (a=b):=by
 rw [ByteArray.toList_eq,ByteArray.toList_eq,Bool.eq_iff_iff,beq_iff_eq,decide_eq_true_eq];exact⟨fun h=>ByteArray.ext (Array.toList_inj.1 h),fun h=>by rw [h]⟩
structure Lin where
 c:Int
 n:Int
 t:Int
 f:Int
structure Thr where
 msg:Int
 coef:Int
 bound:Lin
structure Az where
 name:ByteArray
 kind:Int
 fr:Int
 to:Int
 pf:Int
 pt:Int
 resp:List Int
 guards:List Thr
 ex:List Int
 fa:List Int
 rd:Int
 wr:Int
 send:List Int
 at_:Int
 left:List Int
 right:List Int
 parent:List Int
 dir:Int
structure Am where
 name:ByteArray
 topo:Int
 states:List ByteArray
 messages:List ByteArray
 values:List ByteArray
 fault:Int
 res:List Lin
 initial:List Int
 leader:List Int
 rules:List Az
structure D9 where
 states:List Int
 least:Int
structure AB where
 name:ByteArray
 kind:Int
 start:List Int
 bad:List D9
 adj:List Int
 goal:List Int
deriving instance DecidableEq for Lin
deriving instance DecidableEq for Thr
def orE (a b:Int):Int:=if a=0 then b else a
def Ad (b:Bool) (e:Int):Int:=if b then e else 0
def Aj {A:Type} (f:A->Int):List A->Int
 | []=>0
 | x::l=>orE (f x) (Aj f l)
theorem AY (b:Int):orE 0 b=b:=rfl
theorem BF {a b:Int} (h:a≠0):orE a b=a:=if_neg h
theorem Ef (a b c:Int):orE (orE a b) c=orE a (orE b c):=by
 unfold orE;split <;> simp_all
theorem Bk (a:Int):orE a 0=a:=by
 unfold orE;split <;> simp_all
theorem IP {A:Type} (f:A->Int):∀l m:List A,Aj f (l++m)=orE (Aj f l) (Aj f m)
 | [],m=>rfl
 | x::l,m=>by rw [List.cons_append,Aj,Aj,IP f l m,Ef]
theorem CD {A:Type} (f:A->Int) {l:List A} {k:Nat} {x:A} (d:l[k]?=some x) (h:Aj f (l.take k)=0):Aj f (l.take (k+1))=f x:=by
 rw [show l.take (k+1)=l.take k++[x] by rw [List.take_add_one,d]; rfl,IP,h,AY,Aj,Aj,Bk]
theorem Ct {A:Type} (f:A->Int):∀{l:List A} {k:Nat} {x:A},l[k]?=some x->Aj f (l.take k)=0->f x≠0->Aj f l=f x
 | y::l,0,x,hx,_,hf=>by
  have:y=x:=by simpa using hx
  subst this;rw [Aj,BF hf]
 | y::l,k+1,x,hx,h,hf=>by
  rw [List.take_succ_cons,Aj] at h;have d:f y=0:=by
   unfold orE at h;split at h
   ·assumption
   ·exact absurd h ‹_›
  rw [d,AY] at h;rw [Aj,d,AY];exact Ct f (by simpa using hx) h hf
def DB (c:UInt8):Bool:=decide (97<=c.toNat)&&decide (c.toNat<=122)
def Hk (c:UInt8):Bool:=decide (48<=c.toNat)&&decide (c.toNat<=57)
def nmB (c:UInt8):Bool:=DB c||Hk c||decide (c.toNat=95)
def F3:List UInt8->Bool
 | []=>false
 | c::l=>decide (l.length<12)&&DB c&&l.all nmB
def inE (i n:Int):Bool:=decide (0<=i)&&decide (i<n)
def DT:List Int->Bool
 | []=>true
 | [_]=>true
 | a::b::l=>decide (a<b)&&DT (b::l)
def Aa (l:List Int) (n:Int):Int:=orE (Ad (!l.all (inE · n)) 5) (Ad (!DT l) 1)
def CE (n:Int):Bool:=decide (-100<=n)&&decide (n<=100)
def Bg (l:Lin):Bool:=CE l.c&&CE l.n&&CE l.t&&CE l.f
def Bd (p:Am):List ByteArray:=p.states++p.messages++p.values
def CU (ok:ByteArray->Bool) (l:List ByteArray):Int:=Aj (fun i=>Ad (!ok (l.getD i .empty)||decide (l.getD i .empty∈l.take i)) 2) (List.range l.length)
def B9 (topo:Int) (r:Az):Bool:=
 (!decide (r.kind=1)&&(!r.guards.isEmpty||!r.ex.isEmpty||!r.fa.isEmpty||!r.send.isEmpty))||
 ((!decide (r.kind=1)&&!decide (r.kind=2)&&!decide (r.kind=3))&&(!decide (r.rd= -1)||!decide (r.wr= -1)))||
 ((!decide (r.kind=2)&&!decide (r.kind=5))&&(!decide (r.pf=0)||!decide (r.pt=0)))||
 (!decide (r.kind=3)&&!r.resp.isEmpty)||(!decide (r.kind=5)&&!decide (r.dir=0))||
 (!decide (r.kind=4)&&(!decide (r.at_=0)||!r.left.isEmpty||!r.right.isEmpty))||
 (!r.parent.isEmpty&&!(decide (r.kind=4)&&decide (topo=4)))
def B7 (m:Int) (g:Thr):Int:=orE (Ad (!inE g.msg m) 5) (orE (Ad (!(decide (1<=g.coef)&&decide (g.coef<=100))) 1) (Ad (!Bg g.bound) 4))
def C8 (n:Int) (l:List Int):Int:=if (l.length:Int)≠n then 1 else Aj (fun x=>Ad (!inE x n) 5) l
def AO (v k:Int):Bool:=decide (-1<=v)&&decide (v<k)
def BC (ok:ByteArray->Bool) (topo n m k:Int) (taken:Bool) (r:Az):Int:=
 orE (Ad (!ok r.name||taken) 2)
 (orE (Ad (!(decide (1<=r.kind)&&decide (r.kind<=5))||(decide (r.kind<=3) != decide (topo=1))||B9 topo r) 6)
 (orE (Ad (!inE r.fr n||!inE r.to n||(decide (r.kind=2)||decide (r.kind=5))&&(!inE r.pf n||!inE r.pt n)) 5)
 (orE (if r.kind=3 then C8 n r.resp else 0)
 (orE (Aj (B7 m) r.guards)
 (orE (Ad (decide (2<r.guards.length)) 4)
 (orE (Aa r.ex n)
 (orE (Aa r.fa n)
 (orE (Ad (!AO r.rd k||!AO r.wr k) 5)
 (orE (Aa r.send m)
 (orE (Aa r.left n)
 (orE (Aa r.right n)
 (orE (Aa r.parent n)
 (orE (Ad (decide (r.kind=4)&&(!(decide (0<=r.at_)&&decide (r.at_<=2))||(!decide (r.at_=0)&&decide (topo=3)))) 1)
 (orE (Ad (decide (r.kind=5)&&decide (topo=4)&&!(decide (3<=r.dir)&&decide (r.dir<=4))) 1)
 (Ad (decide (r.kind=5)&&!decide (topo=4)&&!(decide (1<=r.dir)&&decide (r.dir<=2))) 1)))))))))))))))
def BB (ok:ByteArray->Bool) (p:Am) (i:Nat):Int:=
 match p.rules[i]? with
 | none=>0
 | some r=>BC ok p.topo p.states.length p.messages.length p.values.length ((p.rules.take i).any fun x=>decide (x.name=r.name)) r
def Bx (l:List Thr) (g:Thr):List Thr:=if g∈l then l else l++[g]
def BO (l:List Az):List Thr:=(l.flatMap Az.guards).foldl Bx []
def protE (ok:ByteArray->Bool) (p:Am):Int:=
 orE (Ad (!ok p.name) 2)
 (orE (Ad (!(decide (1<=p.topo)&&decide (p.topo<=4))||!(decide (0<=p.fault)&&decide (p.fault<=3))) 1)
 (orE (Ad p.states.isEmpty 1)
 (orE (Ad (decide (6<p.states.length)||decide (3<p.messages.length)||decide (3<p.values.length)||decide (4<p.res.length)||decide (8<p.rules.length)) 4)
 (orE (CU ok (Bd p))
 (orE (Ad ((!decide (p.topo=1)&&(!p.messages.isEmpty||!p.values.isEmpty||!p.res.isEmpty||!decide (p.fault=0)))||(decide (p.topo=1)&&!p.leader.isEmpty)) 1)
 (orE (Ad (!p.res.all Bg) 4)
 (orE (Aa p.initial p.states.length)
 (orE (Ad p.initial.isEmpty 1)
 (orE (Aa p.leader p.states.length)
 (orE (Aj (BB ok p) (List.range p.rules.length))
 (Ad (decide (3<(BO p.rules).length)) 4)))))))))))
def AV (n:Int) (c:D9):Int:=orE (Aa c.states n) (Ad (c.states.isEmpty||!(decide (1<=c.least)&&decide (c.least<=3))) 1)
def BA (topo n:Int) (l:List Int):Int:=
 orE (Ad (!l.isEmpty&&decide (topo=1)) 6) (orE (Ad (!l.isEmpty&&!decide (l.length=2)) 1) (Aj (fun x=>Ad (!inE x n) 5) l))
def propE (ok:ByteArray->Bool) (p:Am) (q:AB):Int:=
 orE (protE ok p)
 (orE (Ad (!ok q.name) 2)
 (orE (Ad (!decide (q.kind=1)&&!decide (q.kind=2)) 1)
 (orE (Ad ((decide (q.kind=1)&&!q.goal.isEmpty)||(decide (q.kind=2)&&(!q.bad.isEmpty||!q.adj.isEmpty))) 1)
 (orE (Aa q.start p.states.length)
 (orE (Ad (!q.start.all fun x=>decide (x∈p.initial)) 5)
 (if q.kind=2 then orE (Aa q.goal p.states.length) (Ad q.goal.isEmpty 1) else
  orE (Ad (q.bad.isEmpty&&q.adj.isEmpty) 1)
  (orE (Ad (decide (3<q.bad.length)) 4)
  (orE (Aj (AV p.states.length) q.bad) (BA p.topo p.states.length q.adj)))))))))
end Go.Proofs.YtfcfpoemojjglaaGreatDoor.K
namespace Go.Proofs.YtfcfpoemojjglaaGreatDoor.K
open Go.RowKit
def BE (x:ByteArray) (_:Nat):Value:=.string x
def EG (l:Lin):Nat->Value
 | 0=>.int .i64 l.c
 | 1=>.int .i64 l.n
 | 2=>.int .i64 l.t
 | _=>.int .i64 l.f
def CS (g:Thr):Nat->Value
 | 0=>.int .i64 g.msg
 | 1=>.int .i64 g.coef
 | 2=>.int .i64 g.bound.c
 | 3=>.int .i64 g.bound.n
 | 4=>.int .i64 g.bound.t
 | _=>.int .i64 g.bound.f
def BR {D:Type} (w:World) (B k:Nat) (R:List Value->D->Prop) (A:Option Addr) (ds:List D):Prop:=
 ds.length<=9223372036854775807/\(ds≠[]->∃b off,A=some ⟨b,off,none⟩/\b<B/\∀(i:Nat) (d:D),ds[i]?=some d->∃cs:List Value,cs.length=k/\(∀(j:Nat) (u:Value),cs[j]?=some u->w.cell? ⟨b,off+i*k+j,none⟩=some u)/\R cs d)
section
variable {D:Type} {w w':World} {B B' k:Nat} {R R':List Value->D->Prop} {A:Option Addr} {ds:List D}
theorem BR.keep (h:BR w B k R A ds) (I:∀p:Addr,p.block<B->w'.cell? p=w.cell? p) (l:∀cs d,R cs d->R' cs d) (W:B<=B'):BR w' B' k R' A ds:=
 ⟨h.1,fun M=>by
  obtain⟨b,V,e,y,C⟩:=h.2 M;refine⟨b,V,e,by omega,fun i d G=>?_⟩;obtain⟨cs,J,E,O⟩:=C i d G;exact⟨cs,J,fun j u U=>(I _ y).trans (E j u U),l _ _ O⟩⟩
theorem BR.at (h:BR w B k R A ds) {i:Nat} (y:i<ds.length):∃b l d cs,A=some ⟨b,l,none⟩/\b<B/\ds[i]?=some d/\cs.length=k/\(∀(j:Nat) (u:Value),cs[j]?=some u->w.cell? ⟨b,l+i*k+j,none⟩=some u)/\R cs d:=by
 obtain⟨b,l,e,C,E⟩:=h.2 (by intro e; subst e; simp at y);obtain⟨cs,I,G,J⟩:=E i ds[i] (List.getElem?_eq_getElem y);exact⟨b,l,ds[i],cs,e,C,List.getElem?_eq_getElem y,I,G,J⟩
theorem BR.take (h:BR w B k R A ds) (n:Nat):BR w B k R A (ds.take n):=
 ⟨Nat.le_trans (List.length_take_le' ..) h.1,fun C=>by
  obtain⟨b,E,e,l,y⟩:=h.2 (by rintro rfl; simp at C);refine⟨b,E,e,l,fun i d j=>y i d ?_⟩;rw [List.getElem?_take] at j;split at j
  ·exact j
  ·cases j⟩
theorem BR.nil (h:ds=[]):BR w B k R A ds:=by subst h; exact⟨by simp,fun h=>absurd rfl h⟩
end
def AW (w:World) (B:Nat) (cs:List Value) (r:Az):Prop:=
 ∃A1 c1 A2 c2 A3 c3 A4 c4 A5 c5 A6 c6 A7 c7 A8 c8,cs=[.string r.name,.int .i64 r.kind,.int .i64 r.fr,.int .i64 r.to,.int .i64 r.pf,.int .i64 r.pt,.slice A1 r.resp.length c1,.slice A2 r.guards.length c2,.slice A3 r.ex.length c3,.slice A4 r.fa.length c4,
  .int .i64 r.rd,.int .i64 r.wr,.slice A5 r.send.length c5,.int .i64 r.at_,.slice A6 r.left.length c6,.slice A7 r.right.length c7,.slice A8 r.parent.length c8,.int .i64 r.dir]/\
  Sl w B 1 Ai A1 r.resp/\Sl w B 6 CS A2 r.guards/\Sl w B 1 Ai A3 r.ex/\Sl w B 1 Ai A4 r.fa/\Sl w B 1 Ai A5 r.send/\Sl w B 1 Ai A6 r.left/\Sl w B 1 Ai A7 r.right/\Sl w B 1 Ai A8 r.parent
def Db (w:World) (B:Nat) (cs:List Value) (c:D9):Prop:=∃A1 c1,cs=[.slice A1 c.states.length c1,.int .i64 c.least]/\Sl w B 1 Ai A1 c.states
def At (w:World) (B:Nat) (cs:List Value) (p:Am):Prop:=
 ∃A1 c1 A2 c2 A3 c3 A4 c4 A5 c5 A6 c6 A7 c7,cs=[.string p.name,.int .i64 p.topo,.slice A1 p.states.length c1,.slice A2 p.messages.length c2,.slice A3 p.values.length c3,.int .i64 p.fault,.slice A4 p.res.length c4,.slice A5 p.initial.length c5,.slice A6 p.leader.length c6,.slice A7 p.rules.length c7]/\
  Sl w B 1 BE A1 p.states/\Sl w B 1 BE A2 p.messages/\Sl w B 1 BE A3 p.values/\Sl w B 4 EG A4 p.res/\Sl w B 1 Ai A5 p.initial/\Sl w B 1 Ai A6 p.leader/\BR w B 18 (AW w B) A7 p.rules/\p.rules.length<=c7
def Ba (w:World) (B:Nat) (cs:List Value) (q:AB):Prop:=
 ∃A1 c1 A2 c2 A3 c3 A4 c4,cs=[.string q.name,.int .i64 q.kind,.slice A1 q.start.length c1,.slice A2 q.bad.length c2,.slice A3 q.adj.length c3,.slice A4 q.goal.length c4]/\
  Sl w B 1 Ai A1 q.start/\BR w B 2 (Db w B) A2 q.bad/\Sl w B 1 Ai A3 q.adj/\Sl w B 1 Ai A4 q.goal
section
variable {w w':World} {B B':Nat} {cs:List Value}
theorem AW.keep {r:Az} (h:AW w B cs r) (j:∀p:Addr,p.block<B->w'.cell? p=w.cell? p) (d:B<=B'):AW w' B' cs r:=by
 obtain⟨A1,c1,A2,c2,A3,c3,l,c4,y,I,C,J,E,M,G,O,e,U,V,W,Z,h5,h6,h7,h8⟩:=h;exact⟨A1,c1,A2,c2,A3,c3,l,c4,y,I,C,J,E,M,G,O,e,U.keep j d,V.keep j d,W.keep j d,Z.keep j d,h5.keep j d,h6.keep j d,h7.keep j d,h8.keep j d⟩
theorem Db.keep {c:D9} (h:Db w B cs c) (l:∀p:Addr,p.block<B->w'.cell? p=w.cell? p) (j:B<=B'):Db w' B' cs c:=by
 obtain⟨A1,c1,e,d⟩:=h;exact⟨A1,c1,e,d.keep l j⟩
theorem At.keep {p:Am} (h:At w B cs p) (j:∀p:Addr,p.block<B->w'.cell? p=w.cell? p) (d:B<=B'):At w' B' cs p:=by
 obtain⟨A1,c1,A2,c2,A3,c3,l,c4,y,G,C,I,E,J,e,M,O,U,V,W,Z,h7,h8⟩:=h;exact⟨A1,c1,A2,c2,A3,c3,l,c4,y,G,C,I,E,J,e,M.keep j d,O.keep j d,U.keep j d,V.keep j d,W.keep j d,Z.keep j d,h7.keep j (fun _ _ h=>h.keep j d) d,h8⟩
theorem Ba.keep {q:AB} (h:Ba w B cs q) (j:∀p:Addr,p.block<B->w'.cell? p=w.cell? p) (d:B<=B'):Ba w' B' cs q:=by
 obtain⟨A1,c1,A2,c2,A3,c3,l,c4,e,y,C,E,G⟩:=h;exact⟨A1,c1,A2,c2,A3,c3,l,c4,e,y.keep j d,C.keep j (fun _ _ h=>h.keep j d) d,E.keep j d,G.keep j d⟩
end
end Go.Proofs.YtfcfpoemojjglaaGreatDoor.K
namespace Go.Proofs.YtfcfpoemojjglaaGreatDoor.K
theorem Fv (n:Int):Aa [] n=0:=rfl
theorem FF (a b:Bool) (e:Int):Ad (a||b) e=orE (Ad a e) (Ad b e):=by
 cases a <;> cases b <;> simp [Ad,orE]
def Dx (kind topo:Int):Bool:=if kind=1\/kind=2\/kind=3 then decide (topo=1) else if kind=4\/kind=5 then !decide (topo=1) else false
def Be (resp guards ex fa send left right parent:Nat) (pf pt at_ dir rd wr:Int):Bool:=
 decide (0<resp+guards+ex+fa+send+left+right+parent)||!decide (pf=0)||!decide (pt=0)||!decide (at_=0)||!decide (dir=0)||!decide (rd= -1)||!decide (wr= -1)
def As (topo:Int) (r:Az):Bool:=
 if r.kind=1 then Be r.resp.length 0 0 0 0 r.left.length r.right.length r.parent.length r.pf r.pt r.at_ r.dir (-1) (-1)
 else if r.kind=2 then (if 0<r.resp.length then true else Be 0 r.guards.length r.ex.length r.fa.length r.send.length r.left.length r.right.length r.parent.length 0 0 r.at_ r.dir (-1) (-1))
 else if r.kind=3 then Be 0 r.guards.length r.ex.length r.fa.length r.send.length r.left.length r.right.length r.parent.length r.pf r.pt r.at_ r.dir (-1) (-1)
 else if r.kind=4 then Be r.resp.length r.guards.length r.ex.length r.fa.length r.send.length 0 0 (if topo=4 then 0 else r.parent.length) r.pf r.pt 0 r.dir r.rd r.wr
 else if r.kind=5 then Be r.resp.length r.guards.length r.ex.length r.fa.length r.send.length r.left.length r.right.length r.parent.length 0 0 r.at_ 0 r.rd r.wr
 else Be r.resp.length r.guards.length r.ex.length r.fa.length r.send.length r.left.length r.right.length r.parent.length r.pf r.pt r.at_ r.dir r.rd r.wr
def Dy (m:Int) (l:List Thr):Int:=orE (Aj (B7 m) l) (Ad (decide (2<l.length)) 4)
def AD (i n:Int):Int:=Ad (!inE i n) 5
def Bn (v k:Int):Int:=Ad (!AO v k) 5
def Cx (topo n m k:Int) (r:Az):Int:=
 if r.kind=1 then orE (Dy m r.guards) (orE (Aa r.ex n) (orE (Aa r.fa n) (orE (Bn r.rd k) (orE (Bn r.wr k) (Aa r.send m)))))
 else if r.kind=2 then orE (AD r.pf n) (orE (AD r.pt n) (orE (Bn r.rd k) (Bn r.wr k)))
 else if r.kind=3 then orE (C8 n r.resp) (orE (Bn r.rd k) (Bn r.wr k))
 else if r.kind=4 then orE (Aa r.left n) (orE (Aa r.right n) (orE (Aa r.parent n) (Ad (decide (r.at_<0)||decide (2<r.at_)||(!decide (r.at_=0)&&decide (topo=3))) 1)))
 else orE (AD r.pf n) (orE (AD r.pt n) (Ad (if topo=4 then decide (r.dir<3)||decide (4<r.dir) else decide (r.dir<1)||decide (2<r.dir)) 1))
def Gd (ok:ByteArray->Bool) (topo n m k:Int) (taken:Bool) (r:Az):Int:=
 orE (Ad (!ok r.name||taken) 2) (orE (Ad (!Dx r.kind topo||As topo r) 6) (orE (orE (AD r.fr n) (AD r.to n)) (Cx topo n m k r)))
theorem TV (k:Int) (d:0<=k):Bn (-1) k=0:=by
 unfold Bn AO Ad;simp;omega
theorem Bv {A:Type} (l:List A):l.isEmpty=decide (l.length=0):=by cases l <;> simp
theorem P1 (topo:Int) (r:Az):(!Dx r.kind topo||As topo r)=(!(decide (1<=r.kind)&&decide (r.kind<=5))||(decide (r.kind<=3) != decide (topo=1))||B9 topo r):=by
 obtain⟨name,kind,fr,to,pf,pt,resp,guards,ex,fa,rd,wr,send,at_,left,right,parent,dir⟩:=r;simp only [Dx,As,B9,Be,Bv];generalize resp.length=n1;generalize guards.length=n2;generalize ex.length=n3;generalize fa.length=n4;generalize send.length=n5;generalize left.length=n6;generalize right.length=n7;generalize parent.length=n8;by_cases d:kind=1
 ·subst d;rw [Bool.eq_iff_iff];simp;omega
 by_cases h:kind=2
 ·subst h;rw [Bool.eq_iff_iff];by_cases C:0<n1
  ·simp [C];omega
  ·simp [C];omega
 by_cases j:kind=3
 ·subst j;rw [Bool.eq_iff_iff];simp;omega
 by_cases l:kind=4
 ·subst l;rw [Bool.eq_iff_iff];by_cases ht:topo=4
  ·simp [ht];omega
  ·simp [ht];omega
 by_cases y:kind=5
 ·subst y;rw [Bool.eq_iff_iff];simp;omega
 ·rw [Bool.eq_iff_iff];simp [d,h,j,l,y];omega
theorem FG (e:Int):Ad false e=0:=rfl
theorem KU (ok:ByteArray->Bool) (topo n m k:Int) (J:0<=k) (E:Bool) (r:Az):Gd ok topo n m k E r=BC ok topo n m k E r:=by
 unfold Gd BC;congr 1;rw [P1];cases y:(!(decide (1<=r.kind)&&decide (r.kind<=5))||(decide (r.kind<=3) != decide (topo=1))||B9 topo r)
 case true=>simp [Ad,orE]
 case false=>
  rw [show Ad false 6=0 from rfl,AY,AY];simp only [Bool.or_eq_false_iff,Bool.not_eq_false'] at y;obtain⟨⟨C,-⟩,d⟩:=y;simp only [Bool.and_eq_true,decide_eq_true_eq] at C;have h:Bn (-1) k=0:=TV k J;unfold Bn at h;obtain⟨name,kind,fr,to,pf,pt,resp,guards,ex,fa,rd,wr,send,at_,left,right,parent,dir⟩:=r;dsimp only at C d ⊢;have M:kind=1\/kind=2\/kind=3\/kind=4\/kind=5:=by omega
  unfold Cx Dy AD Bn B9 at*;rcases M with rfl | rfl | rfl | rfl | rfl <;> simp [and_assoc] at d
  ·obtain⟨rfl,rfl,rfl,rfl,rfl,rfl,rfl,rfl⟩:=d;simp [AY,Fv,FG,Bk,Ef,FF]
  ·obtain⟨rfl,rfl,rfl,rfl,rfl,rfl,rfl,rfl,rfl,rfl⟩:=d;simp [AY,Fv,FG,Bk,Ef,FF,Aj]
  ·obtain⟨rfl,rfl,rfl,rfl,rfl,rfl,rfl,rfl,rfl,rfl,rfl⟩:=d;simp [AY,Fv,FG,Bk,Ef,FF,Aj]
  ·obtain⟨rfl,rfl,rfl,rfl,rfl,rfl,rfl,rfl,rfl,rfl,-⟩:=d;have j:decide (at_<0)= !decide (0<=at_):=by rw [Bool.eq_iff_iff]; simp
   have l:decide (2<at_)= !decide (at_<=2):=by rw [Bool.eq_iff_iff]; simp
   simp [AY,Fv,FG,Ef,FF,Aj,h,j,l,Bk]
  ·obtain⟨rfl,rfl,rfl,rfl,rfl,rfl,rfl,rfl,rfl,rfl,rfl⟩:=d;have j:decide (dir<3)= !decide (3<=dir):=by rw [Bool.eq_iff_iff]; simp
   have l:decide (4<dir)= !decide (dir<=4):=by rw [Bool.eq_iff_iff]; simp
   have G:decide (dir<1)= !decide (1<=dir):=by rw [Bool.eq_iff_iff]; simp
   have I:decide (2<dir)= !decide (dir<=2):=by rw [Bool.eq_iff_iff]; simp
   by_cases ht:topo=4
   ·simp [AY,Fv,FG,Ef,FF,Aj,h,j,l,ht,Bk]
   ·simp [AY,Fv,FG,Ef,FF,Aj,h,G,I,ht]
end Go.Proofs.YtfcfpoemojjglaaGreatDoor.K
namespace Go.Proofs.YtfcfpoemojjglaaGreatDoor.K
open Go.RowKit
def inC (n lo hi:Int):Bool:=decide (lo<=n)&&decide (n<=hi)
theorem C5 (n k:Int):inE n k=inC n 0 (k - 1):=by
 unfold inE inC; congr 1; exact decide_eq_decide.2 (by omega)
theorem Ap (w:World):Below w.heap.size w w.drew:=⟨rfl,rfl,rfl,Nat.le_refl _,fun _ _=>rfl⟩
theorem Ce (b:Bool) (e:Int) (w:World):Calls Tryz.prog 121 #[.bool b,.int .i64 e] w fun r w'=>r=.returned (.int .i64 (Ad b e))/\w=w':=by
 cases b
 all_goals
  go_enter Tryz.func121,Tryz.ntmps121;go_wp2;go_ret;exact⟨rfl,rfl⟩
theorem Cu (i n:Int) (w:World):Calls Tryz.prog 173 #[.int .i64 i,.int .i64 n] w fun r w'=>r=.returned (.int .i64 (AD i n))/\w=w':=by
 have key:∀b:Bool,b= !inE i n->Ad b 5=AD i n:=fun b d=>by rw [d]; rfl
 by_cases h:i<0
 ·have d:=hide (key true (by simp [inE]; omega));clear key;go_enter Tryz.func173,Tryz.ntmps173;go_wp2_with (go_at_call 121; refine(Ce _ _ _).mono ?_; rintro e w' ⟨rfl,rfl⟩; rw [d.out]);go_ret;exact⟨rfl,rfl⟩
 ·by_cases j:n<=i
  ·have d:=hide (key true (by simp [inE]; omega));clear key;go_enter Tryz.func173,Tryz.ntmps173;go_wp2_with (go_at_call 121; refine(Ce _ _ _).mono ?_; rintro e w' ⟨rfl,rfl⟩; rw [d.out]);go_ret;exact⟨rfl,rfl⟩
  ·have d:=hide (key false (by simp [inE]; omega));clear key;go_enter Tryz.func173,Tryz.ntmps173;go_wp2_with (go_at_call 121; refine(Ce _ _ _).mono ?_; rintro e w' ⟨rfl,rfl⟩; rw [d.out]);go_ret;exact⟨rfl,rfl⟩
theorem PS (n:Int) (w:World):Calls Tryz.prog 205 #[.int .i64 n] w fun r w'=>r=.returned (.bool (CE n))/\w=w':=by
 by_cases h:-100<=n
 all_goals
  go_enter Tryz.func205,Tryz.ntmps205;go_wp2;go_ret;exact⟨by simp [CE]; omega,rfl⟩
theorem Aq (n d j:Int) (w:World):Calls Tryz.prog 98 #[.int .i64 n,.int .i64 d,.int .i64 j] w fun e w'=>e=.returned (.bool (inC n d j))/\w=w':=by
 by_cases h:d<=n
 all_goals
  go_enter Tryz.func98,Tryz.ntmps98;go_wp2;go_ret;exact⟨by simp [inC]; omega,rfl⟩
theorem Ci {w:World} {B c:Nat} {A:Option Addr} {l:List Int} (h:Sl w B 1 Ai A l):Calls Tryz.prog 120 #[.slice A l.length c] w fun r w'=>r=.returned (.int .i64 (Aj id l))/\w=w':=by
 have U:=hide h;have hn:=h.1;clear h;go_enter Tryz.func120,Tryz.ntmps120;go_wp2_with fail;go_loopw [7] (fun E wr=>∃(k:Nat),E=.int .i64 (k:Int)/\k<=l.length/\w=wr/\Hid (Aj id (l.take k)=0)) (fun E _=>l.length - (intOf E).toNat)
 case atStart=>exact⟨0,rfl,Nat.zero_le _,(by first | rfl | trivial),rfl⟩
 case round=>
  obtain⟨k,rfl,hk,rfl,y⟩:=hrel;by_cases V:k<l.length
  ·obtain⟨b,a4,e,M,Z,he,G⟩:=U.out.at V;have J:=G 0 (by omega);simp only [Nat.add_zero,Nat.mul_one,Ai] at J;have I:=hide he;subst M;clear G he;by_cases d:e=0
   ·have j:=hide d;clear d;have W:(e==0)=true:=by simp [j.out]
    go_wp2_with fail;refine⟨⟨k+1,by go_num,by omega,(by first | rfl | trivial),?_⟩,by simp [intOf]; omega⟩;show _=_
    rw [CD id I.out y.out];exact j.out
   ·have j:=hide d;have W:(e==0)=false:=by simp [d]
    clear d;go_wp2_with fail;go_ret;exact⟨by rw [Ct id I.out y.out j.out]; rfl,rfl⟩
  ·have e:k=l.length:=by omega
   have C:=y.out;rw [e,List.take_length] at C;have O:=hide C;clear C e;go_wp2_with fail;go_ret;exact⟨by rw [O.out]; rfl,rfl⟩
end Go.Proofs.YtfcfpoemojjglaaGreatDoor.K
namespace Go.Proofs.YtfcfpoemojjglaaGreatDoor.K
open Go.RowKit
theorem DQ {D:Type} {l:List D} {k:Nat} {x y:D} (C:l[k]?=some x) (h:y∉l.take k) (j:x≠y):y∉l.take (k+1):=by
 rw [List.take_add_one,C];intro d;rcases List.mem_append.1 d with d | d
 ·exact h d
 ·have:y=x:=by simpa using d
  exact j this.symm
theorem Cq {D:Type} {p:D->Bool} {l:List D} {k:Nat} {x:D} (d:l[k]?=some x) (h:(l.take k).all p=true) (j:p x=true):(l.take (k+1)).all p=true:=by
 rw [List.take_add_one,d]; simp_all
theorem Hc {D:Type} {p:D->Bool} {l:List D} {k:Nat} {x:D} (h:l[k]?=some x) (d:p x=false):l.all p=false:=by
 rw [List.all_eq_false];exact⟨x,List.mem_of_getElem? h,by simp [d]⟩
theorem Ia:∀l:List Int,DT l=true↔∀i a b,l[i]?=some a->l[i+1]?=some b->a<b
 | []=>by simp [DT]
 | [a]=>by simp [DT]
 | a::b::l=>by
  rw [DT,Bool.and_eq_true,Ia (b::l),decide_eq_true_eq];constructor
  ·rintro⟨I,C⟩ i x y d j;cases i with
   | zero=>
    have E:a=x:=by simpa using d
    have G:b=y:=by simpa using j
    omega
   | succ i=>exact C i x y (by simpa using d) (by simpa using j)
  ·intro h;exact⟨h 0 a b rfl rfl,fun i x y d j=>h (i+1) x y (by simpa using d) (by simpa using j)⟩
section
variable {w:World} {B c:Nat} {A:Option Addr}
theorem aA0 {l:List Int} {x:Int} (h:Sl w B 1 Ai A l):Calls Tryz.prog 93 #[.slice A l.length c,.int .i64 x] w fun r w'=>r=.returned (.bool (decide (x∈l)))/\w=w':=by
 have U:=hide h;have hn:=h.1;clear h;go_enter Tryz.func93,Tryz.ntmps93;go_wp2_with fail;go_loopw [5] (fun C wr=>∃(k:Nat),C=.int .i64 (k:Int)/\k<=l.length/\w=wr/\Hid (x∉l.take k)) (fun C _=>l.length - (intOf C).toNat)
 case atStart=>exact⟨0,rfl,Nat.zero_le _,(by first | rfl | trivial),by show ¬_; simp⟩
 case round=>
  obtain⟨k,rfl,hk,rfl,E⟩:=hrel;by_cases V:k<l.length
  ·obtain⟨b,a4,e,M,Z,he,G⟩:=U.out.at V;have J:=G 0 (by omega);simp only [Nat.add_zero,Nat.mul_one,Ai] at J;have I:=hide he;subst M;clear G he;by_cases d:e=x
   ·have j:=hide d;clear d;have W:(e==x)=true:=by simp [j.out]
    go_wp2_with fail;go_ret;exact⟨by rw [decide_eq_true (by rw [<-j.out]; exact List.mem_of_getElem? I.out)]; rfl,rfl⟩
   ·have j:=hide d;have W:(e==x)=false:=by simp [d]
    clear d;go_wp2_with fail;exact⟨⟨k+1,by go_num,by omega,(by first | rfl | trivial),DQ I.out E.out j.out⟩,by simp [intOf]; omega⟩
  ·have e:k=l.length:=by omega
   have y:=E.out;rw [e,List.take_length] at y;have O:=hide y;clear y e;go_wp2_with fail;go_ret;exact⟨by rw [decide_eq_false O.out]; rfl,rfl⟩
theorem Ht {l:List ByteArray} {x:ByteArray} (h:Sl w B 1 BE A l):Calls Tryz.prog 136 #[.slice A l.length c,.string x] w fun r w'=>r=.returned (.bool (decide (x∈l)))/\w=w':=by
 have U:=hide h;have hn:=h.1;clear h;go_enter Tryz.func136,Tryz.ntmps136;go_wp2_with fail;go_loopw [5] (fun C wr=>∃(k:Nat),C=.int .i64 (k:Int)/\k<=l.length/\w=wr/\Hid (x∉l.take k)) (fun C _=>l.length - (intOf C).toNat)
 case atStart=>exact⟨0,rfl,Nat.zero_le _,(by first | rfl | trivial),by show ¬_; simp⟩
 case round=>
  obtain⟨k,rfl,hk,rfl,E⟩:=hrel;by_cases V:k<l.length
  ·obtain⟨b,a4,e,M,Z,he,G⟩:=U.out.at V;have J:=G 0 (by omega);simp only [Nat.add_zero,Nat.mul_one,BE] at J;have I:=hide he;subst M;clear G he;by_cases d:e=x
   ·have j:=hide d;clear d;have W:(e.toList==x.toList)=true:=by rw [DM]; exact decide_eq_true j.out
    go_wp2_with fail;go_ret;exact⟨by rw [decide_eq_true (by rw [<-j.out]; exact List.mem_of_getElem? I.out)]; rfl,rfl⟩
   ·have j:=hide d;have W:(e.toList==x.toList)=false:=by rw [DM]; exact decide_eq_false d
    clear d;go_wp2_with fail;exact⟨⟨k+1,by go_num,by omega,(by first | rfl | trivial),DQ I.out E.out j.out⟩,by simp [intOf]; omega⟩
  ·have e:k=l.length:=by omega
   have y:=E.out;rw [e,List.take_length] at y;have O:=hide y;clear y e;go_wp2_with fail;go_ret;exact⟨by rw [decide_eq_false O.out]; rfl,rfl⟩
end
end Go.Proofs.YtfcfpoemojjglaaGreatDoor.K
namespace Go.Proofs.YtfcfpoemojjglaaGreatDoor.K
open Go.RowKit
theorem Ii {l:List Int} {n:Int} (h:l.all (inE · n)=false):Aa l n=5:=by
 unfold Aa;rw [h];rfl
theorem Li {l:List Int} {n:Int} (h:l.all (inE · n)=true) (d:DT l=false):Aa l n=1:=by
 unfold Aa;rw [h,d];rfl
theorem Lj {l:List Int} {n:Int} (h:l.all (inE · n)=true) (d:DT l=true):Aa l n=0:=by
 unfold Aa;rw [h,d];rfl
def EE (l:List Int) (k:Nat):Prop:=∀i a b,i+1<=k->l[i]?=some a->l[i+1]?=some b->a<b
theorem EE.next {l:List Int} {j:Nat} {x y:Int} (h:EE l j) (E:l[j]?=some x) (G:l[j+1]?=some y) (O:x<y):EE l (j+1):=fun i a b M d C=>by
 by_cases e:i=j
 ·subst e;rw [E] at d;rw [G] at C;have I:=Option.some.inj d;have J:=Option.some.inj C;omega
 ·exact h i a b (by omega) d C
theorem EE.end_ {l:List Int} {j:Nat} (h:EE l j) (C:l.length<=j+1):DT l=true:=(Ia l).2 fun i a b y d=>h i a b (by have:=(List.getElem?_eq_some_iff.1 d).1; omega) y d
theorem KL {l:List Int} {j:Nat} {x y:Int} (d:l[j]?=some x) (C:l[j+1]?=some y) (E:y<=x):DT l=false:=by
 cases h:DT l
 ·rfl
 ·have:=(Ia l).1 h j x y d C;omega
section
variable {w:World} {c:Nat} {A:Option Addr}
theorem DE {l:List Int} {n:Int} (h:Sl w w.heap.size 1 Ai A l):Calls Tryz.prog 119 #[.slice A l.length c,.int .i64 n] w (Ret fun r w'=>r=.int .i64 (Aa l n)/\Below w.heap.size w w'):=by
 have hH:=hide h;have hn:=h.1;clear h;go_enter Tryz.func119,Tryz.ntmps119;go_wp2_with fail;go_loopw [10] (fun C wr=>∃(k:Nat),C=.int .i64 (k:Int)/\k<=l.length/\w=wr/\Hid ((l.take k).all (inE · n)=true)) (fun C _=>l.length - (intOf C).toNat)
 case atStart=>exact⟨0,rfl,Nat.zero_le _,(by first | rfl | trivial),by show _=_; simp⟩
 case round=>
  obtain⟨k,rfl,hk,rfl,O⟩:=hrel;by_cases W:k<l.length
  ·obtain⟨b,aj,e,G,ah,he,E⟩:=hH.out.at W;have M:=E 0 (by omega);simp only [Nat.add_zero,Nat.mul_one,Ai] at M;have V:=hide he;subst G;clear E he;by_cases h0:e<0
   ·have d:=hide (Hc (p:=(inE · n)) V.out (show inE e n=false by simp [inE]; omega));go_wp2_with fail;go_ret;exact⟨by rw [Ii d.out]; rfl,Below.refl _ _⟩
   ·by_cases h1:n<=e
    ·have d:=hide (Hc (p:=(inE · n)) V.out (show inE e n=false by simp [inE]; omega));go_wp2_with fail;go_ret;exact⟨by rw [Ii d.out]; rfl,Below.refl _ _⟩
    ·have d:=hide (Cq (p:=(inE · n)) V.out O.out (show inE e n=true by simp [inE]; omega));go_wp2_with fail;exact⟨⟨k+1,by go_num,by omega,(by first | rfl | trivial),d.out⟩,by simp [intOf]; omega⟩
  ·have e:k=l.length:=by omega
   have U:=O.out;rw [e,List.take_length] at U;have a2:=hide U;clear U e O;go_wp2_with fail;go_loopw [7] (fun C wr=>∃(j:Nat),C=.int .i64 ((j:Int)+1)/\j<=l.length/\Below w.heap.size w wr/\Hid (EE l j)) (fun C _=>l.length - (intOf C).toNat)
   case atStart=>exact⟨0,rfl,Nat.zero_le _,Below.refl _ _,fun i a b hi _ _=>by omega⟩
   case round=>
    obtain⟨j,rfl,hj,J,hR⟩:=hrel;have a4:=hide (hH.out.below J);have ap:¬(j:Int)+1<0:=by omega
    by_cases W:j+1<l.length
    ·obtain⟨b,aj,y,G,ah,hy,E⟩:=a4.out.at W;obtain⟨b',au,x,I,-,hx,a6⟩:=a4.out.at (k:=j) (by omega);rw [G] at I;injection I with I
     injection I with e1 e2
     subst e1 e2;have M:=E 0 (by omega);have d1:=a6 0 (by omega);simp only [Nat.add_zero,Nat.mul_one,Ai] at M d1;have a8:=hide hx;have aa:=hide hy;have Z:=hide (J.trans ((Ap wr).mono J.size));subst G;clear E a6 hx hy;by_cases ai:y<=x
     ·have d:=hide (KL a8.out aa.out ai);go_wp2_with fail;refine Reg.cN [0,0,3,7,0,0,32,112,240,511] ?_;intro Qf ag;go_wp2_with fail;refine⟨rfl,?_⟩;go_wp2_with fail;go_ret;exact⟨by rw [Li a2.out d.out]; rfl,Z.out⟩
     ·have d:=hide (hR.out.next a8.out aa.out (by omega));go_wp2_with fail;refine Reg.cN [0,0,3,7,0,0,32,112,240,511] ?_;intro Qf ag;go_wp2_with fail;refine⟨rfl,?_⟩;go_wp2_with fail;exact⟨⟨j+1,by go_num,by omega,Z.out,d.out⟩,by simp [intOf]; omega⟩
    ·have d:=hide (hR.out.end_ (by omega));have af:=hide J;go_wp2_with fail;go_ret;exact⟨by rw [Lj a2.out d.out]; rfl,af.out⟩
theorem B0 {l:List Int} {n:Nat} (av:n<=9223372036854775807) (h:Sl w w.heap.size 1 Ai A l):Calls Tryz.prog 97 #[.slice A l.length c,.int .i64 (n:Int)] w (Ret fun r w'=>r=.int .i64 (Aa l (n:Int))/\Below w.heap.size w w'):=by
 have hH:=hide h;have hn:=h.1;clear h;go_enter Tryz.func97,Tryz.ntmps97;go_wp2_with fail;go_loopw [5] (fun C wr=>∃(k:Nat),C=.int .i64 (k:Int)/\k<=l.length/\w=wr/\Hid ((l.take k).all (inE · (n:Int))=true)) (fun C _=>l.length - (intOf C).toNat)
 case atStart=>exact⟨0,rfl,Nat.zero_le _,(by first | rfl | trivial),by show _=_; simp⟩
 case round=>
  obtain⟨k,rfl,hk,rfl,U⟩:=hrel;by_cases W:k<l.length
  ·obtain⟨b,am,e,I,ak,he,G⟩:=hH.out.at W;have O:=G 0 (by omega);simp only [Nat.add_zero,Nat.mul_one,Ai] at O;have a8:=hide he;subst I;clear G he;have a9:=hide (C5 e (n:Int)).symm;cases E:inE e (n:Int)
   ·have d:=hide (Hc (p:=(inE · (n:Int))) a8.out E);have Z:=hide E;clear E;go_wp2_with (go_at_call 98; refine(Aq _ _ _ _).mono ?_; rintro r w' ⟨rfl,rfl⟩; rw [a9.out,Z.out]);go_ret;exact⟨by rw [Ii d.out]; rfl,Below.refl _ _⟩
   ·have d:=hide (Cq (p:=(inE · (n:Int))) a8.out U.out E);have Z:=hide E;clear E;go_wp2_with (go_at_call 98; refine(Aq _ _ _ _).mono ?_; rintro r w' ⟨rfl,rfl⟩; rw [a9.out,Z.out]);exact⟨⟨k+1,by go_num,by omega,(by first | rfl | trivial),d.out⟩,by simp [intOf]; omega⟩
  ·have e:k=l.length:=by omega
   have V:=U.out;rw [e,List.take_length] at V;have a3:=hide V;clear V e U;go_wp2_with fail;go_loopw [6] (fun C wr=>∃(j:Nat),C=.int .i64 ((j:Int)+1)/\j<=l.length/\Below w.heap.size w wr/\Hid (EE l j)) (fun C _=>l.length - (intOf C).toNat)
   case atStart=>exact⟨0,rfl,Nat.zero_le _,Below.refl _ _,fun i a b hi _ _=>by omega⟩
   case round=>
    obtain⟨j,rfl,hj,M,hR⟩:=hrel;have a5:=hide (hH.out.below M);have aq:¬(j:Int)+1<0:=by omega
    by_cases W:j+1<l.length
    ·obtain⟨b,am,y,I,ak,hy,G⟩:=a5.out.at W;obtain⟨b',aw,x,J,-,hx,a7⟩:=a5.out.at (k:=j) (by omega);rw [I] at J;injection J with J
     injection J with e1 e2
     subst e1 e2;have O:=G 0 (by omega);have d1:=a7 0 (by omega);simp only [Nat.add_zero,Nat.mul_one,Ai] at O d1;have ab:=hide hx;have ae:=hide hy;have a2:=hide (M.trans ((Ap wr).mono M.size));subst I;clear G a7 hx hy;by_cases al:y<=x
     ·have d:=hide (KL ab.out ae.out al);go_wp2_with fail;refine Reg.cN [0,0,3,7,0,0,32,112,240,511] ?_;intro Qf aj;go_wp2_with fail;refine⟨rfl,?_⟩;go_wp2_with fail;go_ret;exact⟨by rw [Li a3.out d.out]; rfl,a2.out⟩
     ·have d:=hide (hR.out.next ab.out ae.out (by omega));go_wp2_with fail;refine Reg.cN [0,0,3,7,0,0,32,112,240,511] ?_;intro Qf aj;go_wp2_with fail;refine⟨rfl,?_⟩;go_wp2_with fail;exact⟨⟨j+1,by go_num,by omega,a2.out,d.out⟩,by simp [intOf]; omega⟩
    ·have d:=hide (hR.out.end_ (by omega));have ai:=hide M;go_wp2_with fail;go_ret;exact⟨by rw [Lj a3.out d.out]; rfl,ai.out⟩
end
end Go.Proofs.YtfcfpoemojjglaaGreatDoor.K
namespace Go.Proofs.YtfcfpoemojjglaaGreatDoor.K
open Go.RowKit
def Gp (l:Lin):Value:=.agg #[.int .i64 l.c,.int .i64 l.n,.int .i64 l.t,.int .i64 l.f]
theorem JT {l:Lin} {b1 b2 b3 b4:Bool} (d:CE l.c=b1) (h:CE l.n=b2) (j:CE l.t=b3) (y:CE l.f=b4):Bg l=(b1&&b2&&b3&&b4):=by
 unfold Bg;rw [d,h,j,y]
theorem FJ (l:Lin) (w:World):Calls Tryz.prog 169 #[Gp l] w (Ret fun r w'=>r=.bool (Bg l)/\Below w.heap.size w w'):=by
 obtain⟨c,n,t,f⟩:=l;unfold Gp;obtain⟨w1,Z,C,M,W⟩:=Ae w #[.int .i64 c,.int .i64 n,.int .i64 t,.int .i64 f] 202;have V:=M.cell;have U:=hide C;clear C;cases d:CE c <;> cases h:CE n <;> cases j:CE t <;> cases y:CE f
 all_goals
  have O:=hide (JT (l:=⟨c,n,t,f⟩) d h j y);have E:=hide d;have G:=hide h;have I:=hide j;have J:=hide y;clear d h j y;go_enter Tryz.func169,Tryz.ntmps169;go_wp2_with (go_at_call 205; refine(PS _ _).mono ?_; rintro e w' ⟨rfl,rfl⟩; first | rw [E.out] | rw [G.out] | rw [I.out] | rw [J.out]);go_ret;exact⟨by rw [O.out]; rfl,U.out⟩
theorem Gv (l:Lin) (w:World):Calls Tryz.prog 137 #[Gp l] w (Ret fun r w'=>r=.bool (Bg l)/\Below w.heap.size w w'):=by
 obtain⟨c,n,t,f⟩:=l;unfold Gp;obtain⟨w1,Z,C,M,W⟩:=Ae w #[.int .i64 c,.int .i64 n,.int .i64 t,.int .i64 f] 202;have V:=M.cell;have U:=hide C;clear C;cases d:CE c <;> cases h:CE n <;> cases j:CE t <;> cases y:CE f
 all_goals
  have O:=hide (JT (l:=⟨c,n,t,f⟩) d h j y);have E:=hide (show inC c (-100) 100=_ from d);have G:=hide (show inC n (-100) 100=_ from h);have I:=hide (show inC t (-100) 100=_ from j);have J:=hide (show inC f (-100) 100=_ from y);clear d h j y;go_enter Tryz.func137,Tryz.ntmps137;go_wp2_with (go_at_call 98; refine(Aq _ _ _ _).mono ?_; rintro e w' ⟨rfl,rfl⟩; first | rw [E.out] | rw [G.out] | rw [I.out] | rw [J.out]);go_ret;exact⟨by rw [O.out]; rfl,U.out⟩
theorem Qb {w:World} {B c:Nat} {A:Option Addr} {l:List Int} {x:Int} (h:Sl w B 1 Ai A l):Calls Tryz.prog 124 #[.slice A l.length c,.int .i64 x] w fun r w'=>(∃z:Int,r=.returned (.int .i64 z)/\(0<=z↔x∈l))/\w=w':=by
 have U:=hide h;have hn:=h.1;clear h;go_enter Tryz.func124,Tryz.ntmps124;go_wp2_with fail;go_loopw [8] (fun C wr=>∃(k:Nat),C=.int .i64 (k:Int)/\k<=l.length/\w=wr/\Hid (x∉l.take k)) (fun C _=>l.length - (intOf C).toNat)
 case atStart=>exact⟨0,rfl,Nat.zero_le _,(by first | rfl | trivial),by show ¬_; simp⟩
 case round=>
  obtain⟨k,rfl,hk,rfl,E⟩:=hrel;by_cases V:k<l.length
  ·obtain⟨b,a4,e,M,Z,he,G⟩:=U.out.at V;have J:=G 0 (by omega);simp only [Nat.add_zero,Nat.mul_one,Ai] at J;have I:=hide he;subst M;clear G he;by_cases d:x=e
   ·have j:=hide d;clear d;have W:(x==e)=true:=by simp [j.out]
    go_wp2_with fail;go_ret;exact⟨⟨(k:Int),rfl,fun _=>by rw [j.out]; exact List.mem_of_getElem? I.out,fun _=>by omega⟩,rfl⟩
   ·have j:=hide d;have W:(x==e)=false:=by simp [d]
    clear d;go_wp2_with fail;exact⟨⟨k+1,by go_num,by omega,(by first | rfl | trivial),DQ I.out E.out (fun e=>j.out e.symm)⟩,by simp [intOf]; omega⟩
  ·have e:k=l.length:=by omega
   have y:=E.out;rw [e,List.take_length] at y;have O:=hide y;clear y e;go_wp2_with fail;go_ret;exact⟨⟨-1,rfl,fun h=>by omega,fun h=>absurd h O.out⟩,rfl⟩
theorem containsI_any {w:World} {B c:Nat} {A:Option Addr} {l:List Int} {x:Int} (h:Sl w B 1 Ai A l):Calls Tryz.prog 74 #[.slice A l.length c,.int .i64 x] w fun r w'=>r=.returned (.bool (decide (x∈l)))/\w=w':=by
 have j:=hide h;have C:=h.1;clear h;go_enter Tryz.func74,Tryz.ntmps74;go_wp2_with (go_at_call 124; refine(Qb j.out).mono ?_; rintro r w' ⟨⟨z,rfl,d⟩,rfl⟩);have y:=hide d;clear d;go_ret;refine⟨?_,rfl⟩;have:decide (x∈l)=decide (0<=z):=decide_eq_decide.2 y.out.symm;rw [this];first | rfl | trace_state
theorem Qd {w:World} {B c:Nat} {A:Option Addr} {l:List ByteArray} {x:ByteArray} (h:Sl w B 1 BE A l):Calls Tryz.prog 225 #[.slice A l.length c,.string x] w fun r w'=>(∃z:Int,r=.returned (.int .i64 z)/\(0<=z↔x∈l))/\w=w':=by
 have U:=hide h;have hn:=h.1;clear h;go_enter Tryz.func225,Tryz.ntmps225;go_wp2_with fail;go_loopw [8] (fun C wr=>∃(k:Nat),C=.int .i64 (k:Int)/\k<=l.length/\w=wr/\Hid (x∉l.take k)) (fun C _=>l.length - (intOf C).toNat)
 case atStart=>exact⟨0,rfl,Nat.zero_le _,(by first | rfl | trivial),by show ¬_; simp⟩
 case round=>
  obtain⟨k,rfl,hk,rfl,E⟩:=hrel;by_cases V:k<l.length
  ·obtain⟨b,a4,e,M,Z,he,G⟩:=U.out.at V;have J:=G 0 (by omega);simp only [Nat.add_zero,Nat.mul_one,BE] at J;have I:=hide he;subst M;clear G he;by_cases d:x=e
   ·have j:=hide d;clear d;have W:(x.toList==e.toList)=true:=by rw [DM]; exact decide_eq_true j.out
    go_wp2_with fail;go_ret;exact⟨⟨(k:Int),rfl,fun _=>by rw [j.out]; exact List.mem_of_getElem? I.out,fun _=>by omega⟩,rfl⟩
   ·have j:=hide d;have W:(x.toList==e.toList)=false:=by rw [DM]; exact decide_eq_false d
    clear d;go_wp2_with fail;exact⟨⟨k+1,by go_num,by omega,(by first | rfl | trivial),DQ I.out E.out (fun e=>j.out e.symm)⟩,by simp [intOf]; omega⟩
  ·have e:k=l.length:=by omega
   have y:=E.out;rw [e,List.take_length] at y;have O:=hide y;clear y e;go_wp2_with fail;go_ret;exact⟨⟨-1,rfl,fun h=>by omega,fun h=>absurd h O.out⟩,rfl⟩
theorem Je {w:World} {B c:Nat} {A:Option Addr} {l:List ByteArray} {x:ByteArray} (h:Sl w B 1 BE A l):Calls Tryz.prog 204 #[.slice A l.length c,.string x] w fun r w'=>r=.returned (.bool (decide (x∈l)))/\w=w':=by
 have j:=hide h;have C:=h.1;clear h;go_enter Tryz.func204,Tryz.ntmps204;go_wp2_with (go_at_call 225; refine(Qd j.out).mono ?_; rintro r w' ⟨⟨z,rfl,d⟩,rfl⟩);have y:=hide d;clear d;go_ret;refine⟨?_,rfl⟩;have:decide (x∈l)=decide (0<=z):=decide_eq_decide.2 y.out.symm;rw [this];first | rfl | trace_state
end Go.Proofs.YtfcfpoemojjglaaGreatDoor.K
