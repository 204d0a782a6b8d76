/-
  Part HA of a proof.
-/
import Derived.Test.YtfcfpoemojjglaaGreatDoorPA
import Derived.Test.YtfcfpoemojjglaaGreatDoorPH
import Derived.Test.YtfcfpoemojjglaaGreatDoorEA
import Derived.Test.YtfcfpoemojjglaaGreatDoorEH
import Derived.Test.YtfcfpoemojjglaaGreatDoorPB
import Derived.Test.YtfcfpoemojjglaaGreatDoorPI
import Derived.Test.YtfcfpoemojjglaaGreatDoorCE
import Derived.Test.YtfcfpoemojjglaaGreatDoorFB
import Derived.Test.YtfcfpoemojjglaaGreatDoorCA
import Derived.Test.YtfcfpoemojjglaaGreatDoorAA
set_option maxHeartbeats 16000000
set_option maxRecDepth 100000
set_option linter.unusedVariables false
set_option linter.unusedSimpArgs false
namespace Go.Proofs.YtfcfpoemojjglaaGreatDoor
theorem Lu {S:Type} [DecidableEq S]:∀(l fin:List S),l.Nodup→(∀v∈l,v∈fin)→l.length≤fin.length
 | [],_,_,_=>Nat.zero_le _
 | a::l,fin,hn,h=>by
  obtain⟨z,C⟩:=List.nodup_cons.1 hn
  have:=Lu l (fin.erase a) C fun v y=>(List.mem_erase_of_ne (fun(e:v=a)=>z (e ▸ y))).2 (h v (List.mem_cons_of_mem _ y))
  have E:=List.length_erase_of_mem (h a List.mem_cons_self)
  have G:=List.length_pos_of_mem (h a List.mem_cons_self)
  simp only [List.length_cons]
  omega
section
variable {L:Nat} {S:Type} [DecidableEq S] {δ:S→Nat→S} {s0:S} {i:Nat} {all:List S}
theorem Uq {I:S→Prop} (h:I s0) (z:∀s x,I s→x<L→I (δ s x)) (y:Exp L δ s0 i all) {s:S} (E:s∈all):I s:=by
 obtain⟨w,G,rfl⟩:=y.inv.reach s E
 exact Ew (I:=I) (fun q x J C=>z q x C J) w s0 G h
theorem Wb {I:S→Prop} {fin:List S} (y:I s0) (C:∀s x,I s→x<L→I (δ s x)) (z:∀s,I s→s∈fin) (h:Exp L δ s0 i all):all.length≤fin.length:=
 Lu _ fin h.inv.nodup fun v E=>z v (Uq y C h E)
end
end Go.Proofs.YtfcfpoemojjglaaGreatDoor
namespace Go.Proofs.YtfcfpoemojjglaaGreatDoor
open Go.RowKit
theorem VA:EN 6:=Al Tryz.func6 (by kernel_rfl) (by kernel_rfl)
theorem Vv:EN 14:=Al Tryz.func14 (by kernel_rfl) (by kernel_rfl)
theorem Vw:EN 19:=Al Tryz.func19 (by kernel_rfl) (by kernel_rfl)
theorem Vx:EN 37:=Al Tryz.func37 (by kernel_rfl) (by kernel_rfl)
theorem Vy:EN 49:=Al Tryz.func49 (by kernel_rfl) (by kernel_rfl)
theorem Vz:EN 51:=Al Tryz.func51 (by kernel_rfl) (by kernel_rfl)
theorem VB:EN 79:=Al Tryz.func79 (by kernel_rfl) (by kernel_rfl)
theorem VC:EN 80:=Al Tryz.func80 (by kernel_rfl) (by kernel_rfl)
theorem VD:EN 81:=Al Tryz.func81 (by kernel_rfl) (by kernel_rfl)
theorem Vu:EN 101:=Al Tryz.func101 (by kernel_rfl) (by kernel_rfl)
attribute [go_sem ↓] VA Vv Vw Vx Vy Vz VB VC VD Vu
def WA.accV (a:WA) (l:List Int):Bool:=a.ok&&l.all (inN a.letters)
def WA.acc (a:WA) (l:List Int):Bool:=a.accV l&&a.lang (l.map Int.toNat)
def WA.accR (a:WA) (l:List Int):Value:=.tuple #[.bool (a.acc l),.int .i64 (De (a.accV l))]
theorem Rc (u:List Nat):(Ak u).map Int.toNat=u:=by
 unfold Ak
 rw [List.map_map]
 conv=>rhs; rw [←List.map_id u]
 exact List.map_congr_left fun x _=>Int.toNat_natCast x
theorem WA.letters_L {a:WA} (h:a.ok=true):a.letters=(a.L:Int):=by
 have:=(WA.ok_iff.1 h).1
 unfold WA.L
 omega
theorem IR {n:Int} {l:List Int} (h:l.all (inN n)=true):∃u:List Nat,l=Ak u∧okW n.toNat u:=LE fun x y=>List.all_eq_true.1 h x y
theorem Uk {n:Nat} {u:List Nat} (h:okW n u):(Ak u).all (inN (n:Int))=true:=by
 rw [List.all_eq_true]
 intro x z
 obtain⟨y,C,rfl⟩:=List.mem_map.1 z
 have:=h y C
 rw [D3]
 omega
theorem WA.acc_word {a:WA} (h:a.ok=true) {u:List Nat} (z:okW a.L u):a.accV (Ak u)=true∧a.acc (Ak u)=a.lang u:=by
 have y:a.accV (Ak u)=true:=by unfold WA.accV; rw [h,a.letters_L h,Uk z]; rfl
 refine⟨y,?_⟩
 unfold WA.acc
 rw [y,Rc]
 rfl
theorem WA.acc_cases {a:WA} (h:a.ok=true) (l:List Int):(a.accV l=false∧a.acc l=false)∨∃u,l=Ak u∧okW a.L u∧a.accV l=true∧a.acc l=a.lang u:=by
 rcases C:l.all (inN a.letters) with _ | _
 ·left
  have y:a.accV l=false:=by unfold WA.accV; rw [h,C]; rfl
  exact⟨y,by unfold WA.acc; rw [y]; rfl⟩
 ·right
  obtain⟨u,rfl,z⟩:=IR C
  obtain⟨y,E⟩:=WA.acc_word h (u:=u) z
  exact⟨u,rfl,z,y,E⟩
section
variable {a:WA} {t:List (List Nat)} {ac:List Bool}
theorem BH.again {L:Nat} {Λ:List Nat→Bool} (y:BH L t ac Λ) {E:List (List Nat)} {z:List Bool} (h:BH (AG L t ac).L E z (AG L t ac).lang):AG (AG L t ac).L E z=AG L t ac:=by
 rw [GF] at h
 obtain⟨rfl,rfl⟩:=h.unique y fun w C=>by rw [Kl y.ok C]; exact y.can.lang w C
 rw [GF]
end
end Go.Proofs.YtfcfpoemojjglaaGreatDoor
namespace Go.Proofs.YtfcfpoemojjglaaGreatDoor
open Go.RowKit
set_option maxHeartbeats 16000000
set_option maxRecDepth 100000
theorem SL {S:Type} (δ:S→Nat→S) (s:S) {u:List Nat} {k x:Nat} (h:u[k]?=some x):Ay δ s (u.take (k+1))=δ (Ay δ s (u.take k)) x:=by
 rw [B5 h,Fs]
theorem LN {v:Value} {a:WA} {w:World} {B c:Nat} {A:Option Addr} {l:List Int} (h:Bj w w.heap.size v a) (he:a.edges.length≤3000000) (bz:a.start.length≤4000000) (hl:Sl w B 1 Ai A l) (hB:B≤w.heap.size):
  Calls Tryz.prog 16 #[v,.slice A l.length c] w (Ret fun r w'=>r=a.accR l∧Below w.heap.size w w'):=by
 have aA:=hide h
 obtain⟨A1,c1,A2,c2,A3,c3,rfl,h1,h2,h3,h4⟩:=h
 obtain⟨w1,bN,V,a6,br⟩:=Ae w #[.int .i64 a.letters,.int .i64 a.states,.slice A1 a.start.length c1,.slice A2 a.accept.length c2,.slice A3 a.edges.length c3] 35
 have aK:=V.size
 have bq:=a6.cell
 have bo:=hide V
 have bf:=hide a6
 have aF:=hide hl
 have b9:=hide h1
 have hv:=Iv (aA.out.keep (w':=w1) (fun p z=>V.cell z) aK)
 have bu:=hl.1
 obtain⟨n,hn⟩:∃n,n=l.length:=⟨_,rfl⟩
 have aG:=hide hn
 rw [←hn] at bu ⊢
 clear h1 h2 h3 h4 br V a6 hl hn
 go_enter Tryz.func16,Tryz.ntmps16
 go_wp2_with fail
 refine Calls.ret hv ?_
 rintro r w2 ⟨rfl,aa⟩
 have E:=hide (bo.out.trans (aa.mono aK))
 have ar:=hide (bf.out.below aa)
 have bJ:=ar.out.cell
 clear hv aa bq
 rcases Z:a.ok with _ | _
 ·have G:Hid (a.accR l=.tuple #[.bool false,.int .i64 1]):=by show _=_; unfold WA.accR WA.acc WA.accV; rw [Z]; rfl
  rw [show De false=1 from rfl]
  go_wp2_with fail
  go_ret2
  exact⟨G.out.symm,E.out⟩
 ·obtain⟨⟨o1,o2,o3,o4⟩,af⟩:=WA.ok_iff.1 Z
  have ae:=FM (c:=c) a.letters (aF.out.keep (w':=w2) (fun p z=>E.out.cell (by omega)) (Nat.le_refl _))
  rw [←aG.out] at ae
  rw [show De true=0 from rfl]
  have aJ:=hide Z
  go_wp2_with fail
  refine ae.mono ?_
  rintro e bS ⟨rfl,rfl⟩
  clear ae
  rcases a9:l.all (inN a.letters) with _ | _
  ·have G:Hid (a.accR l=.tuple #[.bool false,.int .i64 1]):=by show _=_; unfold WA.accR WA.acc WA.accV; rw [a9,aJ.out]; rfl
   go_wp2_with fail
   go_ret2
   exact⟨G.out.symm,E.out⟩
  ·obtain⟨u,rfl,hu⟩:=IR a9
   have am:Hid (okW a.L u):=hu
   have G:Hid (a.accR (Ak u)=.tuple #[.bool (a.lang u),.int .i64 0]):=by
    obtain⟨e1,e2⟩:=WA.acc_word aJ.out (u:=u) am.out
    show _=_
    unfold WA.accR
    rw [e1,e2]
    rfl
   have aH:=HM (aA.out.keep (w':=w2) (fun p z=>E.out.cell z) E.out.size) af ⟨o3,by omega⟩ ⟨by omega,o2⟩ he
   have ag:=hide af
   clear a9 hu Z af
   go_wp2_with fail
   refine Calls.ret aH ?_
   rintro vn w3 ⟨a8,ad⟩
   obtain⟨B1,d1,B2,d2,B3,d3,rfl,-,-,-,-⟩:=id a8
   obtain⟨w4,bO,W,au,bs⟩:=Ae w3 #[.int .i64 (a.nf.L:Int),.slice B1 a.nf.nx.length d1,.slice B2 a.nf.start.length d2,.slice B3 a.nf.acc.length d3] 88
   have bw:=ad.size
   have bx:=W.size
   have ab:=ad.trans (W.mono bw)
   have O:=hide (E.out.trans (ab.mono E.out.size))
   have bi:=hide (a8.keep (w':=w4) (fun p z=>W.cell z) bx)
   have bK:=(ar.out.below ab).cell
   have bg:=hide au
   have aq:=b9.out.keep (w':=w4) (fun p z=>O.out.cell z) O.out.size
   have ak:=GY (c:=c1) aq bz
   have bA:Hid (CL a.start=AJ a.nf.st):=NF.sort_start (WA.nf_ok ag.out)
   rw [bA.out] at ak
   clear aH a8 ad W au bs aq ab
   go_wp2_with fail
   refine Calls.ret ak ?_
   rintro vs w5 ⟨aw,I⟩
   obtain⟨A5,d5,rfl,ay⟩:=B8 (l:=AJ a.nf.st) aw rfl (Nat.le_refl _) (by have:=Fw a.nf.st; rw [a.nf.st_len,a.nf_n] at this; unfold WA.n at this; omega)
   have U:=hide (O.out.trans (I.mono O.out.size))
   have bj:=hide (bi.out.keep (w':=w5) (fun p z=>I.cell z) I.size)
   have bh:=hide (bg.out.below I)
   have bk:=hide ay
   have aM:n=u.length:=by rw [aG.out]; simp [Ak]
   have aN:=hide aM
   have bt:=hide (aF.out.keep (w':=w5) (fun p z=>U.out.cell (by omega)) (Nat.le_refl _))
   clear ak aw ay I aM
   go_wp2_with fail
   go_loopw [8,28] (fun ss kk wr=>∃(k:Nat) (A6:Option Addr) (J:Nat),ss=.slice A6 (AJ (Ay a.nf.after a.nf.st (u.take k))).length J∧kk=.int .i64 (k:Int)∧k≤n∧Hid (Sl wr wr.heap.size 1 Ai A6 (AJ (Ay a.nf.after a.nf.st (u.take k))))∧Hid (Below w5.heap.size w5 wr)) (fun _ kk _=>n - (intOf kk).toNat)
   case atStart=>exact⟨0,A5,d5,rfl,rfl,Nat.zero_le _,bk,Below.refl _ _⟩
   case round=>
    obtain⟨k,A6,J,rfl,rfl,hk,hS,C⟩:=hrel
    have a7:=bh.out.below C.out
    have bL:=a7.cell
    have av:=hide (bj.out.keep (w':=wr) (fun p z=>C.out.cell z) C.out.size)
    have a2:Hid ((Ay a.nf.after a.nf.st (u.take k)).length=a.nf.n):=a.nf.run_len (L:=a.L) fun y hy=>am.out y (List.mem_of_mem_take hy)
    by_cases bv:k<n
    ·obtain⟨x,hx⟩:=An (l:=u) (i:=k) (by rw [←aN.out]; exact bv)
     have aP:(Ak u)[k]?=some (x:Int):=AX hx
     obtain⟨b0,o0,rfl,bm,hc⟩:=EZ bt.out aP
     have bM:=(C.out.cell (p:=⟨b0,o0+k,none⟩) (by have:=U.out.size; simp only; omega)).trans hc
     have an:=am.out x (List.mem_of_getElem? hx)
     have al:=Iq (c:=J) av.out (WA.nf_ok ag.out) a2.out hS.out (Nat.le_refl _) (x:=x) an (WA.cat_le he _ _ a2.out an)
     have aj:Hid (a.nf.after (Ay a.nf.after a.nf.st (u.take k)) x=Ay a.nf.after a.nf.st (u.take (k+1))):=(SL _ _ hx).symm
     rw [aj.out] at al
     clear hx aP hc bm an a7
     go_wp2_with fail
     refine Calls.ret al ?_
     rintro vs w7 ⟨ax,aC⟩
     obtain⟨A7,d7,rfl,az⟩:=B8 (l:=AJ (Ay a.nf.after a.nf.st (u.take (k+1)))) ax rfl (Nat.le_refl _) (by
      have:=Fw (Ay a.nf.after a.nf.st (u.take (k+1)))
      rw [←aj.out,a.nf.after_len,a.nf_n] at this
      unfold WA.n at this
      rw [←aj.out]
      omega)
     have bl:=hide az
     have bp:=hide (C.out.trans (aC.mono C.out.size))
     clear al ax az aC
     go_wp2_with fail
     exact⟨⟨k+1,A7,d7,rfl,by go_num,by omega,bl,bp⟩,by simp [intOf]; omega⟩
    ·have M:=IM (c:=J) av.out (WA.nf_ok ag.out).acc hS.out (Nat.le_refl _) (Ik a2.out)
     rw [JD a2.out] at M
     have bB:Hid (u.take k=u):=List.take_of_length_le (by have:=aN.out; omega)
     rw [bB.out] at M ⊢
     have aB:=hide (U.out.trans (C.out.mono U.out.size))
     clear a7
     go_wp2_with fail
     refine Calls.ret M ?_
     rintro r w8 ⟨rfl,aD⟩
     have bn:=hide (aB.out.trans (aD.mono aB.out.size))
     clear M aD
     go_wp2_with fail
     go_ret2
     exact⟨G.out.symm,bn.out⟩
end Go.Proofs.YtfcfpoemojjglaaGreatDoor
namespace Go.Proofs.YtfcfpoemojjglaaGreatDoor
open Go.RowKit
set_option maxHeartbeats 16000000
set_option maxRecDepth 100000
section
variable {S:Type} [DecidableEq S] {P:Program} {K:TypeId}
theorem VI {enc:S→Value} (I:∀w s t,(Op.equal K (enc s) (enc t)).run P w=.ok (decide (s=t)) w) (s:S) (w:World) (es:List MapEntry):∀(l:List S) (i:Nat),es.map (·.key)=l.map enc→
  (Instr.findAsking K (enc s) es i).run P w=.ok (if s∈l then some (i+l.idxOf s,((es[l.idxOf s]?).map (·.val)).getD .nilFunc) else none) w:=by
 induction es with
 | nil=>
  intro l i h
  have:l=[]:=by cases l <;> simp_all
  subst this
  simp [Instr.findAsking]
 | cons e es ih=>
  intro l i h
  cases l with
  | nil=>simp at h
  | cons t l=>
   simp only [List.map_cons,List.cons.injEq] at h
   obtain⟨E,G⟩:=h
   unfold Instr.findAsking
   rw [E]
   simp only [Sem.run_bind,I,Result.andThen_ok]
   by_cases y:s=t
   ·subst y
    simp
   ·simp only [y,decide_false,Bool.false_eq_true,if_false]
    rw [ih l (i+1) G]
    have J:(t::l).idxOf s=l.idxOf s+1:=by
     rw [List.idxOf_cons]
     have:(t==s)=false:=by simpa using fun e=>y e.symm
     rw [this]; rfl
    by_cases z:s∈l
    ·simp only [z,J,List.mem_cons,or_true,if_true,List.getElem?_cons_succ]
     have C:i+1+l.idxOf s=i+(l.idxOf s+1):=by omega
     rw [C]
    ·simp [z,y]
theorem VK {enc:S→Value} {d:TypeDesc} (C:P.underlying K=some d) (J:∀s t,Instr.sameNow d (enc s) (enc t)=none) (E:∀y w s,(Instr.checkKey y 10000 K (enc s)).run P w=.ok () w)
  (z:∀w s t,(Op.equal K (enc s) (enc t)).run P w=.ok (decide (s=t)) w):El P K enc where
 check:=E
 find:=fun w s es l h=>by
  unfold Instr.findKey
  simp only [Sem.run_bind,run_underlying C,Result.andThen_ok]
  cases es with
  | nil=>
   have:l=[]:=by cases l <;> simp_all
   subst this
   simp [Instr.findNow]
  | cons e es=>
   cases l with
   | nil=>simp at h
   | cons t l=>
    have G:=h
    simp only [List.map_cons,List.cons.injEq] at h
    have I:Instr.findNow d (enc s) (e::es) 0=none:=by
     unfold Instr.findNow
     rw [h.1,J]
    rw [I]
    have:=VI z s w (e::es) (t::l) 0 G
    simpa using this
end
end Go.Proofs.YtfcfpoemojjglaaGreatDoor
namespace Go.Proofs.YtfcfpoemojjglaaGreatDoor
theorem U2 {S:Type} {δ:S→Nat→S} {L:Nat} {I:List Nat→S→Prop} (z:∀p s x,x<L→I p s→I (p++[x]) (δ s x)):∀(w p:List Nat) (s:S),okW L w→I p s→I (p++w) (Ay δ s w)
 | [],p,s,_,h=>by rw [List.append_nil]; exact h
 | x::w,p,s,hw,h=>by
  have:=U2 z w (p++[x]) (δ s x) (fun y C=>hw y (List.mem_cons_of_mem _ C)) (z p s x (hw x List.mem_cons_self) h)
  rw [List.append_assoc] at this
  exact this
def UB (l:List Int) (w:List Nat):Nat:=w.countP fun y:Nat=>decide ((y:Int)∈l)
theorem Vs (l:List Int) (w:List Nat) (x:Nat):UB l (w++[x])=if (x:Int)∈l then UB l w+1 else UB l w:=by
 unfold UB
 rw [List.countP_append]
 by_cases h:(x:Int)∈l <;> simp [h]
structure AdS where
 ne:Bool
 la:Bool
 fo:Bool
 he:Bool
deriving DecidableEq
def adN (a b:Int) (s:AdS) (x:Nat):AdS:=⟨true,decide ((x:Int)=a),s.fo||(s.la&&decide ((x:Int)=b)),s.he||(!s.ne&&decide ((x:Int)=b))⟩
def ad0:AdS:=⟨false,false,false,false⟩
def AdS.is (ring:Bool) (s:AdS):Bool:=s.fo||(ring&&s.la&&s.he)
def adW (a b:Int) (ring:Bool) (w:List Nat):Bool:=(Ay (adN a b) ad0 w).is ring
theorem WA.after_get {a:WA} (h:a.In) {m:List Bool} {x q:Nat} (z:x<a.L) (y:q<a.n):(a.nf.after m x)[q]?=some (a.edges.any fun e=>decide (e.letter=(x:Int))&&m.getD e.frm.toNat false&&decide (e.to=(q:Int))):=by
 rw [←WA.afterE_all h z (Nat.le_refl _),WA.afterE_get y,List.take_length]
def Wd (L:Nat) (a b:Int) (ring:Bool):WA:=
 ⟨(L:Int),if ring then 6 else 3,if ring then [0,3] else [0],if ring then [2,5] else [2],
  ((List.range L).flatMap fun z:Nat=>[⟨0,(z:Int),0⟩,⟨2,(z:Int),2⟩])++[⟨0,a,1⟩,⟨1,b,2⟩]++
  if ring then ((List.range L).map fun z:Nat=>(⟨4,(z:Int),4⟩:Edg))++[⟨3,b,4⟩,⟨4,a,5⟩]++(if a=b then [⟨3,a,5⟩] else []) else []⟩
def adM (ring:Bool) (s:AdS):List Bool:=[true,s.la,s.fo]++if ring then [!s.ne,s.he,s.la&&s.he] else []
end Go.Proofs.YtfcfpoemojjglaaGreatDoor
namespace Go.Proofs.YtfcfpoemojjglaaGreatDoor
def Wf (L:Nat) (l:List Int) (k:Nat):List (List Nat):=(List.range (k+1)).map fun i=>(List.range L).map fun x:Nat=>if (x:Int)∈l∧i<k then i+1 else i
def We (k:Nat):List Bool:=(List.range (k+1)).map fun i=>decide (i=k)
structure ScS where
 som:Bool
 cn:List Nat
 fo:Bool
 op:Bool
 cl:Bool
deriving DecidableEq
def scN (bad:List (List Int×Nat)) (adj:Option (Int×Int)) (ring:Bool) (s:ScS) (x:Nat):ScS:=
 let cn:=(s.cn.zip bad).map fun c=>if (x:Int)∈c.2.1 then min (c.1+1) c.2.2 else c.1
 match adj with
 | none=>⟨true,cn,s.fo,s.op&&!s.fo,s.cl&&!s.fo⟩
 | some (a,b)=>
  if s.fo then ⟨true,cn,true,false,false⟩
  else if s.op&&decide ((x:Int)=b) then ⟨true,cn,true,false,false⟩
  else ⟨true,cn,false,decide ((x:Int)=a),ring&&(s.cl||!s.som&&decide ((x:Int)=b))⟩
def sc0 (bad:List (List Int×Nat)):ScS:=⟨false,bad.map fun _=>0,false,false,false⟩
def scB (bad:List (List Int×Nat)) (adj:Option (Int×Int)) (s:ScS):Bool:=(s.cn.zip bad).all (fun c=>decide (c.2.2≤c.1))&&s.som&&(adj.isNone||s.fo||s.op&&s.cl)
def UZ (adj:Option (Int×Int)) (ring:Bool) (w:List Nat):Bool:=match adj with
 | none=>true
 | some (a,b)=>adW a b ring w
def UK (bad:List (List Int×Nat)) (adj:Option (Int×Int)) (ring:Bool) (w:List Nat):Bool:=bad.all (fun c=>decide (c.2≤UB c.1 w))&&!w.isEmpty&&UZ adj ring w
structure ScI (bad:List (List Int×Nat)) (adj:Option (Int×Int)) (ring:Bool) (w:List Nat) (s:ScS):Prop where
 som:s.som= !w.isEmpty
 cn:s.cn=bad.map fun c=>min (UB c.1 w) c.2
 no:adj=none→s.fo=false∧s.op=false∧s.cl=false
 yes:∀a b,adj=some (a,b)→s.fo=(Ay (adN a b) ad0 w).fo∧s.op=(!(Ay (adN a b) ad0 w).fo&&(Ay (adN a b) ad0 w).la)∧s.cl=(!(Ay (adN a b) ad0 w).fo&&(ring&&(Ay (adN a b) ad0 w).he))∧(Ay (adN a b) ad0 w).ne= !w.isEmpty
theorem U4 {α β γ:Type} (l:List α) (f:α→β) (g:β×α→γ):((l.map f).zip l).map g=l.map fun c=>g (f c,c):=by
 induction l with
 | nil=>rfl
 | cons a l ih=>simp only [List.map_cons,List.zip_cons_cons,ih]
theorem ScI.step {bad:List (List Int×Nat)} {adj:Option (Int×Int)} {ring:Bool} {w:List Nat} {s:ScS} (h:ScI bad adj ring w s) (x:Nat):ScI bad adj ring (w++[x]) (scN bad adj ring s x):=by
 have I:((s.cn.zip bad).map fun c=>if (x:Int)∈c.2.1 then min (c.1+1) c.2.2 else c.1)=bad.map fun c=>min (UB c.1 (w++[x])) c.2:=by
  rw [h.cn,U4]
  refine List.map_congr_left fun c _=>?_
  show(if (x:Int)∈c.1 then min (min (UB c.1 w) c.2+1) c.2 else min (UB c.1 w) c.2)=_
  rw [Vs]
  by_cases y:(x:Int)∈c.1
  ·rw [if_pos y,if_pos y]; omega
  ·rw [if_neg y,if_neg y]
 have G:(!(w++[x]).isEmpty)=true:=by simp
 cases adj with
 | none=>
  obtain⟨z,C,E⟩:=h.no rfl
  refine⟨by rw [G]; rfl,I,fun _=>⟨z,?_,?_⟩,fun a b e=>by cases e⟩
  ·show(s.op&&!s.fo)=false; rw [C]; rfl
  ·show(s.cl&&!s.fo)=false; rw [E]; rfl
 | some ab=>
  obtain⟨a,b⟩:=ab
  obtain⟨z,C,E,M⟩:=h.yes a b rfl
  have J:=h.som
  refine⟨?_,?_,fun e=>(by cases e),fun a' U e=>?_⟩
  ·rw [G]; simp only [scN]; split <;> (try split) <;> rfl
  ·simp only [scN]; split <;> (try split) <;> exact I
  ·cases e
   rw [Fs,G]
   rw [←M] at J
   revert z C E J
   generalize Ay (adN a b) ad0 w=t
   obtain⟨n,l,f,e⟩:=t
   obtain⟨O,cn,fo,op,cl⟩:=s
   simp only [scN,adN]
   generalize decide ((x:Int)=a)=A
   generalize decide ((x:Int)=b)=B
   rintro rfl rfl rfl rfl
   cases A <;> cases B <;> cases O <;> cases l <;> cases fo <;> cases e <;> cases ring <;> (first | exact⟨rfl,rfl,rfl,rfl⟩ | exact⟨rfl,rfl,rfl,trivial⟩)
theorem V4 (bad:List (List Int×Nat)) (adj:Option (Int×Int)) (ring:Bool) (w:List Nat) {L:Nat} (y:okW L w):ScI bad adj ring w (Ay (scN bad adj ring) (sc0 bad) w):=by
 have:=U2 (L:=L) (δ:=scN bad adj ring) (I:=fun p s=>ScI bad adj ring p s) (fun p s x _ h=>h.step x) w [] (sc0 bad) y
  ⟨rfl,by simp [sc0,UB],fun _=>⟨rfl,rfl,rfl⟩,fun a b _=>⟨rfl,rfl,(by cases ring <;> rfl),rfl⟩⟩
 simpa using this
theorem V3 (bad:List (List Int×Nat)) (adj:Option (Int×Int)) (ring:Bool) {w:List Nat} {L:Nat} (O:okW L w):scB bad adj (Ay (scN bad adj ring) (sc0 bad) w)=UK bad adj ring w:=by
 have h:=V4 bad adj ring w O
 unfold scB UK
 rw [h.som]
 congr 1
 ·congr 1
  rw [h.cn,Bool.eq_iff_iff,List.all_eq_true,List.all_eq_true]
  constructor
  ·intro z c y
   have:=z (min (UB c.1 w) c.2,c) (by
    have:(min (UB c.1 w) c.2,c)∈((bad.map fun c=>min (UB c.1 w) c.2).zip bad).map id:=by
     rw [U4]; exact List.mem_map.2 ⟨c,y,rfl⟩
    simpa using this)
   simp only [decide_eq_true_eq] at this ⊢
   omega
  ·intro z ⟨m,c⟩ y
   have:(m,c)∈((bad.map fun c=>min (UB c.1 w) c.2).zip bad).map id:=by simpa using y
   rw [U4] at this
   obtain⟨U,M,e⟩:=List.mem_map.1 this
   simp only [id] at e
   have C:=(Prod.mk.inj e).1
   have E:=(Prod.mk.inj e).2
   have:=z _ M
   rw [E] at this C
   simp only [decide_eq_true_eq] at this ⊢
   omega
 ·cases adj with
  | none=>simp [UZ]
  | some ab=>
   obtain⟨a,b⟩:=ab
   obtain⟨G,I,J,V⟩:=h.yes a b rfl
   rw [G,I,J]
   show _=adW a b ring w
   unfold adW AdS.is
   generalize Ay (adN a b) ad0 w=t
   obtain⟨n,l,f,e⟩:=t
   cases l <;> cases f <;> cases e <;> cases ring <;> rfl
end Go.Proofs.YtfcfpoemojjglaaGreatDoor
namespace Go.Proofs.YtfcfpoemojjglaaGreatDoor
structure Sc3 where
 som:Bool
 c0:Nat
 c1:Nat
 c2:Nat
 fo:Bool
 op:Bool
 cl:Bool
deriving DecidableEq
def scU (bad:List (List Int×Nat)) (x k c:Nat):Nat:=match bad[k]? with
 | some d=>if (x:Int)∈d.1 then min (c+1) d.2 else c
 | none=>c
def scK (bad:List (List Int×Nat)) (x i k c:Nat):Nat:=if k<i then scU bad x k c else c
def UE (bad:List (List Int×Nat)) (x i:Nat) (s:Sc3):Sc3:={ s with c0:=scK bad x i 0 s.c0,c1:=scK bad x i 1 s.c1,c2:=scK bad x i 2 s.c2 }
def Uz (adj:Option (Int×Int)) (ring:Bool) (s:Sc3) (x:Nat):Sc3:=match adj with
 | none=>{ s with som:=true,op:=s.op&&!s.fo,cl:=s.cl&&!s.fo }
 | some (a,b)=>
  if s.fo then { s with som:=true,fo:=true,op:=false,cl:=false }
  else if s.op&&decide ((x:Int)=b) then { s with som:=true,fo:=true,op:=false,cl:=false }
  else { s with som:=true,fo:=false,op:=decide ((x:Int)=a),cl:=ring&&(s.cl||!s.som&&decide ((x:Int)=b)) }
def Ux (bad:List (List Int×Nat)) (adj:Option (Int×Int)) (ring:Bool) (s:Sc3) (x:Nat):Sc3:=Uz adj ring (UE bad x bad.length s) x
def UD:Sc3:=⟨false,0,0,0,false,false,false⟩
def Sc3.to (b:Nat) (s:Sc3):ScS:=⟨s.som,[s.c0,s.c1,s.c2].take b,s.fo,s.op,s.cl⟩
def UG (bad:List (List Int×Nat)) (adj:Option (Int×Int)) (s:Sc3):Bool:=scB bad adj (s.to bad.length)
theorem VV {bad:List (List Int×Nat)} (J:bad.length≤3) (adj:Option (Int×Int)) (ring:Bool) (s:Sc3) (x:Nat):(Ux bad adj ring s x).to bad.length=scN bad adj ring (s.to bad.length) x:=by
 have z:[(UE bad x bad.length s).c0,(UE bad x bad.length s).c1,(UE bad x bad.length s).c2].take bad.length=(([s.c0,s.c1,s.c2].take bad.length).zip bad).map fun c=>if (x:Int)∈c.2.1 then min (c.1+1) c.2.2 else c.1:=by
  rcases bad with _ | ⟨a,_ | ⟨b,_ | ⟨c,_ | ⟨d,l⟩⟩⟩⟩
  ·rfl
  ·simp [UE,scK,scU]
  ·simp [UE,scK,scU]
  ·simp [UE,scK,scU]
  ·exact absurd J (by simp)
 cases adj with
 | none=>
  unfold Ux Uz scN Sc3.to
  rw [←z]
  rfl
 | some ab=>
  obtain⟨a,b⟩:=ab
  unfold Ux Uz scN Sc3.to
  rw [←z]
  have C:(UE bad x bad.length s).fo=s.fo:=rfl
  have E:(UE bad x bad.length s).op=s.op:=rfl
  have G:(UE bad x bad.length s).cl=s.cl:=rfl
  have I:(UE bad x bad.length s).som=s.som:=rfl
  simp only [C,E,G,I]
  by_cases h:s.fo=true
  ·simp only [h,if_true]
  ·by_cases y:(s.op&&decide ((x:Int)=b))=true
   ·simp only [h,y,if_true]; rfl
   ·simp only [h,y]; rfl
theorem Ve {bad:List (List Int×Nat)} (h:bad.length≤3) (adj:Option (Int×Int)) (ring:Bool):∀(w:List Nat) (s:Sc3),(Ay (Ux bad adj ring) s w).to bad.length=Ay (scN bad adj ring) (s.to bad.length) w
 | [],_=>rfl
 | x::w,s=>by
  show(Ay (Ux bad adj ring) (Ux bad adj ring s x) w).to bad.length=Ay (scN bad adj ring) (scN bad adj ring (s.to bad.length) x) w
  rw [←VV h]
  exact Ve h adj ring w _
theorem VU (bad:List (List Int×Nat)) (h:bad.length≤3):UD.to bad.length=sc0 bad:=by
 unfold UD Sc3.to sc0
 rcases bad with _ | ⟨a,_ | ⟨b,_ | ⟨c,_ | ⟨d,l⟩⟩⟩⟩
 ·rfl
 ·rfl
 ·rfl
 ·rfl
 ·exact absurd h (by simp)
theorem VS {bad:List (List Int×Nat)} (h:bad.length≤3) (adj:Option (Int×Int)) (ring:Bool) {w:List Nat} {L:Nat} (y:okW L w):UG bad adj (Ay (Ux bad adj ring) UD w)=UK bad adj ring w:=by
 unfold UG
 rw [Ve h,VU bad h,V3 bad adj ring y]
def Sc3.Le (s:Sc3):Prop:=s.c0≤3∧s.c1≤3∧s.c2≤3
theorem V0 {bad:List (List Int×Nat)} (y:∀d∈bad,d.2≤3) {x k c:Nat} (z:c≤3):scU bad x k c≤3:=by
 unfold scU
 cases h:bad[k]? with
 | none=>exact z
 | some d=>
  have:=y d (List.mem_of_getElem? h)
  simp only
  split <;> omega
theorem UO {bad:List (List Int×Nat)} (y:∀d∈bad,d.2≤3) {x i k c:Nat} (h:c≤3):scK bad x i k c≤3:=by
 unfold scK
 split
 ·exact V0 y h
 ·exact h
theorem VY {bad:List (List Int×Nat)} (h:∀d∈bad,d.2≤3) {x i:Nat} {s:Sc3} (y:s.Le):(UE bad x i s).Le:=⟨UO h y.1,UO h y.2.1,UO h y.2.2⟩
theorem VZ {adj:Option (Int×Int)} {ring:Bool} {x:Nat} {s:Sc3} (h:s.Le):(Uz adj ring s x).Le:=by
 unfold Uz
 cases adj with
 | none=>exact h
 | some ab=>simp only; split <;> (try split) <;> exact h
theorem VT {bad:List (List Int×Nat)} (h:∀d∈bad,d.2≤3) {adj:Option (Int×Int)} {ring:Bool} {x:Nat} {s:Sc3} (y:s.Le):(Ux bad adj ring s x).Le:=VZ (VY h y)
def UW:List Sc3:=[false,true].flatMap fun a=>[0,1,2,3].flatMap fun c0=>[0,1,2,3].flatMap fun c1=>[0,1,2,3].flatMap fun c2=>[false,true].flatMap fun f=>[false,true].flatMap fun o=>[false,true].map fun c=>⟨a,c0,c1,c2,f,o,c⟩
theorem VW:UW.length=1024:=by decide+kernel
theorem VX {s:Sc3} (h:s.Le):s∈UW:=by
 obtain⟨a,c0,c1,c2,f,o,c⟩:=s
 obtain⟨C,E,G⟩:=h
 simp only at C E G
 have y:∀b:Bool,b∈[false,true]:=by decide
 have z:∀n:Nat,n≤3→n∈[0,1,2,3]:=fun n z=>by
  have:n=0∨n=1∨n=2∨n=3:=by omega
  rcases this with rfl | rfl | rfl | rfl <;> decide
 unfold UW
 exact List.mem_flatMap.2 ⟨a,y a,List.mem_flatMap.2 ⟨c0,z _ C,List.mem_flatMap.2 ⟨c1,z _ E,List.mem_flatMap.2 ⟨c2,z _ G,List.mem_flatMap.2 ⟨f,y f,List.mem_flatMap.2 ⟨o,y o,List.mem_map.2 ⟨c,y c,rfl⟩⟩⟩⟩⟩⟩⟩
end Go.Proofs.YtfcfpoemojjglaaGreatDoor
namespace Go.Proofs.YtfcfpoemojjglaaGreatDoor
open Go.RowKit
set_option maxHeartbeats 16000000
set_option maxRecDepth 100000
set_option linter.unusedSimpArgs false
def BE (s:Sc3):List Value:=[.bool s.som,.int .i64 (s.c0:Int),.int .i64 (s.c1:Int),.int .i64 (s.c2:Int),.bool s.fo,.bool s.op,.bool s.cl]
def UA (s:Sc3):Value:=.agg #[.bool s.som,.int .i64 (s.c0:Int),.int .i64 (s.c1:Int),.int .i64 (s.c2:Int),.bool s.fo,.bool s.op,.bool s.cl]
theorem Vh:Tryz.t3.size=1:=by kernel_rfl
theorem UQ:Tryz.t4.size=1:=by kernel_rfl
theorem UP:Tryz.t131.size=3:=by kernel_rfl
theorem VF (a b:Int) (d:Nat) (w:World):(Op.equalIn (d+1) 3 (.int .i64 a) (.int .i64 b)).run Tryz.prog w=.ok (a==b) w:=by
 simp [Op.equalIn,go_sem]
theorem US (a b:Bool) (d:Nat) (w:World):(Op.equalIn (d+1) 4 (.bool a) (.bool b)).run Tryz.prog w=.ok (a==b) w:=by
 simp [Op.equalIn,go_sem]
theorem UR (x y z h C E:Int) (d:Nat) (w:World):(Op.equalIn (d+1+1) 131 (.agg #[.int .i64 x,.int .i64 y,.int .i64 z]) (.agg #[.int .i64 h,.int .i64 C,.int .i64 E])).run Tryz.prog w=.ok (x==h&&(y==C&&z==E)) w:=by
 rw [Op.equalIn]
 by_cases G:x=h <;> by_cases I:y=C <;> by_cases J:z=E <;> simp [go_sem,List.range',VF,part,isAgg,sizeOf,Vh,G,I,J]
theorem VE (a a' f G o J c E:Bool) (x y z M O U:Int) (w:World):(Op.equalIn (9997+1+1+1) 133 (.agg #[.bool a,.int .i64 x,.int .i64 y,.int .i64 z,.bool f,.bool o,.bool c]) (.agg #[.bool a',.int .i64 M,.int .i64 O,.int .i64 U,.bool G,.bool J,.bool E])).run Tryz.prog w=.ok (a==a'&&(x==M&&(y==O&&z==U))&&f==G&&o==J&&c==E) w:=by
 rw [Op.equalIn]
 by_cases h:a=a'
 ·by_cases C:(x==M&&(y==O&&z==U))=true
  ·by_cases I:f=G
   ·by_cases V:o=J
    ·by_cases W:c=E <;> simp [go_sem,US,UR,part,isAgg,sizeOf,UQ,UP,h,C,I,V,W]
    ·simp [go_sem,US,UR,part,isAgg,sizeOf,UQ,UP,h,C,I,V]
   ·simp [go_sem,US,UR,part,isAgg,sizeOf,UQ,UP,h,C,I]
  ·simp [go_sem,US,UR,part,isAgg,sizeOf,UQ,UP,h,C]
 ·simp [go_sem,US,UR,part,isAgg,sizeOf,UQ,UP,h]
theorem VG (w:World) (s t:Sc3):(Op.equal 133 (UA s) (UA t)).run Tryz.prog w=.ok (decide (s=t)) w:=by
 obtain⟨a,x,y,z,f,o,c⟩:=s
 obtain⟨a',I,J,M,E,G,C⟩:=t
 refine(VE a a' f E o G c C x y z I J M w).trans ?_
 congr 1
 rw [Bool.eq_iff_iff]
 simp only [Bool.and_eq_true,beq_iff_eq,decide_eq_true_eq,Sc3.mk.injEq]
 constructor
 ·rintro⟨⟨⟨⟨rfl,h⟩,rfl⟩,rfl⟩,rfl⟩
  exact⟨rfl,by omega,by omega,by omega,rfl,rfl,rfl⟩
 ·rintro⟨rfl,rfl,rfl,rfl,rfl,rfl,rfl⟩
  simp
theorem Vr (h:Nat) (y:Bool) (w:World) (s:Sc3):(Instr.checkKey y (h+1+1+1) 133 (UA s)).run Tryz.prog w=.ok () w:=by
 unfold UA
 simp [Instr.checkKey,go_sem,List.range',part,isAgg,sizeOf,Vh,UQ,UP]
theorem U0:El Tryz.prog 133 UA:=VK Tryz.underlying133 (fun _ _=>rfl) (fun h w s=>Vr 9997 h w s) VG
theorem VJ:(Tryz.prog.info? 133).map (fun i=>(i.zero,i.size,i.bytes))=some (some (.agg #[.bool false,.int .i64 0,.int .i64 0,.int .i64 0,.bool false,.bool false,.bool false]),7,40):=by kernel_rfl
theorem VQ:Dd Tryz.prog 186 133 7:=EX Tryz.underlying186 VJ rfl (by omega) (by omega)
theorem U9:∀{l:List Sc3} {k j:Nat} {d:Sc3},l[k]?=some d→j<7→(l.flatMap BE)[k*7+j]?=(BE d)[j]?
 | [],_,_,_,h,_=>by simp at h
 | d::l,0,j,e,h,hj=>by
  have:d=e:=by simpa using h
  subst this
  rw [List.flatMap_cons,List.getElem?_append_left (by simp [BE]; omega)]
  congr 1
  omega
 | d::l,k+1,j,e,h,hj=>by
  rw [List.flatMap_cons,List.getElem?_append_right (by simp [BE]; omega)]
  have z:=U9 (l:=l) (k:=k) (j:=j) (by simpa using h) hj
  have y:(k+1)*7+j - (BE d).length=k*7+j:=by simp [BE]; omega
  rw [y]
  exact z
theorem VO {w:World} {base n:Nat} {v:Value} {l:List Sc3} (h:w.ownsRow base 133 7 v n (l.flatMap BE)) (I:l.length=n) {k:Nat} {d:Sc3} (hd:l[k]?=some d):
  ∃g cap,v=.slice (some ⟨g,0,none⟩) n cap∧base≤g∧g<w.heap.size∧∀j,j<7→w.cell? ⟨g,k*7+j,none⟩=(BE d)[j]?:=by
 subst I
 rcases h.2 with⟨rfl,E⟩ | ⟨g,cap,C,rfl,G,y,J,M,O,ht⟩
 ·have:l=[]:=List.length_eq_zero_iff.1 E
  subst this
  simp at hd
 ·refine⟨g,cap,rfl,G,(Array.getElem?_eq_some_iff.1 y).1,fun j z=>?_⟩
  rw [cell_of_row w g _ C 133 (0,0) y]
  have:=U9 hd z
  rw [←ht,List.getElem?_take] at this
  split at this
  ·rw [←this]; simp
  ·rw [List.getElem?_eq_getElem (by simpa [BE] using z)] at this
   cases this
structure QS (w0 wr:World) (g2 g4 g5 gm:Nat) (c2:Array Value) (kst st:List Sc3) (t:List (List Nat)) (as':List Bool) (vS vN vA:Value) (ws:List Value) (N:Nat→Prop):Prop where
 below:Below w0.heap.size w0 wr
 b2:Blk wr g2 78 c2
 b4:Blk wr g4 78 #[sn0,sn0]
 b5:Blk wr g5 78 #[vN,vA]
 map:Bw wr gm (kst.map UA)
 sts:wr.ownsRow w0.heap.size 133 7 vS st.length (st.flatMap BE)
 acc:wr.ownsRow w0.heap.size 4 1 vA as'.length (as'.map Value.bool)
 nxt:wr.ownsRow w0.heap.size 24 1 vN t.length ws
 nxtR:Cl wr w0.heap.size (fun g=>N g∧vS.ownBlock≠some g) ws (t.map Ak)
 ne:g2≠g5∧g4≠g5
 ge:w0.heap.size≤g2∧w0.heap.size≤g4∧w0.heap.size≤g5∧w0.heap.size≤gm
section
variable {w0 wr w':World} {g2 g4 g5 gm:Nat} {c2:Array Value} {kst st:List Sc3} {t:List (List Nat)} {as':List Bool} {vS vN vA:Value} {ws:List Value} {N:Nat→Prop}
theorem QS.keep (h:QS w0 wr g2 g4 g5 gm c2 kst st t as' vS vN vA ws N) (y:Below wr.heap.size wr w'):QS w0 w' g2 g4 g5 gm c2 kst st t as' vS vN vA ws N:=
 ⟨h.below.trans (y.mono h.below.size),h.b2.below y,h.b4.below y,h.b5.below y,h.map.keep (y.block _ h.map.lt),Bt h.sts y,Bt h.acc y,Bt h.nxt y,
  h.nxtR.keep (Ac.of_below y (fun _=>False)) (fun _ _ _ e=>e.elim) (fun _ _ x=>x) (Nat.le_refl _),h.ne,h.ge⟩
theorem QS.weak {N':Nat→Prop} (h:QS w0 wr g2 g4 g5 gm c2 kst st t as' vS vN vA ws N) (y:∀g,g<wr.heap.size→N g→N' g):QS w0 wr g2 g4 g5 gm c2 kst st t as' vS vN vA ws N':=
 ⟨h.below,h.b2,h.b4,h.b5,h.map,h.sts,h.acc,h.nxt,h.nxtR.keep (Ac.refl wr (fun _=>False)) (fun _ _ _ e=>e.elim) (fun g z x=>⟨y g z x.1,x.2⟩) (Nat.le_refl _),h.ne,h.ge⟩
theorem QS.other (h:QS w0 wr g2 g4 g5 gm c2 kst st t as' vS vN vA ws N) {gr:Nat} {E:Array Value} (G:∀g,N g→g≠gr) (hS:vS.ownBlock≠some gr) (y:Blk wr gr 3 E) (C:w0.heap.size≤gr) (hk:Ac wr w' (fun k=>k=gr)):QS w0 w' g2 g4 g5 gm c2 kst st t as' vS vN vA ws N:=
 ⟨h.below.trans (hk.below h.below.size fun b J e=>by omega),h.b2.kept hk (h.b2.ne_ y (by decide)),h.b4.kept hk (h.b4.ne_ y (by decide)),h.b5.kept hk (h.b5.ne_ y (by decide)),
  h.map.kept hk (fun e=>BT y h.map e.symm),hk.ownsRow h.sts (fun g C e=>hS (by rw [C,e])),
  AK hk h.acc (fun g cs e z=>by subst e; exact z.ne_ y (by decide) rfl),AK hk h.nxt (fun g cs e z=>by subst e; exact z.ne_ y (by decide) rfl),
  h.nxtR.keep hk (fun g cs I e _=>G g I.1 e) (fun _ _ x=>x) (Nat.le_refl _),h.ne,h.ge⟩
theorem QS.addS {kv s:Sc3} {vS':Value} {C w1:World} (h:QS w0 wr g2 g4 g5 gm c2 kst st t as' vS vN vA ws N) (U:Bw C gm ((kst++[kv]).map UA)) (G:wr.grownBy C (some gm)) (a6:C.heap.size=wr.heap.size)
  (M:Ac C w1 (fun k=>vS.ownBlock=some k)) (a2:w1.ownsRow w0.heap.size 133 7 vS' (st.length+1) (st.flatMap BE++BE s)) (W:BJ C vS vS'):
  QS w0 w1 g2 g4 g5 gm c2 (kst++[kv]) (st++[s]) t as' vS' vN vA ws N∧Ac wr w1 (fun k=>gm=k∨vS.ownBlock=some k):=by
 have O:Ac wr C (fun k=>gm=k):=(Ac.of_grown G).mono fun b _ e=>Option.some.inj e
 have y:Ac wr w1 (fun k=>gm=k∨vS.ownBlock=some k):=(O.mono fun _ _ e=>.inl e).trans M fun _ _ e=>.inr e
 have E:∀{e:TypeId},e≠133→∀g cs,(gm=g∨vS.ownBlock=some g)→¬Blk wr g e cs:=by
  rintro e J g cs (I | I) hB
  ·exact BT hB h.map I.symm
  ·exact Aw h.sts hB (fun z=>J z.symm) I
 have a3:=O.ownsRow h.sts fun g G e=>Di h.sts h.map (by rw [G,e])
 refine⟨⟨h.below.trans (y.below h.below.size ?_),h.b2.kept y fun x=>E (by decide) _ _ x h.b2,h.b4.kept y fun x=>E (by decide) _ _ x h.b4,h.b5.kept y fun x=>E (by decide) _ _ x h.b5,
  U.kept M (Di a3 U),?_,AK y h.acc (E (by decide)),AK y h.nxt (E (by decide)),?_,h.ne,h.ge⟩,y⟩
 ·rintro b hb (e | e)
  ·have:=h.ge; omega
  ·have:=Bb h.sts e; omega
 ·rw [List.length_append,List.flatMap_append]
  simpa using a2
 ·refine h.nxtR.keep y ?_ ?_ (Nat.le_refl _)
  ·rintro g cs Z (e | e) hB
   ·exact BT hB h.map e.symm
   ·exact Z.2 e
  ·rintro g G ⟨J,V⟩
   refine⟨J,fun e=>?_⟩
   rcases W with z | ⟨g',z,a7⟩
   ·exact V (by rw [←z]; exact e)
   ·rw [e] at z
    have:=Option.some.inj z
    omega
theorem QS.addA {b:Bool} {vA':Value} {w1:World} (h:QS w0 wr g2 g4 g5 gm c2 kst st t as' vS vN vA ws N) (I:Ac wr w1 (fun k=>vA.ownBlock=some k)) (Z:w1.ownsRow w0.heap.size 4 1 vA' (as'.length+1) (as'.map Value.bool++[.bool b])):
  QS w0 (w1.setCell ⟨g5,1,none⟩ vA') g2 g4 g5 gm c2 kst st t (as'++[b]) vS vN vA' ws N:=by
 have M:=h.b5.kept I (Aw h.acc h.b5 (by decide))
 have J:=(Ac.refl w1 (fun k=>k=g5)).setCell (p:=⟨g5,1,none⟩) (fun _=>rfl) vA'
 have y:Ac wr (w1.setCell ⟨g5,1,none⟩ vA') (fun k=>vA.ownBlock=some k∨k=g5):=(I.mono fun _ _ e=>.inl e).trans J fun _ _ e=>.inr e
 have E:∀{e:TypeId},e≠4→e≠78→∀g cs,(vA.ownBlock=some g∨g=g5)→¬Blk wr g e cs:=by
  rintro e O U g cs (C | C) z
  ·exact Aw h.acc z (fun V=>O V.symm) C
  ·exact z.ne_ h.b5 U C
 have G:∀{g:Nat} {cs:Array Value},Blk wr g 78 cs→g≠g5→¬(vA.ownBlock=some g∨g=g5):=by
  rintro g cs z W (e | e)
  ·exact Aw h.acc z (by decide) e
  ·exact W e
 refine⟨h.below.trans (y.below h.below.size ?_),h.b2.kept y (G h.b2 h.ne.1),h.b4.kept y (G h.b4 h.ne.2),M.set_ 1 vA',h.map.kept y ?_,AK y h.sts (E (by decide) (by decide)),?_,AK y h.nxt (E (by decide) (by decide)),
  h.nxtR.keep y (fun g cs _ e=>E (by decide) (by decide) g cs e) (fun _ _ x=>x) (Nat.le_refl _),h.ne,h.ge⟩
 ·rintro b hb (e | e)
  ·have:=Bb h.acc e; omega
  ·have:=h.ge; omega
 ·rintro(e | e)
  ·exact Di h.acc h.map e
  ·exact BT h.b5 h.map e.symm
 ·rw [List.length_append,List.map_append]
  exact AK J Z (fun g cs e z=>by subst e; exact z.ne_ M (by decide) rfl)
theorem QS.addR {row:List Nat} {gr c:Nat} {vN':Value} {w1:World} (h:QS w0 wr g2 g4 g5 gm c2 kst st t as' vS vN vA ws N)
  (hr:wr.ownsRow w0.heap.size 3 1 (.slice (some ⟨gr,0,none⟩) row.length c) row.length ((Ak row).map (Value.int .i64))) (hS:vS.ownBlock≠some gr)
  (I:Ac wr w1 (fun k=>vN.ownBlock=some k)) (ho:w1.ownsRow w0.heap.size 24 1 vN' (t.length+1) (ws++[.slice (some ⟨gr,0,none⟩) row.length c])):
  QS w0 (w1.setCell ⟨g5,0,none⟩ vN') g2 g4 g5 gm c2 kst st (t++[row]) as' vS vN' vA (ws++[.slice (some ⟨gr,0,none⟩) row.length c]) (fun _=>True):=by
 have M:=h.b5.kept I (Aw h.nxt h.b5 (by decide))
 have J:=(Ac.refl w1 (fun k=>k=g5)).setCell (p:=⟨g5,0,none⟩) (fun _=>rfl) vN'
 have y:Ac wr (w1.setCell ⟨g5,0,none⟩ vN') (fun k=>vN.ownBlock=some k∨k=g5):=(I.mono fun _ _ e=>.inl e).trans J fun _ _ e=>.inr e
 have C:∀{e:TypeId},e≠24→e≠78→∀g cs,(vN.ownBlock=some g∨g=g5)→¬Blk wr g e cs:=by
  rintro e U V g cs (E | E) z
  ·exact Aw h.nxt z (fun Z=>U Z.symm) E
  ·exact z.ne_ h.b5 V E
 have G:∀{g:Nat} {cs:Array Value},Blk wr g 78 cs→g≠g5→¬(vN.ownBlock=some g∨g=g5):=by
  rintro g cs z a2 (e | e)
  ·exact Aw h.nxt z (by decide) e
  ·exact a2 e
 refine⟨h.below.trans (y.below h.below.size ?_),h.b2.kept y (G h.b2 h.ne.1),h.b4.kept y (G h.b4 h.ne.2),M.set_ 0 vN',h.map.kept y ?_,AK y h.sts (C (by decide) (by decide)),AK y h.acc (C (by decide) (by decide)),?_,?_,h.ne,h.ge⟩
 ·rintro b hb (e | e)
  ·have:=Bb h.nxt e; omega
  ·have:=h.ge; omega
 ·rintro(e | e)
  ·exact Di h.nxt h.map e
  ·exact BT h.b5 h.map e.symm
 ·rw [List.length_append]
  exact AK J ho (fun g cs e z=>by subst e; exact z.ne_ M (by decide) rfl)
 ·rw [List.map_append]
  refine Cl.snoc (h.nxtR.keep y (fun g cs _ e=>C (by decide) (by decide) g cs e) (fun _ _ x=>⟨trivial,x.2⟩) (Nat.le_refl _)) ?_ ?_
  ·have:=AK y hr (C (by decide) (by decide))
   have O:(Ak row).length=row.length:=by simp [Ak]
   rw [O]
   exact this
  ·intro g W
   refine⟨trivial,fun e=>hS ?_⟩
   have:gr=g:=by simpa [Value.ownBlock] using W
   rw [this]
   exact e
theorem QS.finO {wF:World} (h:QS w0 wr g2 g4 g5 gm c2 kst st t as' vS vN vA ws N) (hk:Ac wr wF (fun k=>k=g4∨k<w0.heap.size)):
  Do wF w0.heap.size (.agg #[vN,vA]) t as':=by
 have G:=h.ge
 have E:=hk.ownsRow h.nxt fun g y e=>by
  rcases e with e | e
  ·exact Aw h.nxt h.b4 (by decide) (by rw [y,e])
  ·have:=Bb h.nxt y; omega
 have C:=hk.ownsRow h.acc fun g y e=>by
  rcases e with e | e
  ·exact Aw h.acc h.b4 (by decide) (by rw [y,e])
  ·have:=Bb h.acc y; omega
 exact⟨vN,vA,ws,rfl,C,E,h.nxtR.imp fun v d z=>⟨hk.ownsRow z.1 fun g y e=>by
  rcases e with e | e
  ·exact Aw z.1 h.b4 (by decide) (by rw [y,e])
  ·have:=Bb z.1 y; omega,fun _ _=>trivial⟩⟩
end
end Go.Proofs.YtfcfpoemojjglaaGreatDoor
namespace Go.Proofs.YtfcfpoemojjglaaGreatDoor
open Go.RowKit
set_option maxHeartbeats 16000000
set_option maxRecDepth 100000
theorem UT (a:Bool) (c0 c1 c2:Nat) (f o c:Bool):UA ⟨a,c0,c1,c2,f,o,c⟩=.agg #[.bool a,.int .i64 (c0:Int),.int .i64 (c1:Int),.int .i64 (c2:Int),.bool f,.bool o,.bool c]:=rfl
theorem U1 {w:World} {base n:Nat} {v:Value} {l:List Sc3} (h:w.ownsRow base 133 7 v n (l.flatMap BE)) (E:l.length=n) {k:Nat} {a f o c:Bool} {c0 c1 c2:Nat} (hd:l[k]?=some ⟨a,c0,c1,c2,f,o,c⟩):
  ∃g cap,v=.slice (some ⟨g,0,none⟩) n cap∧base≤g∧g<w.heap.size∧(loadCellsFrom ⟨g,k*7,none⟩ 0 7 #[]).run Tryz.prog w=.ok #[.bool a,.int .i64 (c0:Int),.int .i64 (c1:Int),.int .i64 (c2:Int),.bool f,.bool o,.bool c] w:=by
 obtain⟨g,cap,e,z,G,C⟩:=VO h E hd
 refine⟨g,cap,e,z,G,?_⟩
 have:=run_loadCells_list (P:=Tryz.prog) w ⟨g,k*7,none⟩ (BE ⟨a,c0,c1,c2,f,o,c⟩) (fun j v y=>by
  rw [Addr.add_mid,C j (by have:=AP y; simpa [BE] using this)]
  exact y)
 simpa [loadCells,BE] using this
theorem Vc {S:Type} [DecidableEq S] (δ:S→Nat→S) (s:S) (l:List S):∀k,(AZ δ s l k).length≤l.length+k
 | 0=>Nat.le_refl _
 | k+1=>by
  rw [Cr]
  have:=Vc δ s l k
  unfold Bs
  split
  ·omega
  ·rw [List.length_append,List.length_singleton]; omega
theorem Wc (w:World):∃g8 g9 gs gm w1 w2 h z y C,g8=w1.heap.size∧g9=w2.heap.size∧gs=y.heap.size∧w.alloc (.cells #[.bool false,.int .i64 0,.int .i64 0,.int .i64 0,.bool false,.bool false,.bool false] 133)=w1∧w1.alloc (.cells #[sn0,sn0] 78)=w2∧w2.alloc (.cells #[sn0,sn0] 78)=h∧(Instr.makeMap 185 none).run Tryz.prog h=.ok (.map (some gm)) z∧
  (Instr.mapUpdate 185 (.map (some gm)) (.agg #[.bool false,.int .i64 0,.int .i64 0,.int .i64 0,.bool false,.bool false,.bool false]) (.int .i64 0)).run Tryz.prog z=.ok () y∧y.alloc (.cells #[.bool false,.int .i64 0,.int .i64 0,.int .i64 0,.bool false,.bool false,.bool false] 133)=C∧
  Blk z w.heap.size 133 #[.bool false,.int .i64 0,.int .i64 0,.int .i64 0,.bool false,.bool false,.bool false]∧Blk y w.heap.size 133 #[.bool false,.int .i64 0,.int .i64 0,.int .i64 0,.bool false,.bool false,.bool false]∧
  QS w C g8 g8 g9 gm #[sn0,sn0] [UD] [UD] [] [] (.slice (some ⟨gs,0,none⟩) 1 1) sn0 sn0 [] (fun _=>True):=by
 obtain⟨w1,h1,Z,M,ak⟩:=Ae w #[.bool false,.int .i64 0,.int .i64 0,.int .i64 0,.bool false,.bool false,.bool false] 133
 obtain⟨w2,h2,I,O,al⟩:=Ae w1 #[sn0,sn0] 78
 obtain⟨h,h3,E,V,am⟩:=Ae w2 #[sn0,sn0] 78
 obtain⟨gm,z,h4,ad,J,aj⟩:=F1 185 h
 obtain⟨y,h5,W,af,ao⟩:=EY U0 Tryz.underlying185 (l:=[]) ad UD (by simp)
 have a2:=Ac.of_grown af
 obtain⟨C,h6,U,ab,an⟩:=Ae y #[.bool false,.int .i64 0,.int .i64 0,.int .i64 0,.bool false,.bool false,.bool false] 133
 have s1:=Z.size
 have s2:=I.size
 have s3:=E.size
 have s4:=J.size
 have s6:=U.size
 have l1:=M.lt
 have l2:=O.lt
 have l3:=V.lt
 have a3:Below w.heap.size w h:=Z.trans ((I.trans (E.mono (by omega))).mono (by omega))
 have ag:Below h.heap.size z y:=a2.below s4 fun b hb e=>by have:=Option.some.inj e; omega
 have a4:Below h.heap.size z C:=ag.trans (U.mono (by omega))
 have G:Below h.heap.size h C:=J.trans a4
 have hO:C.ownsRow w.heap.size 133 7 (.slice (some ⟨y.heap.size,0,none⟩) 1 1) 1 ([UD].flatMap BE):=by
  refine⟨rfl,.inr ⟨_,1,_,rfl,by omega,ab,Nat.le_refl _,by unfold maxLen; omega,rfl,rfl⟩⟩
 exact⟨_,_,_,gm,w1,w2,h,z,y,C,rfl,rfl,rfl,h1,h2,h3,h4,h5,h6,((M.below I).below E).below J,(((M.below I).below E).below J).kept a2 (fun e=>by have:=Option.some.inj e; omega),
  ⟨a3.trans (G.mono (by omega)),(O.below E).below G,(O.below E).below G,V.below G,W.keep (U.block _ W.lt),hO,Cb,Cb,.nil,⟨by omega,by omega⟩,⟨by omega,by omega,by omega,by omega⟩⟩⟩
theorem Vb {w1:World} {gr x L:Nat} {S:Type} [DecidableEq S] {k z:List S} {f:Nat→S} (G:∀y,y<x→Ax z (f y)=Ax k (f y)) {u:Value} (I:u=.int .i64 (Ax z (f x):Int)) (E:Blk w1 gr 3 (Bi L fun y=>if y<x then Value.int .i64 (Ax k (f y):Int) else .int .i64 0)):
  Blk (w1.setCell ⟨gr,x,none⟩ u) gr 3 (Bi L fun y=>if y<x+1 then Value.int .i64 (Ax z (f y):Int) else .int .i64 0):=by
 have C:=E.set_ x u
 rw [F7] at C
 rw [D4 (g:=fun y=>if y=x then u else if y<x then Value.int .i64 (Ax k (f y):Int) else .int .i64 0) (fun y _=>by
  by_cases e:y=x
  ·subst e; rw [if_pos (by omega),if_pos rfl,I]
  ·by_cases h:y<x
   ·rw [if_pos (by omega),if_neg e,if_pos h,G y h]
   ·rw [if_neg (by omega),if_neg e,if_neg h])]
 exact C
structure XsI (w0 wr:World) (g8 g9 gm:Nat) (L:Nat) (δ:Sc3→Nat→Sc3) (f:Sc3→Bool) (i:Nat) (all:List Sc3) (vS vN vA:Value) (ws:List Value):Prop where
 mem:QS w0 wr g8 g8 g9 gm #[sn0,sn0] all all (AM L δ all i) ((all.take i).map f) vS vN vA ws (fun _=>True)
 exp:Exp L δ UD i all
structure XsJ (w0 wr:World) (g8 g9 gm:Nat) (L:Nat) (δ:Sc3→Nat→Sc3) (f:Sc3→Bool) (i:Nat) (q:Sc3) (gr x:Nat) (all all':List Sc3) (vS vN vA:Value) (ws:List Value):Prop where
 mem:QS w0 wr g8 g8 g9 gm #[sn0,sn0] all' all' (AM L δ all i) ((all.take i).map f) vS vN vA ws (fun g=>g≠gr)
 eq:all'=AZ δ q all x
 sep:vS.ownBlock≠some gr
 blk:Blk wr gr 3 (Bi L fun y=>if y<x then Value.int .i64 (Ax all' (δ q y):Int) else .int .i64 0)
section
variable {w0 wr:World} {g8 g9 gm L i gr x:Nat} {q:Sc3} {δ:Sc3→Nat→Sc3} {f:Sc3→Bool} {all all':List Sc3} {vS vN vA:Value} {ws:List Value}
theorem XsJ.below (h:XsJ w0 wr g8 g9 gm L δ f i q gr x all all' vS vN vA ws) {w1:World} (y:Below wr.heap.size wr w1):XsJ w0 w1 g8 g9 gm L δ f i q gr x all all' vS vN vA ws:=⟨h.mem.keep y,h.eq,h.sep,h.blk.below y⟩
theorem XsJ.old (h:XsJ w0 wr g8 g9 gm L δ f i q gr x all all' vS vN vA ws) (z:δ q x∈all') (y:w0.heap.size≤gr):
  XsJ w0 (wr.setCell ⟨gr,x,none⟩ (.int .i64 (Ax all' (δ q x):Int))) g8 g9 gm L δ f i q gr (x+1) all all' vS vN vA ws:=by
 have hk:=(Ac.refl wr (fun k=>k=gr)).setCell (p:=⟨gr,x,none⟩) (fun _=>rfl) (.int .i64 (Ax all' (δ q x):Int))
 refine⟨h.mem.other (fun _ h=>h) h.sep h.blk y hk,?_,h.sep,Vb (f:=δ q) (fun _ _=>rfl) rfl h.blk⟩
 rw [Cr,←h.eq,F0 z]
theorem XsJ.new (h:XsJ w0 wr g8 g9 gm L δ f i q gr x all all' vS vN vA ws) {s:Sc3} {vS':Value} {z w1:World} (J:δ q x=s) (G:s∉all') (U:w0.heap.size≤gr)
  (a3:Bw z gm ((all'++[s]).map UA)) (V:wr.grownBy z (some gm)) (W:z.heap.size=wr.heap.size)
  (Z:Ac z w1 (fun k=>vS.ownBlock=some k)) (a2:w1.ownsRow w0.heap.size 133 7 vS' (all'.length+1) (all'.flatMap BE++BE s)) (I:BJ z vS vS'):
  Blk w1 gr 3 (Bi L fun y=>if y<x then Value.int .i64 (Ax all' (δ q y):Int) else .int .i64 0)∧
  XsJ w0 (w1.setCell ⟨gr,x,none⟩ (.int .i64 (all'.length:Int))) g8 g9 gm L δ f i q gr (x+1) all (all'++[s]) vS' vN vA ws:=by
 obtain⟨hQ,O⟩:=h.mem.addS (kv:=s) (s:=s) a3 V W Z a2 I
 have E:=h.blk.kept O (by
  rintro(e | e)
  ·exact BT h.blk h.mem.map e.symm
  ·exact h.sep e)
 have M:vS'.ownBlock≠some gr:=fun e=>by
  rcases I with C | ⟨g',C,a6⟩
  ·exact h.sep (by rw [←C]; exact e)
  ·rw [e] at C
   have:=Option.some.inj C
   have:=h.blk.lt
   omega
 have hk:=(Ac.refl w1 (fun k=>k=gr)).setCell (p:=⟨gr,x,none⟩) (fun _=>rfl) (.int .i64 (all'.length:Int))
 refine⟨E,hQ.other (fun _ h=>h) M E U hk,?_,M,Vb (k:=all') (f:=δ q) (fun y hy=>?_) ?_ E⟩
 ·rw [Cr,←h.eq,J,FZ G]
 ·refine ET (List.prefix_append _ _) ?_
  rw [h.eq]
  exact Gb _ _ hy
 ·rw [J,ES G]
end
end Go.Proofs.YtfcfpoemojjglaaGreatDoor
namespace Go.Proofs.YtfcfpoemojjglaaGreatDoor
open Go.RowKit
open K (Am AB D9)
set_option maxHeartbeats 16000000
set_option maxRecDepth 100000
theorem U5 {α:Type} {f:α→Int} {l:List α}:K.Aj f l=0↔∀x∈l,f x=0:=by
 induction l with
 | nil=>simp [K.Aj]
 | cons a l ih=>
  unfold K.Aj
  simp only [List.mem_cons,forall_eq_or_imp]
  rw [AY,ih]
def Uw (q:AB):List (List Int×Nat):=q.bad.map fun c=>(c.states,c.least.toNat)
def Uy (q:AB):Option (Int×Int):=match q.adj with
 | [a,b]=>some (a,b)
 | _=>none
structure UJ (p:Am) (q:AB):Prop where
 L:1≤p.states.length∧p.states.length≤6
 b3:q.bad.length≤3
 le:∀c∈q.bad,1≤c.least∧c.least≤3
 adj:q.adj=[]∨∃a b,q.adj=[a,b]∧inN (p.states.length:Int) a=true∧inN (p.states.length:Int) b=true
 ne:q.adj=[]→q.bad≠[]
 tp:p.topo=2∨p.topo=3
theorem U7 {p:Am} {q:AB} (h:K.propE K.nameOK p q=0) (hk:q.kind=1) (ht:p.topo=2∨p.topo=3):UJ p q:=by
 have hi:=Qt h
 unfold K.propE at h
 obtain⟨-,U⟩:=AY.1 h
 obtain⟨-,V⟩:=AY.1 U
 obtain⟨-,W⟩:=AY.1 V
 obtain⟨-,Z⟩:=AY.1 W
 obtain⟨-,h6⟩:=AY.1 Z
 obtain⟨-,I⟩:=AY.1 h6
 rw [if_neg (by omega)] at I
 obtain⟨z,h8⟩:=AY.1 I
 obtain⟨G,h9⟩:=AY.1 h8
 obtain⟨k3,J⟩:=AY.1 h9
 have z:=(Gg (by decide)).1 z
 have G:=(Gg (by decide)).1 G
 unfold K.BA at J
 obtain⟨-,k5⟩:=AY.1 J
 obtain⟨y,k7⟩:=AY.1 k5
 have y:=(Gg (by decide)).1 y
 have a5:=U5.1 k7
 refine⟨hi.L,by simpa using G,fun c hc=>?_,?_,fun M O=>?_,ht⟩
 ·have:=U5.1 k3 c hc
  unfold K.AV at this
  obtain⟨-,g⟩:=AY.1 this
  have g:=(Gg (by decide)).1 g
  simp only [Bool.or_eq_false_iff,Bool.not_eq_false',Bool.and_eq_true,decide_eq_true_eq] at g
  exact g.2
 ·have E:∀x∈q.adj,inN (p.states.length:Int) x=true:=fun x hx=>by
   have:=(Gg (by decide)).1 (a5 x hx)
   simp only [Bool.not_eq_false'] at this
   unfold K.inE at this
   rw [D3]
   simp only [Bool.and_eq_true,decide_eq_true_eq] at this
   omega
  rcases C:q.adj with _ | ⟨a,_ | ⟨b,_ | ⟨c,l⟩⟩⟩
  ·exact .inl rfl
  ·rw [C] at y; simp at y
  ·rw [C] at E
   exact .inr ⟨a,b,rfl,E a (by simp),E b (by simp)⟩
  ·rw [C] at y; simp at y
 ·rw [M,O] at z
  cases z
theorem UU {p:Am} {q:AB} (h:UJ p q):∀d∈Uw q,d.2≤3:=by
 intro d hd
 obtain⟨c,y,rfl⟩:=List.mem_map.1 hd
 have:=h.le c y
 show c.least.toNat≤3
 omega
theorem UV (q:AB):(Uw q).length=q.bad.length:=by simp [Uw]
theorem U6 {q:AB} {i:Nat} {c:D9} (h:q.bad[i]?=some c):(Uw q)[i]?=some (c.states,c.least.toNat):=by simp [Uw,h]
theorem UM {bad:List (List Int×Nat)} {x i k c:Nat} (h:k≠i):scK bad x (i+1) k c=scK bad x i k c:=by
 unfold scK
 by_cases y:k<i
 ·rw [if_pos (by omega),if_pos y]
 ·rw [if_neg (by omega),if_neg y]
theorem UY (bad:List (List Int×Nat)) (x i c:Nat):scK bad x i i c=c:=if_neg (by omega)
theorem UX (bad:List (List Int×Nat)) (x i c:Nat):scK bad x (i+1) i c=scU bad x i c:=if_pos (by omega)
end Go.Proofs.YtfcfpoemojjglaaGreatDoor
namespace Go.Proofs.YtfcfpoemojjglaaGreatDoor
open K (Am AB)
theorem UI (p:List Nat) (x i:Nat):(Ak (p++[x]))[i]?=if i<p.length then (Ak p)[i]? else if i=p.length then some (x:Int) else none:=by
 unfold Ak
 rw [List.map_append]
 have z:(p.map fun x:Nat=>(x:Int)).length=p.length:=by simp
 by_cases h:i<p.length
 ·rw [if_pos h,List.getElem?_append_left (by rw [z]; exact h)]
 ·rw [if_neg h,List.getElem?_append_right (by rw [z]; omega),z]
  by_cases y:i=p.length
  ·rw [if_pos y,y,Nat.sub_self]; rfl
  ·rw [if_neg y]
   exact List.getElem?_eq_none (by simp; omega)
theorem Va {p:List Nat} {i:Nat} {y:Int} (h:(Ak p)[i]?=some y):i<p.length:=by
 have:=(List.getElem?_eq_some_iff.1 h).1
 simpa [Ak] using this
structure AdI (a b:Int) (p:List Nat) (s:AdS):Prop where
 ne:s.ne= !p.isEmpty
 la:s.la=true↔∃i,i+1=p.length∧(Ak p)[i]?=some a
 fo:s.fo=true↔∃i,(Ak p)[i]?=some a∧(Ak p)[i+1]?=some b
 he:s.he=true↔(Ak p)[0]?=some b
theorem AdI.step {a b:Int} {p:List Nat} {s:AdS} (h:AdI a b p s) (x:Nat):AdI a b (p++[x]) (adN a b s x):=by
 refine⟨by simp [adN],?_,?_,?_⟩
 ·show decide ((x:Int)=a)=true↔_
  rw [decide_eq_true_eq]
  constructor
  ·intro e
   exact⟨p.length,by simp,by rw [UI,if_neg (by omega),if_pos rfl,e]⟩
  ·rintro⟨i,M,I⟩
   have:i=p.length:=by simp at M; omega
   rw [this,UI,if_neg (by omega),if_pos rfl] at I
   exact Option.some.inj I
 ·show(s.fo||(s.la&&decide ((x:Int)=b)))=true↔_
  rw [Bool.or_eq_true,Bool.and_eq_true,decide_eq_true_eq,h.fo,h.la]
  constructor
  ·rintro(⟨i,C,z⟩ | ⟨⟨i,C,z⟩,E⟩)
   ·have:=Va z
    exact⟨i,by rw [UI,if_pos (by omega)]; exact C,by rw [UI,if_pos this]; exact z⟩
   ·exact⟨i,by rw [UI,if_pos (by omega)]; exact z,by rw [UI,if_neg (by omega),if_pos C,E]⟩
  ·rintro⟨i,C,z⟩
   have O:=Va z
   rw [List.length_append,List.length_singleton] at O
   by_cases E:i+1<p.length
   ·rw [UI,if_pos (by omega)] at C
    rw [UI,if_pos E] at z
    exact .inl ⟨i,C,z⟩
   ·have G:i+1=p.length:=by omega
    rw [UI,if_pos (by omega)] at C
    rw [UI,if_neg (by omega),if_pos G] at z
    exact .inr ⟨⟨i,G,C⟩,Option.some.inj z⟩
 ·show(s.he||(!s.ne&&decide ((x:Int)=b)))=true↔_
  rw [UI,h.ne]
  cases p with
  | nil=>
   have J:s.he=false:=by
    rw [←Bool.not_eq_true,h.he]
    simp [Ak]
   rw [J]
   simp
  | cons y p=>
   rw [if_pos (by simp)]
   simp only [List.isEmpty_cons,Bool.not_false,Bool.not_true,Bool.false_and,Bool.or_false]
   exact h.he
theorem Vk (a b:Int) (w:List Nat) {L:Nat} (z:okW L w):AdI a b w (Ay (adN a b) ad0 w):=by
 have:=U2 (L:=L) (δ:=adN a b) (I:=fun p s=>AdI a b p s) (fun p s x _ y=>y.step x) w [] ad0 z
  ⟨rfl,⟨fun h=>(by cases h),fun⟨i,h,_⟩=>(by simp at h)⟩,⟨fun h=>(by cases h),fun⟨i,h,_⟩=>(by simp [Ak] at h)⟩,⟨fun h=>(by cases h),fun h=>(by simp [Ak] at h)⟩⟩
 simpa using this
def UF (a b:Int) (ring:Bool) (l:List Int) (i:Nat):Prop:=l[i]?=some a∧(l[i+1]?=some b∨(ring=true∧i+1=l.length∧l[0]?=some b))
theorem Vl {a b:Int} {ring:Bool} {w:List Nat} {L:Nat} (I:okW L w):adW a b ring w=true↔∃i,UF a b ring (Ak w) i:=by
 have h:=Vk a b w I
 have G:(Ak w).length=w.length:=by simp [Ak]
 unfold adW AdS.is
 rw [Bool.or_eq_true,Bool.and_eq_true,Bool.and_eq_true,h.fo,h.la,h.he]
 constructor
 ·rintro(⟨i,z,y⟩ | ⟨⟨E,i,z,y⟩,C⟩)
  ·exact⟨i,z,.inl y⟩
  ·exact⟨i,y,.inr ⟨E,by rw [G]; exact z,C⟩⟩
 ·rintro⟨i,z,y | ⟨E,y,C⟩⟩
  ·exact .inl ⟨i,z,y⟩
  ·exact .inr ⟨⟨E,i,by rw [←G]; exact y,z⟩,C⟩
def cI (st l:List Int):Nat:=l.countP fun y=>decide (y∈st)
theorem U8 (st:List Int) (w:List Nat):cI st (Ak w)=UB st w:=by
 unfold cI Ak UB
 rw [List.countP_map]
 rfl
structure UN (q:AB) (ring:Bool) (l:List Int):Prop where
 cn:∀c∈q.bad,c.least≤(cI c.states l:Int)
 nb:∀a b,q.adj=[a,b]→∃i,UF a b ring l i
theorem Vm {p:Am} {q:AB} (E:UJ p q) {u:List Nat} {L:Nat} (O:okW L u) (M:u≠[]):UK (Uw q) (Uy q) (decide (p.topo=3)) u=true↔UN q (decide (p.topo=3)) (Ak u):=by
 have he:u.isEmpty=false:=by cases u; exact absurd rfl M; rfl
 unfold UK
 rw [he,Bool.and_eq_true,Bool.and_eq_true,List.all_eq_true]
 have I:(∀d∈Uw q,decide (d.2≤UB d.1 u)=true)↔∀c∈q.bad,c.least≤(cI c.states (Ak u):Int):=by
  constructor
  ·intro h c y
   have:=h (c.states,c.least.toNat) (List.mem_map.2 ⟨c,y,rfl⟩)
   have V:=E.le c y
   rw [U8]
   simp only [decide_eq_true_eq] at this
   omega
  ·intro h d hd
   obtain⟨c,y,rfl⟩:=List.mem_map.1 hd
   have:=h c y
   rw [U8] at this
   simp only [decide_eq_true_eq]
   omega
 have J:UZ (Uy q) (decide (p.topo=3)) u=true↔∀a b,q.adj=[a,b]→∃i,UF a b (decide (p.topo=3)) (Ak u) i:=by
  unfold Uy
  rcases E.adj with h | ⟨a,b,h,-,-⟩
  ·rw [h]
   exact⟨fun _ a b e=>(by cases e),fun _=>rfl⟩
  ·rw [h]
   show adW a b _ u=true↔_
   rw [Vl O]
   constructor
   ·intro C a' U e
    injection e with G z
    injection z with z _
    subst G z
    exact C
   ·intro C
    exact C a b rfl
 rw [I,J]
 exact⟨fun h=>⟨h.1.1,h.2⟩,fun h=>⟨⟨h.cn,rfl⟩,h.nb⟩⟩
end Go.Proofs.YtfcfpoemojjglaaGreatDoor
