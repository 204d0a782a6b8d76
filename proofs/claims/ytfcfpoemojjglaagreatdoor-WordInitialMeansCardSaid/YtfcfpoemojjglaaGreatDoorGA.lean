/-
  Part GA of a proof.
-/
import Derived.Test.YtfcfpoemojjglaaGreatDoorPA
import Derived.Test.YtfcfpoemojjglaaGreatDoorEA
set_option maxHeartbeats 16000000
set_option maxRecDepth 100000
set_option linter.unusedVariables false
set_option linter.unusedSimpArgs false
namespace Go.Proofs.YtfcfpoemojjglaaGreatDoor
open Go.RowKit
def WA.accV (a:WA) (l:List Int):Bool:=a.ok&&l.all (inN a.letters)
def WA.acc (a:WA) (l:List Int):Bool:=a.accV l&&a.lang (l.map Int.toNat)
def WA.accR (a:WA) (l:List Int):Value:=.tuple #[.bool (a.acc l),.int .i64 (De (a.accV l))]
theorem Rc (u:List Nat):(Ak u).map Int.toNat=u:=by
 unfold Ak
 rw [List.map_map]
 conv=>rhs; rw [←List.map_id u]
 exact List.map_congr_left fun x _=>Int.toNat_natCast x
theorem WA.letters_L {a:WA} (h:a.ok=true):a.letters=(a.L:Int):=by
 have:=(WA.ok_iff.1 h).1
 unfold WA.L
 omega
theorem IR {n:Int} {l:List Int} (h:l.all (inN n)=true):∃u:List Nat,l=Ak u∧okW n.toNat u:=LE fun x y=>List.all_eq_true.1 h x y
theorem Uk {n:Nat} {u:List Nat} (h:okW n u):(Ak u).all (inN (n:Int))=true:=by
 rw [List.all_eq_true]
 intro x z
 obtain⟨y,C,rfl⟩:=List.mem_map.1 z
 have:=h y C
 rw [D3]
 omega
theorem WA.acc_word {a:WA} (h:a.ok=true) {u:List Nat} (z:okW a.L u):a.accV (Ak u)=true∧a.acc (Ak u)=a.lang u:=by
 have y:a.accV (Ak u)=true:=by unfold WA.accV; rw [h,a.letters_L h,Uk z]; rfl
 refine⟨y,?_⟩
 unfold WA.acc
 rw [y,Rc]
 rfl
theorem WA.acc_cases {a:WA} (h:a.ok=true) (l:List Int):(a.accV l=false∧a.acc l=false)∨∃u,l=Ak u∧okW a.L u∧a.accV l=true∧a.acc l=a.lang u:=by
 rcases C:l.all (inN a.letters) with _ | _
 ·left
  have y:a.accV l=false:=by unfold WA.accV; rw [h,C]; rfl
  exact⟨y,by unfold WA.acc; rw [y]; rfl⟩
 ·right
  obtain⟨u,rfl,z⟩:=IR C
  obtain⟨y,E⟩:=WA.acc_word h (u:=u) z
  exact⟨u,rfl,z,y,E⟩
section
variable {a:WA} {t:List (List Nat)} {ac:List Bool}
theorem BH.again {L:Nat} {Λ:List Nat→Bool} (y:BH L t ac Λ) {E:List (List Nat)} {z:List Bool} (h:BH (AG L t ac).L E z (AG L t ac).lang):AG (AG L t ac).L E z=AG L t ac:=by
 rw [GF] at h
 obtain⟨rfl,rfl⟩:=h.unique y fun w C=>by rw [Kl y.ok C]; exact y.can.lang w C
 rw [GF]
end
end Go.Proofs.YtfcfpoemojjglaaGreatDoor
namespace Go.Proofs.YtfcfpoemojjglaaGreatDoor
open Go.RowKit
set_option maxHeartbeats 16000000
set_option maxRecDepth 100000
theorem SL {S:Type} (δ:S→Nat→S) (s:S) {u:List Nat} {k x:Nat} (h:u[k]?=some x):Ay δ s (u.take (k+1))=δ (Ay δ s (u.take k)) x:=by
 rw [B5 h,Fs]
theorem LN {v:Value} {a:WA} {w:World} {B c:Nat} {A:Option Addr} {l:List Int} (h:Bj w w.heap.size v a) (he:a.edges.length≤3000000) (bz:a.start.length≤4000000) (hl:Sl w B 1 Ai A l) (hB:B≤w.heap.size):
  Calls Tryz.prog 16 #[v,.slice A l.length c] w (Ret fun r w'=>r=a.accR l∧Below w.heap.size w w'):=by
 have aA:=hide h
 obtain⟨A1,c1,A2,c2,A3,c3,rfl,h1,h2,h3,h4⟩:=h
 obtain⟨w1,bN,V,a6,br⟩:=Ae w #[.int .i64 a.letters,.int .i64 a.states,.slice A1 a.start.length c1,.slice A2 a.accept.length c2,.slice A3 a.edges.length c3] 35
 have aL:=V.size
 have bq:=a6.cell
 have bo:=hide V
 have bf:=hide a6
 have aG:=hide hl
 have ba:=hide h1
 have hv:=Iv (aA.out.keep (w':=w1) (fun p z=>V.cell z) aL)
 have bu:=hl.1
 obtain⟨n,hn⟩:∃n,n=l.length:=⟨_,rfl⟩
 have aH:=hide hn
 rw [←hn] at bu ⊢
 clear h1 h2 h3 h4 br V a6 hl hn
 go_enter Tryz.func16,Tryz.ntmps16
 go_wp2_with fail
 refine Calls.ret hv ?_
 rintro r w2 ⟨rfl,aa⟩
 have E:=hide (bo.out.trans (aa.mono aL))
 have ar:=hide (bf.out.below aa)
 have bJ:=ar.out.cell
 clear hv aa bq
 rcases Z:a.ok with _ | _
 ·have G:Hid (a.accR l=.tuple #[.bool false,.int .i64 1]):=by show _=_; unfold WA.accR WA.acc WA.accV; rw [Z]; rfl
  rw [show De false=1 from rfl]
  go_wp2_with fail
  go_ret2
  exact⟨G.out.symm,E.out⟩
 ·obtain⟨⟨o1,o2,o3,o4⟩,af⟩:=WA.ok_iff.1 Z
  have ae:=FM (c:=c) a.letters (aG.out.keep (w':=w2) (fun p z=>E.out.cell (by omega)) (Nat.le_refl _))
  rw [←aH.out] at ae
  rw [show De true=0 from rfl]
  have aK:=hide Z
  go_wp2_with fail
  refine ae.mono ?_
  rintro e bS ⟨rfl,rfl⟩
  clear ae
  rcases a9:l.all (inN a.letters) with _ | _
  ·have G:Hid (a.accR l=.tuple #[.bool false,.int .i64 1]):=by show _=_; unfold WA.accR WA.acc WA.accV; rw [a9,aK.out]; rfl
   go_wp2_with fail
   go_ret2
   exact⟨G.out.symm,E.out⟩
  ·obtain⟨u,rfl,hu⟩:=IR a9
   have am:Hid (okW a.L u):=hu
   have G:Hid (a.accR (Ak u)=.tuple #[.bool (a.lang u),.int .i64 0]):=by
    obtain⟨e1,e2⟩:=WA.acc_word aK.out (u:=u) am.out
    show _=_
    unfold WA.accR
    rw [e1,e2]
    rfl
   have aJ:=HM (aA.out.keep (w':=w2) (fun p z=>E.out.cell z) E.out.size) af ⟨o3,by omega⟩ ⟨by omega,o2⟩ he
   have ag:=hide af
   clear a9 hu Z af
   go_wp2_with fail
   refine Calls.ret aJ ?_
   rintro vn w3 ⟨a8,ad⟩
   obtain⟨B1,d1,B2,d2,B3,d3,rfl,-,-,-,-⟩:=id a8
   obtain⟨w4,bO,W,au,bs⟩:=Ae w3 #[.int .i64 (a.nf.L:Int),.slice B1 a.nf.nx.length d1,.slice B2 a.nf.start.length d2,.slice B3 a.nf.acc.length d3] 88
   have bw:=ad.size
   have bx:=W.size
   have ab:=ad.trans (W.mono bw)
   have O:=hide (E.out.trans (ab.mono E.out.size))
   have bi:=hide (a8.keep (w':=w4) (fun p z=>W.cell z) bx)
   have bK:=(ar.out.below ab).cell
   have bg:=hide au
   have aq:=ba.out.keep (w':=w4) (fun p z=>O.out.cell z) O.out.size
   have ak:=GY (c:=c1) aq bz
   have bA:Hid (CL a.start=AJ a.nf.st):=NF.sort_start (WA.nf_ok ag.out)
   rw [bA.out] at ak
   clear aJ a8 ad W au bs aq ab
   go_wp2_with fail
   refine Calls.ret ak ?_
   rintro vs w5 ⟨aw,I⟩
   obtain⟨A5,d5,rfl,ay⟩:=B8 (l:=AJ a.nf.st) aw rfl (Nat.le_refl _) (by have:=Fw a.nf.st; rw [a.nf.st_len,a.nf_n] at this; unfold WA.n at this; omega)
   have U:=hide (O.out.trans (I.mono O.out.size))
   have bj:=hide (bi.out.keep (w':=w5) (fun p z=>I.cell z) I.size)
   have bh:=hide (bg.out.below I)
   have bk:=hide ay
   have aN:n=u.length:=by rw [aH.out]; simp [Ak]
   have aO:=hide aN
   have bt:=hide (aG.out.keep (w':=w5) (fun p z=>U.out.cell (by omega)) (Nat.le_refl _))
   clear ak aw ay I aN
   go_wp2_with fail
   go_loopw [8,28] (fun ss kk wr=>∃(k:Nat) (A6:Option Addr) (J:Nat),ss=.slice A6 (AJ (Ay a.nf.after a.nf.st (u.take k))).length J∧kk=.int .i64 (k:Int)∧k≤n∧Hid (Sl wr wr.heap.size 1 Ai A6 (AJ (Ay a.nf.after a.nf.st (u.take k))))∧Hid (Below w5.heap.size w5 wr)) (fun _ kk _=>n - (intOf kk).toNat)
   case atStart=>exact⟨0,A5,d5,rfl,rfl,Nat.zero_le _,bk,Below.refl _ _⟩
   case round=>
    obtain⟨k,A6,J,rfl,rfl,hk,hS,C⟩:=hrel
    have a7:=bh.out.below C.out
    have bL:=a7.cell
    have av:=hide (bj.out.keep (w':=wr) (fun p z=>C.out.cell z) C.out.size)
    have a2:Hid ((Ay a.nf.after a.nf.st (u.take k)).length=a.nf.n):=a.nf.run_len (L:=a.L) fun y hy=>am.out y (List.mem_of_mem_take hy)
    by_cases bv:k<n
    ·obtain⟨x,hx⟩:=An (l:=u) (i:=k) (by rw [←aO.out]; exact bv)
     have aQ:(Ak u)[k]?=some (x:Int):=AX hx
     obtain⟨b0,o0,rfl,bm,hc⟩:=EZ bt.out aQ
     have bM:=(C.out.cell (p:=⟨b0,o0+k,none⟩) (by have:=U.out.size; simp only; omega)).trans hc
     have an:=am.out x (List.mem_of_getElem? hx)
     have al:=Iq (c:=J) av.out (WA.nf_ok ag.out) a2.out hS.out (Nat.le_refl _) (x:=x) an (WA.cat_le he _ _ a2.out an)
     have aj:Hid (a.nf.after (Ay a.nf.after a.nf.st (u.take k)) x=Ay a.nf.after a.nf.st (u.take (k+1))):=(SL _ _ hx).symm
     rw [aj.out] at al
     clear hx aQ hc bm an a7
     go_wp2_with fail
     refine Calls.ret al ?_
     rintro vs w7 ⟨ax,aC⟩
     obtain⟨A7,d7,rfl,az⟩:=B8 (l:=AJ (Ay a.nf.after a.nf.st (u.take (k+1)))) ax rfl (Nat.le_refl _) (by
      have:=Fw (Ay a.nf.after a.nf.st (u.take (k+1)))
      rw [←aj.out,a.nf.after_len,a.nf_n] at this
      unfold WA.n at this
      rw [←aj.out]
      omega)
     have bl:=hide az
     have bp:=hide (C.out.trans (aC.mono C.out.size))
     clear al ax az aC
     go_wp2_with fail
     exact⟨⟨k+1,A7,d7,rfl,by go_num,by omega,bl,bp⟩,by simp [intOf]; omega⟩
    ·have M:=IM (c:=J) av.out (WA.nf_ok ag.out).acc hS.out (Nat.le_refl _) (Ik a2.out)
     rw [JD a2.out] at M
     have bB:Hid (u.take k=u):=List.take_of_length_le (by have:=aO.out; omega)
     rw [bB.out] at M ⊢
     have aB:=hide (U.out.trans (C.out.mono U.out.size))
     clear a7
     go_wp2_with fail
     refine Calls.ret M ?_
     rintro r w8 ⟨rfl,aD⟩
     have bn:=hide (aB.out.trans (aD.mono aB.out.size))
     clear M aD
     go_wp2_with fail
     go_ret2
     exact⟨G.out.symm,bn.out⟩
end Go.Proofs.YtfcfpoemojjglaaGreatDoor
