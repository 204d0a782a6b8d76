/-
  Part PH of a proof.
-/
import Derived.Shelf.LaysM
import Derived.Shelf.Sort.Plain
import Derived.Ground.NamesProg
import Derived.Ground.Names2Prog
import Derived.Shelf.Slices.Equal
import Derived.Shelf.Slices.Turned
import Derived.Shelf.Slices.Empties2
import Derived.Test.YtfcfpoemojjglaaGreatDoorProg
import Derived.Test.YtfcfpoemojjglaaGreatDoorPA
import Derived.Test.YtfcfpoemojjglaaGreatDoorPG
set_option maxHeartbeats 16000000
set_option maxRecDepth 100000
set_option linter.unusedVariables false
set_option linter.unusedSimpArgs false
namespace Go.Proofs
open Go.Shelf
def Tryz.lays108_ren:Go.Shelf.Ren:=⟨fun | 108=>124 | n=>n,fun | 28=>24 | 3=>3 | 0=>0 | 4=>4 | n=>n,fun | n=>n⟩
def Tryz.lays107_ren:Go.Shelf.Ren:=⟨fun | 107=>74 | 108=>124 | n=>n,fun | 28=>24 | 3=>3 | 4=>4 | 0=>0 | n=>n,fun | n=>n⟩
theorem Tryz.lays107:Go.Proofs.Lays.n107 Tryz.prog Tryz.lays107_ren:={
 mixed:=by kernel_rfl
 f107:=Tryz.func74.trans (congrArg some (by kernel_rfl))
 f108:=Tryz.func124.trans (congrArg some (by kernel_rfl))
 t0:=Tryz.underlying0
 a0:=Tryz.isAgg0
 z0:=Tryz.sizeOf0
 v0:=Tryz.zeroValue0
 t3:=Tryz.underlying3
 a3:=Tryz.isAgg3
 z3:=Tryz.sizeOf3
 v3:=Tryz.zeroValue3
 t4:=Tryz.underlying4
 a4:=Tryz.isAgg4
 z4:=Tryz.sizeOf4
 v4:=Tryz.zeroValue4
 t28:=Tryz.underlying24
 a28:=Tryz.isAgg24
 z28:=Tryz.sizeOf24
 v28:=Tryz.zeroValue24 }
open Go.Lib in
theorem Tryz.slices_Contains_int (b y n c:Nat) (h:List Int) (x:Int) (w:World) (E:n≤h.length) (z:n≤9223372036854775807) (C:∀j,j<h.length→w.cell? ⟨b,y+j,none⟩=some (.int .i64 (h.getD j 0))):
  Calls Tryz.prog 74 #[.slice (some ⟨b,y,none⟩) n c,.int .i64 x] w fun e w'=>e=.returned (.bool ((h.take n).contains x))∧w'=w:=Any.slices_Contains_int Tryz.lays107 b y n c h x w E z C
end Go.Proofs
namespace Go.Proofs.YtfcfpoemojjglaaGreatDoor
open Go.RowKit
set_option maxHeartbeats 16000000
set_option maxRecDepth 100000
section
variable {S:Type} [DecidableEq S]
def dd (l:List S):List S:=l.foldl Bs []
theorem Eo (l:List S) (a:S):dd (l++[a])=Bs (dd l) a:=by simp [dd,List.foldl_append]
theorem Q7 {l:List S} {a b:S}:a∈Bs l b↔a∈l∨a=b:=by
 unfold Bs
 split
 ·constructor
  ·exact .inl
  ·rintro(h | rfl)
   ·exact h
   ·assumption
 ·simp
theorem Ri {l:List S} (h:l.Nodup) (a:S):(Bs l a).Nodup:=by
 unfold Bs
 split
 ·exact h
 ·rename_i hn
  exact List.nodup_append.2 ⟨h,by simp,fun x C y z e=>hn (by rw [List.mem_singleton] at z; rw [←z,←e]; exact C)⟩
theorem Nh (p:List S→Prop) (h0:p []) (y:∀l a,p l→p (Bs l a)) (l:List S):p (dd l):=by
 have:∀(l k:List S),p k→p (l.foldl Bs k):=by
  intro l
  induction l with
  | nil=>exact fun _ h=>h
  | cons a l ih=>exact fun k h=>ih _ (y _ _ h)
 exact this l [] h0
theorem Rh (l:List S):(dd l).Nodup:=Nh List.Nodup List.nodup_nil (fun _ a h=>Ri h a) l
theorem EJ {l:List S} {a:S}:a∈dd l↔a∈l:=by
 have:∀(l k:List S),a∈l.foldl Bs k↔a∈k∨a∈l:=by
  intro l
  induction l with
  | nil=>simp
  | cons b l ih=>
   intro k
   rw [List.foldl_cons,ih,Q7,List.mem_cons,or_assoc]
 exact(this l []).trans (by simp)
theorem Kr {l:List S} {a:S} (h:a∈l):Ax l a<l.length:=List.idxOf_lt_length_of_mem h
theorem Kq {l:List S} {a:S} (h:a∈l):l[Ax l a]?=some a:=FS h
theorem Rz {l:List S} {a b:S} (y:a∈l) (z:b∈l) (h:Ax l a=Ax l b):a=b:=by
 have h1:=Kq y
 rw [h,Kq z] at h1
 exact(Option.some.inj h1).symm
theorem Ry {l:List S} (h:l.Nodup) {i:Nat} {a:S} (y:l[i]?=some a):Ax l a=i:=HO h y
def BD (l:List S):List Nat:=l.map (Ax (dd l))
theorem DN (l:List S):(BD l).length=l.length:=by simp [BD]
theorem I2 (l:List S) (a:S):BD (l++[a])=BD l++[Ax (Bs (dd l) a) a]:=by
 unfold BD
 rw [List.map_append,Eo]
 congr 1
 exact List.map_congr_left fun x h=>ET (F6 _ _) (EJ.2 h)
theorem I0 {l:List S} {i:Nat} {a:S} (h:l[i]?=some a):(BD l).getD i 0=Ax (dd l) a:=getD_some (AX h)
theorem IZ {l:List S} {i j:Nat} {a b:S} (y:l[i]?=some a) (z:l[j]?=some b):(BD l).getD i 0=(BD l).getD j 0↔a=b:=by
 rw [I0 y,I0 z]
 exact⟨Rz (EJ.2 (List.mem_of_getElem? y)) (EJ.2 (List.mem_of_getElem? z)),fun h=>by rw [h]⟩
theorem I1 {l:List S} {v:Nat}:v∈BD l↔v<(dd l).length:=by
 unfold BD
 rw [List.mem_map]
 constructor
 ·rintro⟨a,y,rfl⟩
  exact Kr (EJ.2 y)
 ·intro h
  obtain⟨a,y⟩:=An h
  exact⟨a,EJ.1 (List.mem_of_getElem? y),Ry (Rh l) y⟩
theorem BU.of_keys {L n r:Nat} {nx:Nat→Nat→Nat} {acc:Nat→Bool} {ks:List S} (E:ks.length=n) (h:∀i j x y,ks[i]?=some x→ks[j]?=some y→(x=y↔EqW L nx acc r i j)):BU L n nx acc r (BD ks) (dd ks).length:=by
 refine⟨by rw [DN,E],fun i j F G=>?_,fun v=>I1⟩
 obtain⟨x,z⟩:=An (l:=ks) (i:=i) (by omega)
 obtain⟨y,C⟩:=An (l:=ks) (i:=j) (by omega)
 rw [IZ z C]
 exact h i j x y z C
end
theorem Rp (L:Nat) (nx:Nat→Nat→Nat) (ac:List Bool):BU L ac.length nx (dac ac) 0 (BD ac) (dd ac).length:=by
 refine BU.of_keys rfl fun i j x y h z=>?_
 show x=y↔dac ac i=dac ac j
 unfold dac
 rw [getD_some h,getD_some z]
def Ep (L:Nat) (nx:Nat→Nat→Nat) (cl:List Nat) (q:Nat):List Nat:=cl.getD q 0::(List.range L).map fun x=>cl.getD (nx q x) 0
theorem Th {L n r cnt:Nat} {nx:Nat→Nat→Nat} {acc:Nat→Bool} {cl:List Nat} (I:∀q x,q<n→x<L→nx q x<n) (h:BU L n nx acc r cl cnt):BU L n nx acc (r+1) (BD ((List.range n).map (Ep L nx cl))) (dd ((List.range n).map (Ep L nx cl))).length:=by
 refine BU.of_keys (by simp) fun i j x y F G=>?_
 have C:i<n:=by simpa using AP F
 have E:j<n:=by simpa using AP G
 rw [AX (List.getElem?_range C)] at F
 rw [AX (List.getElem?_range E)] at G
 have ex:=Option.some.inj F
 have M:=Option.some.inj G
 subst ex M
 unfold Ep
 rw [List.cons.injEq,h.iff i j C E]
 show _↔EqW L nx acc r i j∧∀z,z<L→EqW L nx acc r (nx i z) (nx j z)
 refine and_congr_right fun _=>?_
 rw [List.map_inj_left]
 simp only [List.mem_range]
 exact forall_congr' fun z=>forall_congr' fun J=>h.iff _ _ (I i z C J) (I j z E J)
def CR (n:Nat):Value:=.int .i64 (n:Int)
def Bm (L:Nat) (row:List Nat):Array Value:=(row.map CR++List.replicate (L - row.length) (Value.int .i64 0)).toArray
theorem Fi {L:Nat} {row:List Nat} (h:row.length<L) (e:Nat):(Bm L row).setIfInBounds row.length (.int .i64 e)=Bm L (row++[e]):=by
 have y:List.replicate (L - row.length) (Value.int .i64 0)=.int .i64 0::List.replicate (L - (row.length+1)) (.int .i64 0):=by
  rw [←List.replicate_succ]; congr 1; omega
 unfold Bm
 rw [y]
 simp [CR]
theorem Fh {L:Nat} {row:List Nat} (h:row.length<L):(Bm L row)[row.length]?=some (.int .i64 0):=by
 unfold Bm
 simp
 rw [List.getElem?_append_right (by simp),List.getElem?_replicate]
 simp; omega
theorem Gw (L:Nat):Array.replicate L (Value.int .i64 0)=Bm L []:=by
 apply Array.ext'
 simp [Bm]
theorem PW {w:World} {base g L:Nat} {row:List Nat} (h:Blk w g 3 (Bm L row)) (E:row.length=L) (C:base≤g) (z:L≤4000000):w.ownsRow base 3 1 (.slice (some ⟨g,0,none⟩) L L) L ((Ak row).map (Value.int .i64)):=by
 have h1:=DD (n:=L) h C (by simp [Bm]; omega) z
 have y:(Bm L row).toList=(Ak row).map (Value.int .i64):=by simp [Bm,E,Ak,CR]
 rwa [y] at h1
theorem Jr {w:World} {g L:Nat} {row:List Nat} (h:Blk w g 3 (Bm L row)) (y:row.length=L) (C:L≤4000000):Sl w w.heap.size 1 Ai (some ⟨g,0,none⟩) (Ak row):=by
 have ho:=PW (base:=0) h y (Nat.zero_le _) C
 obtain⟨A,c,e,hS⟩:=B8 ho (by simp [Ak,y]) (Nat.le_refl _) (by omega)
 injection e with z E F
 subst z
 exact hS
theorem Ex {w:World} {B:Nat} {A:Option Addr} {l:List Nat} (h:Sl w B 1 Ai A (Ak l)) {i x:Nat} (C:l[i]?=some x):∃b y,A=some ⟨b,y,none⟩∧b<B∧w.cell? ⟨b,y+i,none⟩=some (.int .i64 (x:Int)):=by
 obtain⟨b,y,e,E,F⟩:=h.2 (by
  intro e
  have:=AP C
  have z:(Ak l).length=l.length:=by simp [Ak]
  rw [e] at z
  simp at z
  omega)
 have:=F i (x:Int) (AX C) 0 (by omega)
 exact⟨b,y,e,E,by simpa [Ai] using this⟩
theorem Fy {w:World} {B:Nat} {A:Option Addr} {l:List Bool} (h:Sl w B 1 DH A l) {i:Nat} {x:Bool} (z:l[i]?=some x):∃b y,A=some ⟨b,y,none⟩∧b<B∧w.cell? ⟨b,y+i,none⟩=some (.bool x):=by
 obtain⟨b,y,e,C,E⟩:=h.2 (by
  intro e
  have:=AP z
  rw [e] at this
  simp at this)
 have:=E i x z 0 (by omega)
 exact⟨b,y,e,C,by simpa [DH] using this⟩
theorem PY (s:Bool) (es:List MapEntry):∀(l:List Bool) (i:Nat),es.map (·.key)=l.map Value.bool→
  Instr.findNow .bool (.bool s) es i=some (if s∈l then some (i+l.idxOf s,((es[l.idxOf s]?).map (·.val)).getD .nilFunc) else none):=by
 induction es with
 | nil=>
  intro l i h
  have:l=[]:=by cases l <;> simp_all
  subst this
  simp [Instr.findNow]
 | cons e es ih=>
  intro l i h
  cases l with
  | nil=>simp at h
  | cons t l=>
   simp only [List.map_cons,List.cons.injEq] at h
   obtain⟨h1,C⟩:=h
   unfold Instr.findNow
   rw [h1]
   simp only [Instr.sameNow]
   by_cases y:s=t
   ·subst y
    simp
   ·have F:(s==t)=false:=by simpa using y
    rw [F]
    dsimp only
    rw [ih l (i+1) C]
    have E:(t::l).idxOf s=l.idxOf s+1:=by
     rw [List.idxOf_cons]
     have:(t==s)=false:=by simpa using fun e=>y e.symm
     rw [this]; rfl
    by_cases z:s∈l
    ·simp only [z,E,List.mem_cons,or_true,if_true,List.getElem?_cons_succ,Option.some.injEq,Prod.mk.injEq,and_true]; omega
    ·simp [z,y]
theorem Gy:El Tryz.prog 4 Value.bool where
 check:=fun y w s=>by
  rw [show(10000:Nat)=9999+1 from rfl]
  unfold Instr.checkKey
  simp [run_underlying Tryz.underlying4]
 find:=fun w s es l h=>by
  unfold Instr.findKey
  simp only [Sem.run_bind,run_underlying Tryz.underlying4,Result.andThen_ok]
  rw [PY s es l 0 h]
  simp
theorem KV {S:Type} [DecidableEq S] {P:Program} {K:TypeId} {enc:S→Value} (hk:El P K enc) {T E:TypeId} (G:P.underlying T=some (.map K E)) {w:World} {g:Nat} {l:List S}
  (h:Bw w g (l.map enc)) {s:S} (y:s∈l):
  (Instr.lookup T (.map (some g)) (enc s) false).run P w=.ok (.int .i64 (Ax l s:Int)) w:=by
 obtain⟨es,z,h1,C,F⟩:=h
 have J:(getObj g).run P w=.ok (.map es z) w:=by simp [getObj,Sem.run,h1]
 have I:=hk.find w s es.toList l C
 unfold Instr.lookup
 simp only [Sem.run_bind,run_underlying G,Result.andThen_ok,J,Sem.run_pure,hk.check,I]
 simp only [y,if_true]
 rw [JE F (by rw [List.length_map]; exact List.idxOf_lt_length_of_mem y)]
 rfl
theorem GS {P:Program} {T K E ty:TypeId} (C:P.underlying T=some (.map K E)) {w:World} {g:Nat} {ks:List Value} (h:Bw w g ks):
  (Builtin.len_ #[T] ty #[.map (some g)]).run P w=.ok (.int .i64 (ks.length:Int)) w:=by
 obtain⟨es,y,h1,z,I⟩:=h
 have F:(getObj g).run P w=.ok (.map es y) w:=by simp [getObj,Sem.run,h1]
 have G:es.size=ks.length:=by rw [←z]; simp
 simp [Builtin.len_,run_underlying C,F,goInt,G]
theorem I9 {S:Type} [DecidableEq S] {enc:S→Value} {w:World} {gm gr n k:Nat} {l:List S} {a:S} {d:List S} (hd:dd (l++[a])=d) (h:Bw w gm (d.map enc)) (y:Blk w gr 3 (Bm n (BD l))) (hk:l.length=k) (F:k<n):
  Bw (w.setCell ⟨gr,k,none⟩ (.int .i64 (Ax d a:Int))) gm ((dd (l++[a])).map enc)∧Blk (w.setCell ⟨gr,k,none⟩ (.int .i64 (Ax d a:Int))) gr 3 (Bm n (BD (l++[a])))∧Ac w (w.setCell ⟨gr,k,none⟩ (.int .i64 (Ax d a:Int))) (fun b=>b=gr):=by
 have z:=(Ac.refl w (fun b=>b=gr)).setCell (p:=⟨gr,k,none⟩) (fun _=>rfl) (.int .i64 (Ax d a:Int))
 refine⟨?_,?_,z⟩
 ·rw [hd]
  exact h.kept z fun e=>BT y h e.symm
 ·have h1:=y.set_ k (.int .i64 (Ax d a:Int))
  have C:(BD l).length=k:=by rw [DN,hk]
  have E:Ax (Bs (dd l) a) a=Ax d a:=by rw [←hd,Eo]
  rw [I2,E,←Fi (by omega),C]
  exact h1
theorem Ro {w:World} {v:Value} {t:List (List Nat)} {ac:List Bool} (h:Br w w.heap.size v t ac) (hl:ac.length≤250000):
  Calls Tryz.prog 165 #[v] w (Ret fun r w'=>Below w.heap.size w w'∧∃A c,r=.tuple #[.slice A ac.length c,.int .i64 ((dd ac).length:Int)]∧Sl w' w'.heap.size 1 Ai A (Ak (BD ac))):=by
 obtain⟨A1,c1,A2,c2,rfl,h1,h2⟩:=h
 obtain⟨w1,aN,a4,ah,aF⟩:=Ae w #[.slice A1 t.length c1,.slice A2 ac.length c2] 78
 obtain⟨gr,w2,aJ,a5,W,aE⟩:=Et w1 ac.length (by omega)
 obtain⟨gm,w3,aZ,ao,Z,aD⟩:=F1 264 w2
 rw [Gw] at a5
 have aA:=ah.cell
 have aB:=((ah.below W).below Z).cell
 have aK:=a4.size
 have b1:=W.size
 have ay:Below w.heap.size w w3:=a4.trans ((W.mono aK).trans (Z.mono (by omega)))
 have ax:=hide (show Bw w3 gm ((dd (ac.take 0)).map Value.bool) from ao)
 have ak:=hide (show Blk w3 gr 3 (Bm ac.length (BD (ac.take 0))) from a5.below Z)
 obtain⟨n,hn⟩:∃n,n=ac.length:=⟨_,rfl⟩
 have ap:=hide hn
 have b0:n≤250000:=by omega
 have aw:=hide h2
 rw [←hn] at aJ aA aB aN ak ⊢
 have aV:w.heap.size≤gr:=by omega
 have aU:w.heap.size≤gm:=by omega
 clear ao a5 aF h1 h2 hn aE aD a4 W Z
 go_enter Tryz.func165,Tryz.ntmps165
 go_wp2_with fail
 go_loopw [18] (fun ii wr=>∃k:Nat,ii=.int .i64 (k:Int)∧k≤n∧Below w.heap.size w wr∧Hid (Bw wr gm ((dd (ac.take k)).map Value.bool))∧Hid (Blk wr gr 3 (Bm n (BD (ac.take k))))) (fun ii _=>n - (intOf ii).toNat)
 case atStart=>exact⟨0,rfl,Nat.zero_le _,ay,ax,ak⟩
 case round=>
  obtain⟨k,rfl,hk,I,hM,hR⟩:=hrel
  by_cases a8:k<n
  ·have U:=ap.out
   obtain⟨b,E⟩:=An (l:=ac) (i:=k) (by omega)
   obtain⟨blk,aO,rfl,az,a6⟩:=Fy aw.out E
   have aQ:wr.cell? ⟨blk,aO+k,none⟩=some (.bool b):=(I.cell az).trans a6
   have aq:=hide (B5 E)
   have J:(ac.take k).length=k:=by rw [List.length_take]; omega
   have an:((dd (ac.take k)).map Value.bool).length=(dd (ac.take k)).length:=by simp
   have z:=hM.out
   have y:=hR.out
   have am:=Ft Gy Tryz.underlying264 Fa z b
   have aC:wr.cell? ⟨gr,k,none⟩=some (.int .i64 0):=by
    rw [y.cell]
    have:=Fh (L:=n) (row:=BD (ac.take k)) (by rw [DN,J]; exact a8)
    rwa [DN,J] at this
   have aS:=y.frozen k
   have aX:=y.lt
   by_cases C:b∈dd (ac.take k)
   ·have M:dd (ac.take k++[b])=dd (ac.take k):=by rw [Eo]; exact F0 C
    have aH:=KV Gy Tryz.underlying264 z C
    simp only [C,if_true,decide_true] at am
    obtain⟨F,G,O⟩:=I9 M z y J a8
    rw [←aq.out] at F G
    have a9:=hide F
    have ad:=hide G
    have a2:=I.trans (O.below I.size fun b E e=>by omega)
    clear F G C z y M E a6 U J an O
    go_wp2_with fail
    exact⟨⟨k+1,by go_num,by omega,a2,a9,ad⟩,by simp [intOf]; omega⟩
   ·have M:dd (ac.take k++[b])=dd (ac.take k)++[b]:=by rw [Eo]; exact FZ C
    simp only [C,if_false,decide_false] at am
    obtain⟨w4,b2,aa,al,aL⟩:=EY Gy Tryz.underlying264 z b C
    have aG:∀ty,(Builtin.len_ #[264] ty #[.map (some gm)]).run Tryz.prog wr=.ok (.int .i64 ((dd (ac.take k)).length:Int)) wr:=fun ty=>by
     have:=GS (ty:=ty) Tryz.underlying264 z
     simpa using this
    have a7:=Ac.of_grown al
    have V:=y.kept a7 (fun e=>BT y z (Option.some.inj e).symm)
    have aH:=KV Gy Tryz.underlying264 aa (s:=b) (by simp)
    have aR:w4.cell? ⟨gr,k,none⟩=some (.int .i64 0):=by rw [V.cell,←y.cell,aC]
    have aT:=V.frozen k
    have aY:=V.lt
    obtain⟨F,G,O⟩:=I9 M aa V J a8
    rw [←aq.out] at F G
    have a9:=hide F
    have ad:=hide G
    have ai:=I.trans (a7.below I.size fun b E e=>by have:=Option.some.inj e; omega)
    have a2:=ai.trans (O.below ai.size fun b E e=>by omega)
    clear F G C z y M E a6 U J an aa al aL a7 V O
    go_wp2_with fail
    exact⟨⟨k+1,by go_num,by omega,a2,a9,ad⟩,by simp [intOf]; omega⟩
  ·obtain rfl:k=n:=by omega
   have z:=hM.out
   have y:=hR.out
   have aG:∀ty,(Builtin.len_ #[264] ty #[.map (some gm)]).run Tryz.prog wr=.ok (.int .i64 ((dd (ac.take k)).length:Int)) wr:=fun ty=>by
    have:=GS (ty:=ty) Tryz.underlying264 z
    simpa using this
   clear z y
   go_wp2_with fail
   go_ret2
   have U:=ap.out
   have aM:ac.take k=ac:=by rw [U,List.take_length]
   have y:=hR.out
   rw [aM] at y ⊢
   exact⟨I,_,_,rfl,Jr y (by rw [DN,U]) (by omega)⟩
end Go.Proofs.YtfcfpoemojjglaaGreatDoor
namespace Go.Proofs.YtfcfpoemojjglaaGreatDoor
open Go.RowKit
set_option maxHeartbeats 16000000
set_option maxRecDepth 100000
theorem Ja {S:Type} [DecidableEq S] {enc:S→Value} {w:World} {gm gr n k:Nat} {l:List S} {a:S} {d:List S} {u:Value} (hd:dd (l++[a])=d) (h:Bw w gm (d.map enc)) (y:Blk w gr 3 ((Bm n (BD l)).setIfInBounds k u)) (hk:l.length=k) (F:k<n):
  Bw (w.setCell ⟨gr,k,none⟩ (.int .i64 (Ax d a:Int))) gm ((dd (l++[a])).map enc)∧Blk (w.setCell ⟨gr,k,none⟩ (.int .i64 (Ax d a:Int))) gr 3 (Bm n (BD (l++[a])))∧Ac w (w.setCell ⟨gr,k,none⟩ (.int .i64 (Ax d a:Int))) (fun b=>b=gr):=by
 have z:=(Ac.refl w (fun b=>b=gr)).setCell (p:=⟨gr,k,none⟩) (fun _=>rfl) (.int .i64 (Ax d a:Int))
 refine⟨?_,?_,z⟩
 ·rw [hd]
  exact h.kept z fun e=>BT y h e.symm
 ·have h1:=y.set_ k (.int .i64 (Ax d a:Int))
  have C:(BD l).length=k:=by rw [DN,hk]
  have E:Ax (Bs (dd l) a) a=Ax d a:=by rw [←hd,Eo]
  rw [Array.setIfInBounds_setIfInBounds] at h1
  rw [I2,E,←Fi (by omega),C]
  exact h1
theorem Gt {w:World} {B:Nat} {A:Option Addr} {L:Nat} {t:List (List Nat)} {ac:List Bool} (h:VSl R1n w B A t) (G:DOK L t ac) {q:Nat} (Z:q<ac.length):
  ∃b C E O row,A=some ⟨b,C,none⟩∧b<B∧w.cell? ⟨b,C+q,none⟩=some (.slice E L O)∧t[q]?=some row∧row.length=L∧Sl w B 1 Ai E (Ak row)∧(∀x y,row[x]?=some y→y<ac.length∧dnx t q x=y):=by
 obtain⟨row,z⟩:=An (l:=t) (i:=q) (by rw [G.len]; exact Z)
 obtain⟨F,hy⟩:=G.row row (List.mem_of_getElem? z)
 obtain⟨b,C,e,V,W⟩:=h.2 (by intro e; subst e; simp at z)
 obtain⟨v,I,M,c',rfl,hS⟩:=W q row z
 have U:(Ak row).length=L:=by simp [Ak,F]
 rw [U] at I
 refine⟨b,C,M,c',row,e,V,I,z,F,hS,fun x y J=>⟨hy y (List.mem_of_getElem? J),?_⟩⟩
 unfold dnx
 rw [getD_some z,getD_some J]
theorem Im {w:World} {B b y:Nat} {l:List Nat} (h:Sl w B 1 Ai (some ⟨b,y,none⟩) (Ak l)) {i x:Nat} (E:l[i]?=some x):b<B∧w.cell? ⟨b,y+i,none⟩=some (.int .i64 (x:Int)):=by
 obtain⟨F,G,e,z,C⟩:=Ex h E
 cases e
 exact⟨z,C⟩
theorem Rq {w:World} {base n:Nat} {v:Value} {l:List Nat} (h:w.ownsRow base 3 1 v n ((Ak l).map (Value.int .i64))) (F:l.length=n) (h0:0<n) (M:n≤4000000):
  ∃g c,v=.slice (some ⟨g,0,none⟩) n c∧Sl w w.heap.size 1 Ai (some ⟨g,0,none⟩) (Ak l)∧∀j,j<(Ak l).length→w.cell? ⟨g,0+j,none⟩=some (.int .i64 ((Ak l).getD j 0)):=by
 obtain⟨x,G⟩:=An (l:=l) (i:=0) (by omega)
 obtain⟨g,c,rfl,-⟩:=C7 h (AX (f:=Value.int .i64) (AX (f:=fun x:Nat=>(x:Int)) G))
 obtain⟨A,c',e,hS⟩:=B8 h (by simp [Ak,F]) (Nat.le_refl _) (by omega)
 injection e with C E I
 subst C
 refine⟨g,c,rfl,hS,fun j J=>?_⟩
 have E:(Ak l).length=l.length:=by simp [Ak]
 obtain⟨y,z⟩:=An (l:=l) (i:=j) (by omega)
 rw [(Im hS z).2,show(Ak l).getD j 0=(y:Int) from getD_some (AX (f:=fun x:Nat=>(x:Int)) z)]
def Df (cl row:List Nat) (q j:Nat):List Nat:=cl.getD q 0::(row.take j).map fun y=>cl.getD y 0
theorem QF {L:Nat} {t:List (List Nat)} {cl row:List Nat} {q:Nat} (E:row.length=L) (C:∀x y,row[x]?=some y→dnx t q x=y):Df cl row q L=Ep L (dnx t) cl q:=by
 unfold Df Ep
 congr 1
 apply List.ext_getElem?
 intro i
 rw [List.getElem?_map,List.getElem?_map,List.getElem?_take]
 by_cases h:i<L
 ·obtain⟨y,z⟩:=An (l:=row) (i:=i) (by omega)
  rw [if_pos h,z,List.getElem?_range h]
  simp only [Option.map_some]
  rw [C i y z]
 ·rw [if_neg h,List.getElem?_eq_none (by simp; omega)]
  rfl
theorem QG {cl row:List Nat} {q j:Nat} (h:j≤row.length):(Df cl row q j).length=j+1:=by
 simp [Df]; omega
theorem QH {cl row:List Nat} {q j y:Nat} (h:row[j]?=some y):Df cl row q (j+1)=Df cl row q j++[cl.getD y 0]:=by
 unfold Df
 rw [B5 h]
 simp
theorem EM (l:List Nat) (x:Nat):Ak (l++[x])=Ak l++[(x:Int)]:=by simp [Ak]
theorem Tf {w:World} {v:Value} {L c B:Nat} {A:Option Addr} {t:List (List Nat)} {ac:List Bool} {cl:List Nat} (h:Br w w.heap.size v t ac) (aT:DOK L t ac) (bm:Sl w B 1 Ai A (Ak cl)) (hB:B≤w.heap.size) (d5:cl.length=ac.length) (hv:∀x∈cl,x<250000) (hL:L≤8) (hn:ac.length≤250000) (hT:BV w):
  Calls Tryz.prog 166 #[v,.slice A ac.length c] w (Ret fun r w'=>Below w.heap.size w w'∧∃A' c',r=.tuple #[.slice A' ac.length c',.int .i64 ((dd ((List.range ac.length).map (Ep L (dnx t) cl))).length:Int)]∧Sl w' w'.heap.size 1 Ai A' (Ak (BD ((List.range ac.length).map (Ep L (dnx t) cl))))):=by
 obtain⟨A1,c1,A2,c2,rfl,h1,h2⟩:=h
 obtain⟨w1,bK,aJ,ay,cf⟩:=Ae w #[.slice A1 t.length c1,.slice A2 ac.length c2] 78
 obtain⟨gm,w2,d9,aR,am,cc⟩:=F1 221 w1
 obtain⟨gr,w3,cm,aK,an,cd⟩:=Et w2 ac.length (by omega)
 rw [Gw] at aK
 have cv:=aJ.size
 have dc:=am.size
 have c5:Below w.heap.size w w3:=aJ.trans ((am.mono cv).trans (an.mono (by omega)))
 obtain⟨ks,ar⟩:∃ks,ks=(List.range ac.length).map (Ep L (dnx t) cl):=⟨_,rfl⟩
 rw [←ar]
 have bv:ks.length=ac.length:=by rw [ar]; simp
 have bX:=hide (show Bw w3 gm ((dd (ks.take 0)).map Dq) from aR.keep (an.block _ aR.lt))
 have bg:=hide (show Blk w3 gr 3 (Bm ac.length (BD (ks.take 0))) from aK)
 have aB:=hide ((ay.below am).below an)
 have bH:=aT.len
 rw [bH] at bK aB ⊢
 obtain⟨n,aS⟩:∃n,n=ac.length:=⟨_,rfl⟩
 have au:=hide aS
 have db:n≤250000:=by omega
 have bV:=hide h1
 have cp:=hide aT
 have bo:=hide bm
 have cj:=hide ar
 have aP:=hide bv
 have c4:=hide hT
 have d1:=ay.lt
 rw [←aS] at cm bK bg aB ⊢
 have d3:w.heap.size<gr:=by omega
 have d2:w.heap.size≤gm:=by omega
 clear aR aK cf h1 h2 aS cd cc aJ am an aT bm ar hT bH ay hn bv
 go_enter Tryz.func166,Tryz.ntmps166
 go_wp2_with fail
 go_loopw [21] (fun ii wr=>∃k:Nat,ii=.int .i64 (k:Int)∧k≤n∧Below w.heap.size w wr∧Hid (Blk wr w.heap.size 78 #[.slice A1 n c1,.slice A2 n c2])∧Hid (Bw wr gm ((dd (ks.take k)).map Dq))∧Hid (Blk wr gr 3 (Bm n (BD (ks.take k))))) (fun ii _=>n - (intOf ii).toNat)
 case atStart=>exact⟨0,rfl,Nat.zero_le _,c5,aB,bX,bg⟩
 case round=>
  obtain⟨k,rfl,hk,aA,hD,hM,hR⟩:=hrel
  by_cases aO:k<n
  ·have a3:=au.out
   obtain⟨x,G⟩:=An (l:=cl) (i:=k) (by omega)
   obtain⟨bc,oc,rfl,cM,bk⟩:=Ex bo.out G
   have ae:(ks.take k).length=k:=by rw [List.length_take,aP.out]; omega
   have aF:=hD.out
   have a7:=hM.out
   have J:=hR.out
   have cT:wr.cell? ⟨gr,k,none⟩=some (.int .i64 0):=by
    rw [J.cell]
    have:=Fh (L:=n) (row:=BD (ks.take k)) (by rw [DN,ae]; exact aO)
    rwa [DN,ae] at this
   have cX:=J.frozen k
   have d6:=J.lt
   obtain⟨C,bL⟩:∃C,wr.setCell ⟨gr,k,none⟩ (.int .i64 (-1))=C:=⟨_,rfl⟩
   have ao:Ac wr C (fun b=>b=gr):=by rw [←bL]; exact(Ac.refl wr (fun b=>b=gr)).setCell (p:=⟨gr,k,none⟩) (fun _=>rfl) _
   have bh:Blk C gr 3 ((Bm n (BD (ks.take k))).setIfInBounds k (.int .i64 (-1))):=by rw [←bL]; exact J.set_ k _
   have bb:=a7.kept ao fun e=>BT J a7 e.symm
   have ai:=aF.kept ao (aF.ne_ J (by decide))
   have a6:=aA.trans (ao.below aA.size fun b hb e=>by omega)
   obtain⟨bn,on,Ar,cr,row,rfl,c8,bp,cu,bB,bA,bC⟩:=Gt bV.out cp.out (q:=k) (by omega)
   have cR:C.cell? ⟨bc,oc+k,none⟩=some (.int .i64 (x:Int)):=(a6.cell (by show bc<_; omega)).trans bk
   have cO:=ai.cell
   obtain⟨w5,df,ab,b7,cg⟩:=Ae C #[.int .i64 (x:Int)] 3
   have b8:=a6.trans (ab.mono a6.size)
   have cS:w5.cell? ⟨bn,on+k,none⟩=some (.slice Ar L cr):=(b8.cell c8).trans bp
   have cQ:=(ai.below ab).cell
   have bE:=a6.size
   have de:=ab.size
   have dg:=hv x (List.mem_of_getElem? G)
   have c3:=hide bh
   have bd:=hide bb
   have aC:=hide ai
   have b6:=hide a6
   have dh:=hide G
   have ct:=hide bA
   have bD:=hide bC
   have aV:=hide bB
   have bZ:=hide (show w5.ownsRow C.heap.size 3 1 (.slice (some ⟨C.heap.size,0,none⟩) (0+1) 1) (0+1) ((Ak (Df cl row k 0)).map (Value.int .i64)) from by
    have:=DD (base:=C.heap.size) (n:=1) b7 (Nat.le_refl _) rfl (by omega)
    have e:Ak (Df cl row k 0)=[(x:Int)]:=by simp [Df,Ak,G]
    rw [e]
    exact this)
   have c6:=hide ab
   clear bh bb ai G bA bC a7 J aF bk bp cu ao a3 b7 cg bB b8 ab a6
   have co:¬n≤k:=by omega
   have cz:¬(x:Int)<0:=by omega
   go_wp2_with fail
   clear co cz
   go_loopw [9,50] (fun vv ii wz=>∃(j W g:Nat),vv=.slice (some ⟨g,0,none⟩) (j+1) W∧ii=.int .i64 (j:Int)∧j≤L∧Below C.heap.size C wz∧Hid (wz.ownsRow C.heap.size 3 1 (.slice (some ⟨g,0,none⟩) (j+1) W) (j+1) ((Ak (Df cl row k j)).map (Value.int .i64)))) (fun _ ii _=>L - (intOf ii).toNat)
   case atStart=>exact⟨0,1,C.heap.size,rfl,rfl,Nat.zero_le _,c6.out,bZ⟩
   case round=>
    obtain⟨j,W,g,rfl,rfl,hj,F,hO⟩:=hrel
    by_cases ce:j<L
    ·obtain⟨y,hy⟩:=An (l:=row) (i:=j) (by rw [aV.out]; exact ce)
     obtain⟨br,cD,rfl,c9,bq⟩:=Ex ct.out hy
     have cA:=(bD.out j y hy).1
     obtain⟨z,hz⟩:=An (l:=cl) (i:=y) (by omega)
     obtain⟨c7,bs⟩:=Im bo.out hz
     have Z:=b6.out.trans (F.mono bE)
     have cV:wr.cell? ⟨br,cD+j,none⟩=some (.int .i64 (y:Int)):=(Z.cell c9).trans bq
     have cW:wr.cell? ⟨bc,oc+y,none⟩=some (.int .i64 (z:Int)):=(Z.cell (by show bc<_; omega)).trans bs
     have di:y<n:=by rw [au.out]; exact cA
     have ci:=hide (QH (cl:=cl) (q:=k) hy)
     have cB:=hide (getD_some (d:=0) hz)
     have aW:=F.size
     have be:=hO
     clear hy hz bq bs hO c7 Z
     go_wp2_with (at_builtin; refine BP C9 rfl _ _ rfl C.heap.size (.slice (some ⟨g,0,none⟩) (j+1) W) (j+1) _ rfl be.out [.int .i64 (z:Int)] 1 rfl rfl (by simp [Value.oneCell']) (by omega) aW ?_; intro g' b3 w6 cq ch da d0)
     have bY:w6.ownsRow C.heap.size 3 1 (.slice (some ⟨g',0,none⟩) (j+1+1) b3) (j+1+1) ((Ak (Df cl row k (j+1))).map (Value.int .i64)):=by
      rw [ci.out,EM,List.map_append,cB.out]
      exact cq
     exact⟨⟨j+1,b3,g',rfl,by go_num,by omega,F.trans (ch.below aW fun b hb e=>by have:=Bb be.out e; omega),hide bY⟩,by simp [intOf]; omega⟩
    ·obtain rfl:j=L:=by omega
     have aM:=QF (t:=t) (cl:=cl) (q:=k) aV.out fun x y hh=>(bD.out x y hh).2
     have aq:(Df cl row k j).length=j+1:=QG (by rw [aV.out]; exact Nat.le_refl _)
     obtain⟨E,aN⟩:∃E,E=Df cl row k j:=⟨_,rfl⟩
     have aG:=hO.out
     rw [←aN] at aM aq aG
     obtain⟨g0,c0,e0,bi,bl⟩:=Rq aG aq (by omega) (by omega)
     injection e0 with e1 _ e3
     injection e1 with e1
     injection e1 with e1
     subst e1 e3
     have a3:(Ak E).length=j+1:=by simp [Ak,aq]
     have Z:=b6.out.trans (F.mono bE)
     have ca:Calls Tryz.prog 74 #[.slice (some ⟨g,0,none⟩) (j+1) W,.int .i64 (-1)] wr fun e w'=>e=.returned (.bool false)∧w'=wr:=by
      have h1:=Tryz.slices_Contains_int g 0 (j+1) W (Ak E) (-1) wr (by omega) (by omega) bl
      have h2:((Ak E).take (j+1)).contains (-1)=false:=by
       rw [Bool.eq_false_iff]
       intro hh
       have:=List.mem_of_mem_take (List.contains_iff_mem.1 hh)
       obtain⟨q,_,hq⟩:=List.mem_map.1 this
       omega
      rw [h2] at h1
      exact h1
     have bw:∀x∈E,x<1000000000:=by
      intro x G
      rw [aN] at G
      have hz:∀q,cl.getD q 0<250000:=fun q=>by
       rcases Nat.lt_or_ge q cl.length with hq | hq
       ·obtain⟨v,bJ⟩:=An hq
        rw [getD_some bJ]
        exact hv v (List.mem_of_getElem? bJ)
       ·rw [List.getD_eq_getElem?_getD,List.getElem?_eq_none hq]; simp
      unfold Df at G
      rcases List.mem_cons.1 G with rfl | G
      ·have:=hz k; omega
      ·obtain⟨q,_,rfl⟩:=List.mem_map.1 G
       have:=hz q; omega
     have bu:=JN (c:=W) bi (Nat.le_refl _) bw (by omega) (c4.out.below Z)
     rw [a3] at bu
     have bF:ks.take (k+1)=ks.take k++[E]:=by
      refine B5 ?_
      rw [cj.out,aM]
      exact AX (List.getElem?_range (by have:=au.out; omega))
     have bG:=hide bF
     have aj:=bd.out.keep (F.block _ bd.out.lt)
     have aH:=c3.out.below F
     have b5:=hide Z
     have aW:=F.size
     clear aM aq aG bi bl a3 Z bw bF hO aN
     go_wp2_with fail
     refine ca.mono ?_
     rintro e w' ⟨rfl,rfl⟩
     go_wp2_with fail
     refine Calls.ret bu ?_
     rintro v w7 ⟨rfl,U⟩
     have O:=aj.keep (U.block _ aj.lt)
     have I:=aH.below U
     have bx:=Ft FV Tryz.underlying221 Fa O E
     have cb:w7.cell? ⟨gr,k,none⟩=some (.int .i64 (-1)):=by
      rw [I.cell,Array.getElem?_setIfInBounds]
      rw [if_pos rfl,if_pos (by simp [Bm,DN,ae]; omega)]
     have cY:=I.frozen k
     have d7:=I.lt
     have ag:=b5.out.trans (U.mono b5.out.size)
     by_cases M:E∈dd (ks.take k)
     ·have ad:dd (ks.take k++[E])=dd (ks.take k):=by rw [Eo]; exact F0 M
      obtain⟨a2,a4,V⟩:=Ja ad O I ae aO
      rw [←bG.out] at a2 a4
      have aQ:=hide a2
      have aU:=hide a4
      have az:=ag.trans (V.below ag.size fun b hb e=>by omega)
      have ah:=hide ((((aC.out.below F).below U)).kept V (((aC.out.below F).below U).ne_ I (by decide)))
      simp only [M,if_true,decide_true,Dq,DA] at bx
      clear a2 a4 M O I ad V U aj aH F
      go_wp2_with fail
      exact⟨⟨k+1,by go_num,by omega,az,ah,aQ,aU⟩,by simp [intOf]; omega⟩
     ·have ad:dd (ks.take k++[E])=dd (ks.take k)++[E]:=by rw [Eo]; exact FZ M
      simp only [M,if_false,decide_false,Dq,DA] at bx
      obtain⟨w8,cy,bz,bt,cw⟩:=EY FV Tryz.underlying221 O E M
      have ck:∀ty,(Builtin.len_ #[221] ty #[.map (some gm)]).run Tryz.prog w7=.ok (.int .i64 ((dd (ks.take k)).length:Int)) w7:=fun ty=>by
       have:=GS (ty:=ty) Tryz.underlying221 O
       simpa using this
      have ap:=Ac.of_grown bt
      have a8:=I.kept ap (fun e=>BT I O (Option.some.inj e).symm)
      have cU:w8.cell? ⟨gr,k,none⟩=some (.int .i64 (-1)):=by rw [a8.cell,←I.cell,cb]
      have cZ:=a8.frozen k
      have d8:=a8.lt
      have aD:=(aC.out.below F).below U
      have aE:=aD.kept ap (fun e=>BT aD O (Option.some.inj e).symm)
      obtain⟨a2,a4,V⟩:=Ja ad bz a8 ae aO
      have ah:=hide (aE.kept V (aE.ne_ a8 (by decide)))
      rw [←bG.out,ES M] at a2 a4
      rw [ES M] at V ah
      have aQ:=hide a2
      have aU:=hide a4
      have b9:=ag.trans (ap.below ag.size fun b hb e=>by have:=Option.some.inj e; omega)
      have az:=b9.trans (V.below b9.size fun b hb e=>by omega)
      simp only [Dq,DA] at cy
      clear a2 a4 M O I ad bz bt cw ap a8 V aD aE U aj aH F
      go_wp2_with fail
      exact⟨⟨k+1,by go_num,by omega,az,ah,aQ,aU⟩,by simp [intOf]; omega⟩
  ·obtain rfl:k=n:=by omega
   have a7:=hM.out
   have ck:∀ty,(Builtin.len_ #[221] ty #[.map (some gm)]).run Tryz.prog wr=.ok (.int .i64 ((dd (ks.take k)).length:Int)) wr:=fun ty=>by
    have:=GS (ty:=ty) Tryz.underlying221 a7
    simpa using this
   clear a7
   go_wp2_with fail
   go_ret2
   have a3:=au.out
   have cx:ks.take k=ks:=by rw [a3,←aP.out,List.take_length]
   have J:=hR.out
   rw [cx] at J ⊢
   exact⟨aA,_,_,rfl,Jr J (by rw [DN,a3,aP.out]) (by omega)⟩
end Go.Proofs.YtfcfpoemojjglaaGreatDoor
namespace Go.Proofs.YtfcfpoemojjglaaGreatDoor
open Go.RowKit
set_option maxHeartbeats 16000000
set_option maxRecDepth 100000
section
variable {S:Type} [DecidableEq S] {L:Nat} {δ:S→Nat→S} {s0:S}
def AM (L:Nat) (δ:S→Nat→S) (all:List S) (i:Nat):List (List Nat):=(all.take i).map fun s=>(List.range L).map fun x=>Ax all (δ s x)
theorem GO {all z:List S} {i:Nat} (h:Exp L δ s0 i all) (E:all<+:z):AM L δ z i=AM L δ all i:=by
 have C:=h.inv.le
 unfold AM
 obtain⟨t,rfl⟩:=E
 rw [List.take_append_of_le_length C]
 refine List.map_congr_left fun s F=>List.map_congr_left fun x G=>?_
 obtain⟨j,y⟩:=List.mem_iff_getElem?.1 F
 rw [List.getElem?_take] at y
 split at y
 ·exact ET (List.prefix_append _ _) (h.inv.closed j s (by assumption) y x (List.mem_range.1 G))
 ·cases y
theorem GP {all:List S} {i:Nat} {s:S} (h:all[i]?=some s):AM L δ all (i+1)=AM L δ all i++[(List.range L).map fun x=>Ax all (δ s x)]:=by
 unfold AM
 rw [B5 h,List.map_append]
 rfl
theorem D5 {all:List S} {i:Nat} (h:i≤all.length):(AM L δ all i).length=i:=by simp [AM]; omega
end
def Do (w:World) (base:Nat) (v:Value) (t:List (List Nat)) (ac:List Bool):Prop:=
 ∃(vN vA:Value) (ws:List Value),v=.agg #[vN,vA]∧w.ownsRow base 4 1 vA ac.length (ac.map Value.bool)∧w.ownsRow base 24 1 vN t.length ws∧Cl w base (fun _=>True) ws (t.map Ak)
theorem Do.kept {w w':World} {base base':Nat} {v:Value} {t:List (List Nat)} {ac:List Bool} {X:Nat→Prop} (h:Do w base v t ac) (hk:Ac w w' X) (E:∀g,X g→g<w.heap.size→g<base) (F:base'≤base):Do w' base' v t ac:=by
 obtain⟨vN,vA,ws,e,z,C,J⟩:=h
 refine⟨vN,vA,ws,e,DC (hk.ownsRow z fun g y e=>?_) F,DC (hk.ownsRow C fun g y e=>?_) F,J.imp fun v d G=>⟨DC (hk.ownsRow G.1 fun g y e=>?_) F,fun _ _=>trivial⟩⟩
 ·have h1:=Bb z y
  have I:=E g e (Cj z y)
  omega
 ·have h1:=Bb C y
  have I:=E g e (Cj C y)
  omega
 ·have h1:=Bb G.1 y
  have I:=E g e (Cj G.1 y)
  omega
theorem Do.read {w:World} {base:Nat} {v:Value} {t:List (List Nat)} {ac:List Bool} (h:Do w base v t ac) (O:∀r∈t,r.length≤4000000) (ht:t.length≤4000000) (V:ac.length≤4000000):Br w w.heap.size v t ac:=by
 obtain⟨vN,vA,ws,rfl,I,J,M⟩:=h
 obtain⟨z,E,y,h1⟩:=Cl.read M J ht (Nat.le_refl _) (fun d hd=>by
  obtain⟨r,U,rfl⟩:=List.mem_map.1 hd
  have:=O r U
  simpa [Ak] using this)
 obtain⟨C,c2,F,G⟩:=Kg (B:=w.heap.size) I rfl (Nat.le_refl _) (by omega)
 rw [List.length_map] at y
 exact⟨z,E,C,c2,by rw [y,F],LD h1,G⟩
structure QM (w0 wr:World) (g2 g4 g5 gm:Nat) (c2:Array Value) (kst st:List Nat) (t:List (List Nat)) (as':List Bool) (vS vN vA:Value) (ws:List Value) (N:Nat→Prop):Prop where
 below:Below w0.heap.size w0 wr
 b2:Blk wr g2 78 c2
 b4:Blk wr g4 78 #[sn0,sn0]
 b5:Blk wr g5 78 #[vN,vA]
 map:Bw wr gm (kst.map CR)
 sts:wr.ownsRow w0.heap.size 3 1 vS st.length ((Ak st).map (Value.int .i64))
 acc:wr.ownsRow w0.heap.size 4 1 vA as'.length (as'.map Value.bool)
 nxt:wr.ownsRow w0.heap.size 24 1 vN t.length ws
 nxtR:Cl wr w0.heap.size (fun g=>N g∧vS.ownBlock≠some g) ws (t.map Ak)
 ne:g2≠g5∧g4≠g5
 ge:w0.heap.size≤g2∧w0.heap.size≤g4∧w0.heap.size≤g5∧w0.heap.size≤gm
section
variable {w0 wr w':World} {g2 g4 g5 gm:Nat} {c2:Array Value} {kst st:List Nat} {t:List (List Nat)} {as':List Bool} {vS vN vA:Value} {ws:List Value} {N:Nat→Prop}
theorem QM.keep (h:QM w0 wr g2 g4 g5 gm c2 kst st t as' vS vN vA ws N) (y:Below wr.heap.size wr w'):QM w0 w' g2 g4 g5 gm c2 kst st t as' vS vN vA ws N:=
 ⟨h.below.trans (y.mono h.below.size),h.b2.below y,h.b4.below y,h.b5.below y,h.map.keep (y.block _ h.map.lt),Bt h.sts y,Bt h.acc y,Bt h.nxt y,
  h.nxtR.keep (Ac.of_below y (fun _=>False)) (fun _ _ _ e=>e.elim) (fun _ _ x=>x) (Nat.le_refl _),h.ne,h.ge⟩
theorem QM.weak {N':Nat→Prop} (h:QM w0 wr g2 g4 g5 gm c2 kst st t as' vS vN vA ws N) (y:∀g,g<wr.heap.size→N g→N' g):QM w0 wr g2 g4 g5 gm c2 kst st t as' vS vN vA ws N':=
 ⟨h.below,h.b2,h.b4,h.b5,h.map,h.sts,h.acc,h.nxt,h.nxtR.keep (Ac.refl wr (fun _=>False)) (fun _ _ _ e=>e.elim) (fun g z x=>⟨y g z x.1,x.2⟩) (Nat.le_refl _),h.ne,h.ge⟩
theorem QM.other (h:QM w0 wr g2 g4 g5 gm c2 kst st t as' vS vN vA ws N) {gr:Nat} {E:Array Value} (F:∀g,N g→g≠gr) (hS:vS.ownBlock≠some gr) (y:Blk wr gr 3 E) (C:w0.heap.size≤gr) (hk:Ac wr w' (fun k=>k=gr)):QM w0 w' g2 g4 g5 gm c2 kst st t as' vS vN vA ws N:=
 ⟨h.below.trans (hk.below h.below.size fun b I e=>by omega),h.b2.kept hk (h.b2.ne_ y (by decide)),h.b4.kept hk (h.b4.ne_ y (by decide)),h.b5.kept hk (h.b5.ne_ y (by decide)),
  h.map.kept hk (fun e=>BT y h.map e.symm),hk.ownsRow h.sts (fun g C e=>hS (by rw [C,e])),
  AK hk h.acc (fun g cs e z=>by subst e; exact z.ne_ y (by decide) rfl),AK hk h.nxt (fun g cs e z=>by subst e; exact z.ne_ y (by decide) rfl),
  h.nxtR.keep hk (fun g cs G e _=>F g G.1 e) (fun _ _ x=>x) (Nat.le_refl _),h.ne,h.ge⟩
theorem QM.addS {kv s:Nat} {vS':Value} {C w1:World} (h:QM w0 wr g2 g4 g5 gm c2 kst st t as' vS vN vA ws N) (M:Bw C gm ((kst++[kv]).map CR)) (F:wr.grownBy C (some gm)) (a4:C.heap.size=wr.heap.size)
  (I:Ac C w1 (fun k=>vS.ownBlock=some k)) (W:w1.ownsRow w0.heap.size 3 1 vS' (st.length+1) ((Ak st).map (Value.int .i64)++[.int .i64 (s:Int)])) (U:BJ C vS vS'):
  QM w0 w1 g2 g4 g5 gm c2 (kst++[kv]) (st++[s]) t as' vS' vN vA ws N∧Ac wr w1 (fun k=>gm=k∨vS.ownBlock=some k):=by
 have J:Ac wr C (fun k=>gm=k):=(Ac.of_grown F).mono fun b _ e=>Option.some.inj e
 have y:Ac wr w1 (fun k=>gm=k∨vS.ownBlock=some k):=(J.mono fun _ _ e=>.inl e).trans I fun _ _ e=>.inr e
 have E:∀{e:TypeId},e≠3→∀g cs,(gm=g∨vS.ownBlock=some g)→¬Blk wr g e cs:=by
  rintro e h1 g cs (G | G) hB
  ·exact BT hB h.map G.symm
  ·exact Aw h.sts hB (fun z=>h1 z.symm) G
 have Z:=J.ownsRow h.sts fun g F e=>Di h.sts h.map (by rw [F,e])
 refine⟨⟨h.below.trans (y.below h.below.size ?_),h.b2.kept y fun x=>E (by decide) _ _ x h.b2,h.b4.kept y fun x=>E (by decide) _ _ x h.b4,h.b5.kept y fun x=>E (by decide) _ _ x h.b5,
  M.kept I (Di Z M),?_,AK y h.acc (E (by decide)),AK y h.nxt (E (by decide)),?_,h.ne,h.ge⟩,y⟩
 ·rintro b hb (e | e)
  ·have:=h.ge; omega
  ·have:=Bb h.sts e; omega
 ·rw [List.length_append,EM,List.map_append]
  exact W
 ·refine h.nxtR.keep y ?_ ?_ (Nat.le_refl _)
  ·rintro g cs V (e | e) hB
   ·exact BT hB h.map e.symm
   ·exact V.2 e
  ·rintro g F ⟨h1,O⟩
   refine⟨h1,fun e=>?_⟩
   rcases U with z | ⟨g',z,a5⟩
   ·exact O (by rw [←z]; exact e)
   ·rw [e] at z
    have:=Option.some.inj z
    omega
theorem QM.addA {b:Bool} {vA':Value} {w1:World} (h:QM w0 wr g2 g4 g5 gm c2 kst st t as' vS vN vA ws N) (G:Ac wr w1 (fun k=>vA.ownBlock=some k)) (ho:w1.ownsRow w0.heap.size 4 1 vA' (as'.length+1) (as'.map Value.bool++[.bool b])):
  QM w0 (w1.setCell ⟨g5,1,none⟩ vA') g2 g4 g5 gm c2 kst st t (as'++[b]) vS vN vA' ws N:=by
 have J:=h.b5.kept G (Aw h.acc h.b5 (by decide))
 have I:=(Ac.refl w1 (fun k=>k=g5)).setCell (p:=⟨g5,1,none⟩) (fun _=>rfl) vA'
 have y:Ac wr (w1.setCell ⟨g5,1,none⟩ vA') (fun k=>vA.ownBlock=some k∨k=g5):=(G.mono fun _ _ e=>.inl e).trans I fun _ _ e=>.inr e
 have E:∀{e:TypeId},e≠4→e≠78→∀g cs,(vA.ownBlock=some g∨g=g5)→¬Blk wr g e cs:=by
  rintro e h1 M g cs (C | C) z
  ·exact Aw h.acc z (fun O=>h1 O.symm) C
  ·exact z.ne_ h.b5 M C
 have F:∀{g:Nat} {cs:Array Value},Blk wr g 78 cs→g≠g5→¬(vA.ownBlock=some g∨g=g5):=by
  rintro g cs z U (e | e)
  ·exact Aw h.acc z (by decide) e
  ·exact U e
 refine⟨h.below.trans (y.below h.below.size ?_),h.b2.kept y (F h.b2 h.ne.1),h.b4.kept y (F h.b4 h.ne.2),J.set_ 1 vA',h.map.kept y ?_,AK y h.sts (E (by decide) (by decide)),?_,AK y h.nxt (E (by decide) (by decide)),
  h.nxtR.keep y (fun g cs _ e=>E (by decide) (by decide) g cs e) (fun _ _ x=>x) (Nat.le_refl _),h.ne,h.ge⟩
 ·rintro b V (e | e)
  ·have:=Bb h.acc e; omega
  ·have:=h.ge; omega
 ·rintro(e | e)
  ·exact Di h.acc h.map e
  ·exact BT h.b5 h.map e.symm
 ·rw [List.length_append,List.map_append]
  exact AK I ho (fun g cs e z=>by subst e; exact z.ne_ J (by decide) rfl)
theorem QM.addR {row:List Nat} {gr c:Nat} {vN':Value} {w1:World} (h:QM w0 wr g2 g4 g5 gm c2 kst st t as' vS vN vA ws N)
  (Z:wr.ownsRow w0.heap.size 3 1 (.slice (some ⟨gr,0,none⟩) row.length c) row.length ((Ak row).map (Value.int .i64))) (hS:vS.ownBlock≠some gr)
  (G:Ac wr w1 (fun k=>vN.ownBlock=some k)) (ho:w1.ownsRow w0.heap.size 24 1 vN' (t.length+1) (ws++[.slice (some ⟨gr,0,none⟩) row.length c])):
  QM w0 (w1.setCell ⟨g5,0,none⟩ vN') g2 g4 g5 gm c2 kst st (t++[row]) as' vS vN' vA (ws++[.slice (some ⟨gr,0,none⟩) row.length c]) (fun _=>True):=by
 have J:=h.b5.kept G (Aw h.nxt h.b5 (by decide))
 have I:=(Ac.refl w1 (fun k=>k=g5)).setCell (p:=⟨g5,0,none⟩) (fun _=>rfl) vN'
 have y:Ac wr (w1.setCell ⟨g5,0,none⟩ vN') (fun k=>vN.ownBlock=some k∨k=g5):=(G.mono fun _ _ e=>.inl e).trans I fun _ _ e=>.inr e
 have C:∀{e:TypeId},e≠24→e≠78→∀g cs,(vN.ownBlock=some g∨g=g5)→¬Blk wr g e cs:=by
  rintro e h1 O g cs (E | E) z
  ·exact Aw h.nxt z (fun V=>h1 V.symm) E
  ·exact z.ne_ h.b5 O E
 have F:∀{g:Nat} {cs:Array Value},Blk wr g 78 cs→g≠g5→¬(vN.ownBlock=some g∨g=g5):=by
  rintro g cs z W (e | e)
  ·exact Aw h.nxt z (by decide) e
  ·exact W e
 refine⟨h.below.trans (y.below h.below.size ?_),h.b2.kept y (F h.b2 h.ne.1),h.b4.kept y (F h.b4 h.ne.2),J.set_ 0 vN',h.map.kept y ?_,AK y h.sts (C (by decide) (by decide)),AK y h.acc (C (by decide) (by decide)),?_,?_,h.ne,h.ge⟩
 ·rintro b hb (e | e)
  ·have:=Bb h.nxt e; omega
  ·have:=h.ge; omega
 ·rintro(e | e)
  ·exact Di h.nxt h.map e
  ·exact BT h.b5 h.map e.symm
 ·rw [List.length_append]
  exact AK I ho (fun g cs e z=>by subst e; exact z.ne_ J (by decide) rfl)
 ·rw [List.map_append]
  refine Cl.snoc (h.nxtR.keep y (fun g cs _ e=>C (by decide) (by decide) g cs e) (fun _ _ x=>⟨trivial,x.2⟩) (Nat.le_refl _)) ?_ ?_
  ·have:=AK y Z (C (by decide) (by decide))
   have M:(Ak row).length=row.length:=by simp [Ak]
   rw [M]
   exact this
  ·intro g U
   refine⟨trivial,fun e=>hS ?_⟩
   have:gr=g:=by simpa [Value.ownBlock] using U
   rw [this]
   exact e
theorem QM.finO {C:World} (h:QM w0 wr g2 g4 g5 gm c2 kst st t as' vS vN vA ws N) (hk:Ac wr C (fun k=>k=g4∨k<w0.heap.size)):
  Do C w0.heap.size (.agg #[vN,vA]) t as':=by
 have G:=h.ge
 have F:=hk.ownsRow h.nxt fun g y e=>by
  rcases e with e | e
  ·exact Aw h.nxt h.b4 (by decide) (by rw [y,e])
  ·have:=Bb h.nxt y; omega
 have E:=hk.ownsRow h.acc fun g y e=>by
  rcases e with e | e
  ·exact Aw h.acc h.b4 (by decide) (by rw [y,e])
  ·have:=Bb h.acc y; omega
 exact⟨vN,vA,ws,rfl,E,F,h.nxtR.imp fun v d z=>⟨hk.ownsRow z.1 fun g y e=>by
  rcases e with e | e
  ·exact Aw z.1 h.b4 (by decide) (by rw [y,e])
  ·have:=Bb z.1 y; omega,fun _ _=>trivial⟩⟩
end
end Go.Proofs.YtfcfpoemojjglaaGreatDoor
