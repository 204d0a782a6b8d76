/-
  Part PH of a proof.
-/
import Derived.Shelf.LaysM
import Derived.Shelf.Sort.Plain
import Derived.Ground.NamesProg
import Derived.Ground.Names2Prog
import Derived.Shelf.Slices.Equal
import Derived.Shelf.Slices.Turned
import Derived.Shelf.Slices.Empties2
import Derived.Test.YtfcfpoemojjglaaGreatDoorProg
import Derived.Test.YtfcfpoemojjglaaGreatDoorPA
import Derived.Test.YtfcfpoemojjglaaGreatDoorPG
set_option maxHeartbeats 16000000
set_option maxRecDepth 100000
set_option linter.unusedVariables false
set_option linter.unusedSimpArgs false
namespace Go.Proofs
open Go.Shelf
def Tryz.lays108_ren:Go.Shelf.Ren:=⟨fun | 108=>124 | n=>n,fun | 28=>24 | 3=>3 | 0=>0 | 4=>4 | n=>n,fun | n=>n⟩
def Tryz.lays107_ren:Go.Shelf.Ren:=⟨fun | 107=>74 | 108=>124 | n=>n,fun | 28=>24 | 3=>3 | 4=>4 | 0=>0 | n=>n,fun | n=>n⟩
theorem Tryz.lays107:Go.Proofs.Lays.n107 Tryz.prog Tryz.lays107_ren:={
 mixed:=by kernel_rfl
 f107:=Tryz.func74.trans (congrArg some (by kernel_rfl))
 f108:=Tryz.func124.trans (congrArg some (by kernel_rfl))
 t0:=Tryz.underlying0
 a0:=Tryz.isAgg0
 z0:=Tryz.sizeOf0
 v0:=Tryz.zeroValue0
 t3:=Tryz.underlying3
 a3:=Tryz.isAgg3
 z3:=Tryz.sizeOf3
 v3:=Tryz.zeroValue3
 t4:=Tryz.underlying4
 a4:=Tryz.isAgg4
 z4:=Tryz.sizeOf4
 v4:=Tryz.zeroValue4
 t28:=Tryz.underlying24
 a28:=Tryz.isAgg24
 z28:=Tryz.sizeOf24
 v28:=Tryz.zeroValue24 }
open Go.Lib in
theorem Tryz.slices_Contains_int (b y n c:Nat) (h:List Int) (x:Int) (w:World) (E:n≤h.length) (z:n≤9223372036854775807) (C:∀j,j<h.length→w.cell? ⟨b,y+j,none⟩=some (.int .i64 (h.getD j 0))):
  Calls Tryz.prog 74 #[.slice (some ⟨b,y,none⟩) n c,.int .i64 x] w fun e w'=>e=.returned (.bool ((h.take n).contains x))∧w'=w:=Any.slices_Contains_int Tryz.lays107 b y n c h x w E z C
end Go.Proofs
namespace Go.Proofs.YtfcfpoemojjglaaGreatDoor
open Go.RowKit
set_option maxHeartbeats 16000000
set_option maxRecDepth 100000
section
variable {S:Type} [DecidableEq S]
def dd (l:List S):List S:=l.foldl Bs []
theorem Eo (l:List S) (a:S):dd (l++[a])=Bs (dd l) a:=by simp [dd,List.foldl_append]
theorem Q7 {l:List S} {a b:S}:a∈Bs l b↔a∈l∨a=b:=by
 unfold Bs
 split
 ·constructor
  ·exact .inl
  ·rintro(h | rfl)
   ·exact h
   ·assumption
 ·simp
theorem Ri {l:List S} (h:l.Nodup) (a:S):(Bs l a).Nodup:=by
 unfold Bs
 split
 ·exact h
 ·rename_i hn
  exact List.nodup_append.2 ⟨h,by simp,fun x C y z e=>hn (by rw [List.mem_singleton] at z; rw [←z,←e]; exact C)⟩
theorem Nh (p:List S→Prop) (y:p []) (z:∀l a,p l→p (Bs l a)) (l:List S):p (dd l):=by
 have:∀(l k:List S),p k→p (l.foldl Bs k):=by
  intro l
  induction l with
  | nil=>exact fun _ h=>h
  | cons a l ih=>exact fun k h=>ih _ (z _ _ h)
 exact this l [] y
theorem Rh (l:List S):(dd l).Nodup:=Nh List.Nodup List.nodup_nil (fun _ a h=>Ri h a) l
theorem EJ {l:List S} {a:S}:a∈dd l↔a∈l:=by
 have:∀(l k:List S),a∈l.foldl Bs k↔a∈k∨a∈l:=by
  intro l
  induction l with
  | nil=>simp
  | cons b l ih=>
   intro k
   rw [List.foldl_cons,ih,Q7,List.mem_cons,or_assoc]
 exact(this l []).trans (by simp)
theorem Kr {l:List S} {a:S} (h:a∈l):Ax l a<l.length:=List.idxOf_lt_length_of_mem h
theorem Kq {l:List S} {a:S} (h:a∈l):l[Ax l a]?=some a:=FS h
theorem Rz {l:List S} {a b:S} (z:a∈l) (C:b∈l) (h:Ax l a=Ax l b):a=b:=by
 have y:=Kq z
 rw [h,Kq C] at y
 exact(Option.some.inj y).symm
theorem Ry {l:List S} (h:l.Nodup) {i:Nat} {a:S} (y:l[i]?=some a):Ax l a=i:=HO h y
def BD (l:List S):List Nat:=l.map (Ax (dd l))
theorem DN (l:List S):(BD l).length=l.length:=by simp [BD]
theorem I2 (l:List S) (a:S):BD (l++[a])=BD l++[Ax (Bs (dd l) a) a]:=by
 unfold BD
 rw [List.map_append,Eo]
 congr 1
 exact List.map_congr_left fun x h=>ET (F6 _ _) (EJ.2 h)
theorem I0 {l:List S} {i:Nat} {a:S} (h:l[i]?=some a):(BD l).getD i 0=Ax (dd l) a:=getD_some (AX h)
theorem IZ {l:List S} {i j:Nat} {a b:S} (y:l[i]?=some a) (z:l[j]?=some b):(BD l).getD i 0=(BD l).getD j 0↔a=b:=by
 rw [I0 y,I0 z]
 exact⟨Rz (EJ.2 (List.mem_of_getElem? y)) (EJ.2 (List.mem_of_getElem? z)),fun h=>by rw [h]⟩
theorem I1 {l:List S} {v:Nat}:v∈BD l↔v<(dd l).length:=by
 unfold BD
 rw [List.mem_map]
 constructor
 ·rintro⟨a,y,rfl⟩
  exact Kr (EJ.2 y)
 ·intro h
  obtain⟨a,y⟩:=An h
  exact⟨a,EJ.1 (List.mem_of_getElem? y),Ry (Rh l) y⟩
theorem BU.of_keys {L n r:Nat} {nx:Nat→Nat→Nat} {acc:Nat→Bool} {z:List S} (G:z.length=n) (h:∀i j x y,z[i]?=some x→z[j]?=some y→(x=y↔EqW L nx acc r i j)):BU L n nx acc r (BD z) (dd z).length:=by
 refine⟨by rw [DN,G],fun i j I J=>?_,fun v=>I1⟩
 obtain⟨x,C⟩:=An (l:=z) (i:=i) (by omega)
 obtain⟨y,E⟩:=An (l:=z) (i:=j) (by omega)
 rw [IZ C E]
 exact h i j x y C E
end
theorem Rp (L:Nat) (nx:Nat→Nat→Nat) (ac:List Bool):BU L ac.length nx (dac ac) 0 (BD ac) (dd ac).length:=by
 refine BU.of_keys rfl fun i j x y h z=>?_
 show x=y↔dac ac i=dac ac j
 unfold dac
 rw [getD_some h,getD_some z]
def Ep (L:Nat) (nx:Nat→Nat→Nat) (cl:List Nat) (q:Nat):List Nat:=cl.getD q 0::(List.range L).map fun x=>cl.getD (nx q x) 0
theorem Th {L n r cnt:Nat} {nx:Nat→Nat→Nat} {acc:Nat→Bool} {cl:List Nat} (J:∀q x,q<n→x<L→nx q x<n) (h:BU L n nx acc r cl cnt):BU L n nx acc (r+1) (BD ((List.range n).map (Ep L nx cl))) (dd ((List.range n).map (Ep L nx cl))).length:=by
 refine BU.of_keys (by simp) fun i j x y G I=>?_
 have C:i<n:=by simpa using AP G
 have E:j<n:=by simpa using AP I
 rw [AX (List.getElem?_range C)] at G
 rw [AX (List.getElem?_range E)] at I
 have ex:=Option.some.inj G
 have O:=Option.some.inj I
 subst ex O
 unfold Ep
 rw [List.cons.injEq,h.iff i j C E]
 show _↔EqW L nx acc r i j∧∀z,z<L→EqW L nx acc r (nx i z) (nx j z)
 refine and_congr_right fun _=>?_
 rw [List.map_inj_left]
 simp only [List.mem_range]
 exact forall_congr' fun z=>forall_congr' fun M=>h.iff _ _ (J i z C M) (J j z E M)
def CR (n:Nat):Value:=.int .i64 (n:Int)
def Bm (L:Nat) (row:List Nat):Array Value:=(row.map CR++List.replicate (L - row.length) (Value.int .i64 0)).toArray
theorem Fi {L:Nat} {row:List Nat} (h:row.length<L) (e:Nat):(Bm L row).setIfInBounds row.length (.int .i64 e)=Bm L (row++[e]):=by
 have y:List.replicate (L - row.length) (Value.int .i64 0)=.int .i64 0::List.replicate (L - (row.length+1)) (.int .i64 0):=by
  rw [←List.replicate_succ]; congr 1; omega
 unfold Bm
 rw [y]
 simp [CR]
theorem Fh {L:Nat} {row:List Nat} (h:row.length<L):(Bm L row)[row.length]?=some (.int .i64 0):=by
 unfold Bm
 simp
 rw [List.getElem?_append_right (by simp),List.getElem?_replicate]
 simp; omega
theorem Gw (L:Nat):Array.replicate L (Value.int .i64 0)=Bm L []:=by
 apply Array.ext'
 simp [Bm]
theorem PW {w:World} {base g L:Nat} {row:List Nat} (h:Blk w g 3 (Bm L row)) (G:row.length=L) (E:base≤g) (C:L≤4000000):w.ownsRow base 3 1 (.slice (some ⟨g,0,none⟩) L L) L ((Ak row).map (Value.int .i64)):=by
 have y:=DD (n:=L) h E (by simp [Bm]; omega) C
 have z:(Bm L row).toList=(Ak row).map (Value.int .i64):=by simp [Bm,G,Ak,CR]
 rwa [z] at y
theorem Jr {w:World} {g L:Nat} {row:List Nat} (h:Blk w g 3 (Bm L row)) (y:row.length=L) (C:L≤4000000):Sl w w.heap.size 1 Ai (some ⟨g,0,none⟩) (Ak row):=by
 have E:=PW (base:=0) h y (Nat.zero_le _) C
 obtain⟨A,c,e,hS⟩:=B8 E (by simp [Ak,y]) (Nat.le_refl _) (by omega)
 injection e with z G I
 subst z
 exact hS
theorem Ex {w:World} {B:Nat} {A:Option Addr} {l:List Nat} (h:Sl w B 1 Ai A (Ak l)) {i x:Nat} (C:l[i]?=some x):∃b y,A=some ⟨b,y,none⟩∧b<B∧w.cell? ⟨b,y+i,none⟩=some (.int .i64 (x:Int)):=by
 obtain⟨b,y,e,E,G⟩:=h.2 (by
  intro e
  have:=AP C
  have z:(Ak l).length=l.length:=by simp [Ak]
  rw [e] at z
  simp at z
  omega)
 have:=G i (x:Int) (AX C) 0 (by omega)
 exact⟨b,y,e,E,by simpa [Ai] using this⟩
theorem Fy {w:World} {B:Nat} {A:Option Addr} {l:List Bool} (h:Sl w B 1 DH A l) {i:Nat} {x:Bool} (z:l[i]?=some x):∃b y,A=some ⟨b,y,none⟩∧b<B∧w.cell? ⟨b,y+i,none⟩=some (.bool x):=by
 obtain⟨b,y,e,C,E⟩:=h.2 (by
  intro e
  have:=AP z
  rw [e] at this
  simp at this)
 have:=E i x z 0 (by omega)
 exact⟨b,y,e,C,by simpa [DH] using this⟩
theorem PY (s:Bool) (es:List MapEntry):∀(l:List Bool) (i:Nat),es.map (·.key)=l.map Value.bool→
  Instr.findNow .bool (.bool s) es i=some (if s∈l then some (i+l.idxOf s,((es[l.idxOf s]?).map (·.val)).getD .nilFunc) else none):=by
 induction es with
 | nil=>
  intro l i h
  have:l=[]:=by cases l <;> simp_all
  subst this
  simp [Instr.findNow]
 | cons e es ih=>
  intro l i h
  cases l with
  | nil=>simp at h
  | cons t l=>
   simp only [List.map_cons,List.cons.injEq] at h
   obtain⟨C,E⟩:=h
   unfold Instr.findNow
   rw [C]
   simp only [Instr.sameNow]
   by_cases y:s=t
   ·subst y
    simp
   ·have I:(s==t)=false:=by simpa using y
    rw [I]
    dsimp only
    rw [ih l (i+1) E]
    have G:(t::l).idxOf s=l.idxOf s+1:=by
     rw [List.idxOf_cons]
     have:(t==s)=false:=by simpa using fun e=>y e.symm
     rw [this]; rfl
    by_cases z:s∈l
    ·simp only [z,G,List.mem_cons,or_true,if_true,List.getElem?_cons_succ,Option.some.injEq,Prod.mk.injEq,and_true]; omega
    ·simp [z,y]
theorem Gy:El Tryz.prog 4 Value.bool where
 check:=fun y w s=>by
  rw [show(10000:Nat)=9999+1 from rfl]
  unfold Instr.checkKey
  simp [run_underlying Tryz.underlying4]
 find:=fun w s es l h=>by
  unfold Instr.findKey
  simp only [Sem.run_bind,run_underlying Tryz.underlying4,Result.andThen_ok]
  rw [PY s es l 0 h]
  simp
theorem KV {S:Type} [DecidableEq S] {P:Program} {K:TypeId} {enc:S→Value} (hk:El P K enc) {T E:TypeId} (J:P.underlying T=some (.map K E)) {w:World} {g:Nat} {l:List S}
  (h:Bw w g (l.map enc)) {s:S} (y:s∈l):
  (Instr.lookup T (.map (some g)) (enc s) false).run P w=.ok (.int .i64 (Ax l s:Int)) w:=by
 obtain⟨es,z,C,G,I⟩:=h
 have O:(getObj g).run P w=.ok (.map es z) w:=by simp [getObj,Sem.run,C]
 have M:=hk.find w s es.toList l G
 unfold Instr.lookup
 simp only [Sem.run_bind,run_underlying J,Result.andThen_ok,O,Sem.run_pure,hk.check,M]
 simp only [y,if_true]
 rw [JE I (by rw [List.length_map]; exact List.idxOf_lt_length_of_mem y)]
 rfl
theorem GS {P:Program} {T K E ty:TypeId} (I:P.underlying T=some (.map K E)) {w:World} {g:Nat} {y:List Value} (h:Bw w g y):
  (Builtin.len_ #[T] ty #[.map (some g)]).run P w=.ok (.int .i64 (y.length:Int)) w:=by
 obtain⟨es,z,C,G,O⟩:=h
 have J:(getObj g).run P w=.ok (.map es z) w:=by simp [getObj,Sem.run,C]
 have M:es.size=y.length:=by rw [←G]; simp
 simp [Builtin.len_,run_underlying I,J,goInt,M]
theorem I9 {S:Type} [DecidableEq S] {enc:S→Value} {w:World} {gm gr n k:Nat} {l:List S} {a:S} {d:List S} (hd:dd (l++[a])=d) (h:Bw w gm (d.map enc)) (y:Blk w gr 3 (Bm n (BD l))) (hk:l.length=k) (I:k<n):
  Bw (w.setCell ⟨gr,k,none⟩ (.int .i64 (Ax d a:Int))) gm ((dd (l++[a])).map enc)∧Blk (w.setCell ⟨gr,k,none⟩ (.int .i64 (Ax d a:Int))) gr 3 (Bm n (BD (l++[a])))∧Ac w (w.setCell ⟨gr,k,none⟩ (.int .i64 (Ax d a:Int))) (fun b=>b=gr):=by
 have z:=(Ac.refl w (fun b=>b=gr)).setCell (p:=⟨gr,k,none⟩) (fun _=>rfl) (.int .i64 (Ax d a:Int))
 refine⟨?_,?_,z⟩
 ·rw [hd]
  exact h.kept z fun e=>BT y h e.symm
 ·have C:=y.set_ k (.int .i64 (Ax d a:Int))
  have E:(BD l).length=k:=by rw [DN,hk]
  have G:Ax (Bs (dd l) a) a=Ax d a:=by rw [←hd,Eo]
  rw [I2,G,←Fi (by omega),E]
  exact C
theorem Ro {w:World} {v:Value} {t:List (List Nat)} {ac:List Bool} (h:Br w w.heap.size v t ac) (hl:ac.length≤250000):
  Calls Tryz.prog 165 #[v] w (Ret fun r w'=>Below w.heap.size w w'∧∃A c,r=.tuple #[.slice A ac.length c,.int .i64 ((dd ac).length:Int)]∧Sl w' w'.heap.size 1 Ai A (Ak (BD ac))):=by
 obtain⟨A1,c1,A2,c2,rfl,h1,h2⟩:=h
 obtain⟨w1,aO,a5,ai,aG⟩:=Ae w #[.slice A1 t.length c1,.slice A2 ac.length c2] 78
 obtain⟨gr,w2,aK,a6,Z,aF⟩:=Et w1 ac.length (by omega)
 obtain⟨gm,w3,b0,ap,a2,aE⟩:=F1 264 w2
 rw [Gw] at a6
 have aB:=ai.cell
 have aC:=((ai.below Z).below a2).cell
 have aL:=a5.size
 have b2:=Z.size
 have az:Below w.heap.size w w3:=a5.trans ((Z.mono aL).trans (a2.mono (by omega)))
 have ay:=hide (show Bw w3 gm ((dd (ac.take 0)).map Value.bool) from ap)
 have al:=hide (show Blk w3 gr 3 (Bm ac.length (BD (ac.take 0))) from a6.below a2)
 obtain⟨n,hn⟩:∃n,n=ac.length:=⟨_,rfl⟩
 have aq:=hide hn
 have b1:n≤250000:=by omega
 have ax:=hide h2
 rw [←hn] at aK aB aC aO al ⊢
 have aW:w.heap.size≤gr:=by omega
 have aV:w.heap.size≤gm:=by omega
 clear ap a6 aG h1 h2 hn aF aE a5 Z a2
 go_enter Tryz.func165,Tryz.ntmps165
 go_wp2_with fail
 go_loopw [18] (fun ii wr=>∃k:Nat,ii=.int .i64 (k:Int)∧k≤n∧Below w.heap.size w wr∧Hid (Bw wr gm ((dd (ac.take k)).map Value.bool))∧Hid (Blk wr gr 3 (Bm n (BD (ac.take k))))) (fun ii _=>n - (intOf ii).toNat)
 case atStart=>exact⟨0,rfl,Nat.zero_le _,az,ay,al⟩
 case round=>
  obtain⟨k,rfl,hk,J,hM,hR⟩:=hrel
  by_cases a9:k<n
  ·have V:=aq.out
   obtain⟨b,E⟩:=An (l:=ac) (i:=k) (by omega)
   obtain⟨blk,aP,rfl,aA,a7⟩:=Fy ax.out E
   have aR:wr.cell? ⟨blk,aP+k,none⟩=some (.bool b):=(J.cell aA).trans a7
   have ar:=hide (B5 E)
   have M:(ac.take k).length=k:=by rw [List.length_take]; omega
   have ao:((dd (ac.take k)).map Value.bool).length=(dd (ac.take k)).length:=by simp
   have z:=hM.out
   have y:=hR.out
   have an:=Ft Gy Tryz.underlying264 Fa z b
   have aD:wr.cell? ⟨gr,k,none⟩=some (.int .i64 0):=by
    rw [y.cell]
    have:=Fh (L:=n) (row:=BD (ac.take k)) (by rw [DN,M]; exact a9)
    rwa [DN,M] at this
   have aT:=y.frozen k
   have aY:=y.lt
   by_cases C:b∈dd (ac.take k)
   ·have O:dd (ac.take k++[b])=dd (ac.take k):=by rw [Eo]; exact F0 C
    have aJ:=KV Gy Tryz.underlying264 z C
    simp only [C,if_true,decide_true] at an
    obtain⟨G,I,U⟩:=I9 O z y M a9
    rw [←ar.out] at G I
    have aa:=hide G
    have ae:=hide I
    have a3:=J.trans (U.below J.size fun b E e=>by omega)
    clear G I C z y O E a7 V M ao U
    go_wp2_with fail
    exact⟨⟨k+1,by go_num,by omega,a3,aa,ae⟩,by simp [intOf]; omega⟩
   ·have O:dd (ac.take k++[b])=dd (ac.take k)++[b]:=by rw [Eo]; exact FZ C
    simp only [C,if_false,decide_false] at an
    obtain⟨w4,b3,ab,am,aM⟩:=EY Gy Tryz.underlying264 z b C
    have aH:∀ty,(Builtin.len_ #[264] ty #[.map (some gm)]).run Tryz.prog wr=.ok (.int .i64 ((dd (ac.take k)).length:Int)) wr:=fun ty=>by
     have:=GS (ty:=ty) Tryz.underlying264 z
     simpa using this
    have a8:=Ac.of_grown am
    have W:=y.kept a8 (fun e=>BT y z (Option.some.inj e).symm)
    have aJ:=KV Gy Tryz.underlying264 ab (s:=b) (by simp)
    have aS:w4.cell? ⟨gr,k,none⟩=some (.int .i64 0):=by rw [W.cell,←y.cell,aD]
    have aU:=W.frozen k
    have aZ:=W.lt
    obtain⟨G,I,U⟩:=I9 O ab W M a9
    rw [←ar.out] at G I
    have aa:=hide G
    have ae:=hide I
    have aj:=J.trans (a8.below J.size fun b E e=>by have:=Option.some.inj e; omega)
    have a3:=aj.trans (U.below aj.size fun b E e=>by omega)
    clear G I C z y O E a7 V M ao ab am aM a8 W U
    go_wp2_with fail
    exact⟨⟨k+1,by go_num,by omega,a3,aa,ae⟩,by simp [intOf]; omega⟩
  ·obtain rfl:k=n:=by omega
   have z:=hM.out
   have y:=hR.out
   have aH:∀ty,(Builtin.len_ #[264] ty #[.map (some gm)]).run Tryz.prog wr=.ok (.int .i64 ((dd (ac.take k)).length:Int)) wr:=fun ty=>by
    have:=GS (ty:=ty) Tryz.underlying264 z
    simpa using this
   clear z y
   go_wp2_with fail
   go_ret2
   have V:=aq.out
   have aN:ac.take k=ac:=by rw [V,List.take_length]
   have y:=hR.out
   rw [aN] at y ⊢
   exact⟨J,_,_,rfl,Jr y (by rw [DN,V]) (by omega)⟩
end Go.Proofs.YtfcfpoemojjglaaGreatDoor
namespace Go.Proofs.YtfcfpoemojjglaaGreatDoor
open Go.RowKit
set_option maxHeartbeats 16000000
set_option maxRecDepth 100000
theorem Ja {S:Type} [DecidableEq S] {enc:S→Value} {w:World} {gm gr n k:Nat} {l:List S} {a:S} {d:List S} {u:Value} (hd:dd (l++[a])=d) (y:Bw w gm (d.map enc)) (z:Blk w gr 3 ((Bm n (BD l)).setIfInBounds k u)) (hk:l.length=k) (I:k<n):
  Bw (w.setCell ⟨gr,k,none⟩ (.int .i64 (Ax d a:Int))) gm ((dd (l++[a])).map enc)∧Blk (w.setCell ⟨gr,k,none⟩ (.int .i64 (Ax d a:Int))) gr 3 (Bm n (BD (l++[a])))∧Ac w (w.setCell ⟨gr,k,none⟩ (.int .i64 (Ax d a:Int))) (fun b=>b=gr):=by
 have C:=(Ac.refl w (fun b=>b=gr)).setCell (p:=⟨gr,k,none⟩) (fun _=>rfl) (.int .i64 (Ax d a:Int))
 refine⟨?_,?_,C⟩
 ·rw [hd]
  exact y.kept C fun e=>BT z y e.symm
 ·have h:=z.set_ k (.int .i64 (Ax d a:Int))
  have E:(BD l).length=k:=by rw [DN,hk]
  have G:Ax (Bs (dd l) a) a=Ax d a:=by rw [←hd,Eo]
  rw [Array.setIfInBounds_setIfInBounds] at h
  rw [I2,G,←Fi (by omega),E]
  exact h
theorem Gt {w:World} {B:Nat} {A:Option Addr} {L:Nat} {t:List (List Nat)} {ac:List Bool} (h:VSl R1n w B A t) (I:DOK L t ac) {q:Nat} (hq:q<ac.length):
  ∃b C E V row,A=some ⟨b,C,none⟩∧b<B∧w.cell? ⟨b,C+q,none⟩=some (.slice E L V)∧t[q]?=some row∧row.length=L∧Sl w B 1 Ai E (Ak row)∧(∀x y,row[x]?=some y→y<ac.length∧dnx t q x=y):=by
 obtain⟨row,z⟩:=An (l:=t) (i:=q) (by rw [I.len]; exact hq)
 obtain⟨G,hy⟩:=I.row row (List.mem_of_getElem? z)
 obtain⟨b,C,e,Z,hc⟩:=h.2 (by intro e; subst e; simp at z)
 obtain⟨v,J,O,U,rfl,hS⟩:=hc q row z
 have W:(Ak row).length=L:=by simp [Ak,G]
 rw [W] at J
 refine⟨b,C,O,U,row,e,Z,J,z,G,hS,fun x y M=>⟨hy y (List.mem_of_getElem? M),?_⟩⟩
 unfold dnx
 rw [getD_some z,getD_some M]
theorem Im {w:World} {B b y:Nat} {l:List Nat} (h:Sl w B 1 Ai (some ⟨b,y,none⟩) (Ak l)) {i x:Nat} (E:l[i]?=some x):b<B∧w.cell? ⟨b,y+i,none⟩=some (.int .i64 (x:Int)):=by
 obtain⟨G,I,e,z,C⟩:=Ex h E
 cases e
 exact⟨z,C⟩
theorem Rq {w:World} {base n:Nat} {v:Value} {l:List Nat} (h:w.ownsRow base 3 1 v n ((Ak l).map (Value.int .i64))) (G:l.length=n) (O:0<n) (V:n≤4000000):
  ∃g c,v=.slice (some ⟨g,0,none⟩) n c∧Sl w w.heap.size 1 Ai (some ⟨g,0,none⟩) (Ak l)∧∀j,j<(Ak l).length→w.cell? ⟨g,0+j,none⟩=some (.int .i64 ((Ak l).getD j 0)):=by
 obtain⟨x,I⟩:=An (l:=l) (i:=0) (by omega)
 obtain⟨g,c,rfl,-⟩:=C7 h (AX (f:=Value.int .i64) (AX (f:=fun x:Nat=>(x:Int)) I))
 obtain⟨A,J,e,hS⟩:=B8 h (by simp [Ak,G]) (Nat.le_refl _) (by omega)
 injection e with C E M
 subst C
 refine⟨g,c,rfl,hS,fun j U=>?_⟩
 have E:(Ak l).length=l.length:=by simp [Ak]
 obtain⟨y,z⟩:=An (l:=l) (i:=j) (by omega)
 rw [(Im hS z).2,show(Ak l).getD j 0=(y:Int) from getD_some (AX (f:=fun x:Nat=>(x:Int)) z)]
def Df (cl row:List Nat) (q j:Nat):List Nat:=cl.getD q 0::(row.take j).map fun y=>cl.getD y 0
theorem QF {L:Nat} {t:List (List Nat)} {cl row:List Nat} {q:Nat} (E:row.length=L) (C:∀x y,row[x]?=some y→dnx t q x=y):Df cl row q L=Ep L (dnx t) cl q:=by
 unfold Df Ep
 congr 1
 apply List.ext_getElem?
 intro i
 rw [List.getElem?_map,List.getElem?_map,List.getElem?_take]
 by_cases h:i<L
 ·obtain⟨y,z⟩:=An (l:=row) (i:=i) (by omega)
  rw [if_pos h,z,List.getElem?_range h]
  simp only [Option.map_some]
  rw [C i y z]
 ·rw [if_neg h,List.getElem?_eq_none (by simp; omega)]
  rfl
theorem QG {cl row:List Nat} {q j:Nat} (h:j≤row.length):(Df cl row q j).length=j+1:=by
 simp [Df]; omega
theorem QH {cl row:List Nat} {q j y:Nat} (h:row[j]?=some y):Df cl row q (j+1)=Df cl row q j++[cl.getD y 0]:=by
 unfold Df
 rw [B5 h]
 simp
theorem EM (l:List Nat) (x:Nat):Ak (l++[x])=Ak l++[(x:Int)]:=by simp [Ak]
theorem Tf {w:World} {v:Value} {L c B:Nat} {A:Option Addr} {t:List (List Nat)} {ac:List Bool} {cl:List Nat} (h:Br w w.heap.size v t ac) (aV:DOK L t ac) (bo:Sl w B 1 Ai A (Ak cl)) (hB:B≤w.heap.size) (d6:cl.length=ac.length) (hv:∀x∈cl,x<250000) (hL:L≤8) (hn:ac.length≤250000) (hT:BV w):
  Calls Tryz.prog 166 #[v,.slice A ac.length c] w (Ret fun r w'=>Below w.heap.size w w'∧∃A' c',r=.tuple #[.slice A' ac.length c',.int .i64 ((dd ((List.range ac.length).map (Ep L (dnx t) cl))).length:Int)]∧Sl w' w'.heap.size 1 Ai A' (Ak (BD ((List.range ac.length).map (Ep L (dnx t) cl))))):=by
 obtain⟨A1,c1,A2,c2,rfl,h1,h2⟩:=h
 obtain⟨w1,bL,aL,aA,cg⟩:=Ae w #[.slice A1 t.length c1,.slice A2 ac.length c2] 78
 obtain⟨gm,w2,da,aT,ao,cd⟩:=F1 221 w1
 obtain⟨gr,w3,cn,aM,ap,ce⟩:=Et w2 ac.length (by omega)
 rw [Gw] at aM
 have cw:=aL.size
 have de:=ao.size
 have c6:Below w.heap.size w w3:=aL.trans ((ao.mono cw).trans (ap.mono (by omega)))
 obtain⟨C,av⟩:∃C,C=(List.range ac.length).map (Ep L (dnx t) cl):=⟨_,rfl⟩
 rw [←av]
 have bw:C.length=ac.length:=by rw [av]; simp
 have bY:=hide (show Bw w3 gm ((dd (C.take 0)).map Dq) from aT.keep (ap.block _ aT.lt))
 have bh:=hide (show Blk w3 gr 3 (Bm ac.length (BD (C.take 0))) from aM)
 have aD:=hide ((aA.below ao).below ap)
 have bI:=aV.len
 rw [bI] at bL aD ⊢
 obtain⟨n,aU⟩:∃n,n=ac.length:=⟨_,rfl⟩
 have aw:=hide aU
 have dc:n≤250000:=by omega
 have bW:=hide h1
 have cq:=hide aV
 have bp:=hide bo
 have ck:=hide av
 have aR:=hide bw
 have c5:=hide hT
 have d2:=aA.lt
 rw [←aU] at cn bL bh aD ⊢
 have d4:w.heap.size<gr:=by omega
 have d3:w.heap.size≤gm:=by omega
 clear aT aM cg h1 h2 aU ce cd aL ao ap aV bo av hT bI aA hn bw
 go_enter Tryz.func166,Tryz.ntmps166
 go_wp2_with fail
 go_loopw [21] (fun ii wr=>∃k:Nat,ii=.int .i64 (k:Int)∧k≤n∧Below w.heap.size w wr∧Hid (Blk wr w.heap.size 78 #[.slice A1 n c1,.slice A2 n c2])∧Hid (Bw wr gm ((dd (C.take k)).map Dq))∧Hid (Blk wr gr 3 (Bm n (BD (C.take k))))) (fun ii _=>n - (intOf ii).toNat)
 case atStart=>exact⟨0,rfl,Nat.zero_le _,c6,aD,bY,bh⟩
 case round=>
  obtain⟨k,rfl,hk,aC,hD,hM,hR⟩:=hrel
  by_cases aQ:k<n
  ·have a5:=aw.out
   obtain⟨x,J⟩:=An (l:=cl) (i:=k) (by omega)
   obtain⟨bc,oc,rfl,cO,bl⟩:=Ex bp.out J
   have ah:(C.take k).length=k:=by rw [List.length_take,aR.out]; omega
   have aH:=hD.out
   have a9:=hM.out
   have O:=hR.out
   have cU:wr.cell? ⟨gr,k,none⟩=some (.int .i64 0):=by
    rw [O.cell]
    have:=Fh (L:=n) (row:=BD (C.take k)) (by rw [DN,ah]; exact aQ)
    rwa [DN,ah] at this
   have cY:=O.frozen k
   have d7:=O.lt
   obtain⟨E,bM⟩:∃E,wr.setCell ⟨gr,k,none⟩ (.int .i64 (-1))=E:=⟨_,rfl⟩
   have aq:Ac wr E (fun b=>b=gr):=by rw [←bM]; exact(Ac.refl wr (fun b=>b=gr)).setCell (p:=⟨gr,k,none⟩) (fun _=>rfl) _
   have bi:Blk E gr 3 ((Bm n (BD (C.take k))).setIfInBounds k (.int .i64 (-1))):=by rw [←bM]; exact O.set_ k _
   have bd:=a9.kept aq fun e=>BT O a9 e.symm
   have ak:=aH.kept aq (aH.ne_ O (by decide))
   have a8:=aC.trans (aq.below aC.size fun b hb e=>by omega)
   obtain⟨bn,on,Ar,cr,row,rfl,c9,bq,cv,bC,bB,bD⟩:=Gt bW.out cq.out (q:=k) (by omega)
   have cS:E.cell? ⟨bc,oc+k,none⟩=some (.int .i64 (x:Int)):=(a8.cell (by show bc<_; omega)).trans bl
   have cQ:=ak.cell
   obtain⟨w5,dg,af,b8,ch⟩:=Ae E #[.int .i64 (x:Int)] 3
   have b9:=a8.trans (af.mono a8.size)
   have cT:w5.cell? ⟨bn,on+k,none⟩=some (.slice Ar L cr):=(b9.cell c9).trans bq
   have cR:=(ak.below af).cell
   have bF:=a8.size
   have df:=af.size
   have dh:=hv x (List.mem_of_getElem? J)
   have c4:=hide bi
   have be:=hide bd
   have aE:=hide ak
   have b7:=hide a8
   have di:=hide J
   have cu:=hide bB
   have bE:=hide bD
   have aX:=hide bC
   have c3:=hide (show w5.ownsRow E.heap.size 3 1 (.slice (some ⟨E.heap.size,0,none⟩) (0+1) 1) (0+1) ((Ak (Df cl row k 0)).map (Value.int .i64)) from by
    have:=DD (base:=E.heap.size) (n:=1) b8 (Nat.le_refl _) rfl (by omega)
    have e:Ak (Df cl row k 0)=[(x:Int)]:=by simp [Df,Ak,J]
    rw [e]
    exact this)
   have c7:=hide af
   clear bi bd ak J bB bD a9 O aH bl bq cv aq a5 b8 ch bC b9 af a8
   have cp:¬n≤k:=by omega
   have cA:¬(x:Int)<0:=by omega
   go_wp2_with fail
   clear cp cA
   go_loopw [9,50] (fun vv ii wz=>∃(j a2 g:Nat),vv=.slice (some ⟨g,0,none⟩) (j+1) a2∧ii=.int .i64 (j:Int)∧j≤L∧Below E.heap.size E wz∧Hid (wz.ownsRow E.heap.size 3 1 (.slice (some ⟨g,0,none⟩) (j+1) a2) (j+1) ((Ak (Df cl row k j)).map (Value.int .i64)))) (fun _ ii _=>L - (intOf ii).toNat)
   case atStart=>exact⟨0,1,E.heap.size,rfl,rfl,Nat.zero_le _,c7.out,c3⟩
   case round=>
    obtain⟨j,a2,g,rfl,rfl,hj,I,hO⟩:=hrel
    by_cases cf:j<L
    ·obtain⟨y,hy⟩:=An (l:=row) (i:=j) (by rw [aX.out]; exact cf)
     obtain⟨br,cE,rfl,ca,bs⟩:=Ex cu.out hy
     have cB:=(bE.out j y hy).1
     obtain⟨z,hz⟩:=An (l:=cl) (i:=y) (by omega)
     obtain⟨c8,bt⟩:=Im bp.out hz
     have a3:=b7.out.trans (I.mono bF)
     have cW:wr.cell? ⟨br,cE+j,none⟩=some (.int .i64 (y:Int)):=(a3.cell ca).trans bs
     have cX:wr.cell? ⟨bc,oc+y,none⟩=some (.int .i64 (z:Int)):=(a3.cell (by show bc<_; omega)).trans bt
     have dj:y<n:=by rw [aw.out]; exact cB
     have cj:=hide (QH (cl:=cl) (q:=k) hy)
     have cD:=hide (getD_some (d:=0) hz)
     have aY:=I.size
     have bf:=hO
     clear hy hz bs bt hO c8 a3
     go_wp2_with (at_builtin; refine BP C9 rfl _ _ rfl E.heap.size (.slice (some ⟨g,0,none⟩) (j+1) a2) (j+1) _ rfl bf.out [.int .i64 (z:Int)] 1 rfl rfl (by simp [Value.oneCell']) (by omega) aY ?_; intro g' b4 w6 ct ci db d1)
     have bZ:w6.ownsRow E.heap.size 3 1 (.slice (some ⟨g',0,none⟩) (j+1+1) b4) (j+1+1) ((Ak (Df cl row k (j+1))).map (Value.int .i64)):=by
      rw [cj.out,EM,List.map_append,cD.out]
      exact ct
     exact⟨⟨j+1,b4,g',rfl,by go_num,by omega,I.trans (ci.below aY fun b hb e=>by have:=Bb bf.out e; omega),hide bZ⟩,by simp [intOf]; omega⟩
    ·obtain rfl:j=L:=by omega
     have aO:=QF (t:=t) (cl:=cl) (q:=k) aX.out fun x y hh=>(bE.out x y hh).2
     have au:(Df cl row k j).length=j+1:=QG (by rw [aX.out]; exact Nat.le_refl _)
     obtain⟨G,aP⟩:∃G,G=Df cl row k j:=⟨_,rfl⟩
     have aJ:=hO.out
     rw [←aP] at aO au aJ
     obtain⟨g0,c0,e0,bj,bm⟩:=Rq aJ au (by omega) (by omega)
     injection e0 with e1 _ e3
     injection e1 with e1
     injection e1 with e1
     subst e1 e3
     have a5:(Ak G).length=j+1:=by simp [Ak,au]
     have a3:=b7.out.trans (I.mono bF)
     have cb:Calls Tryz.prog 74 #[.slice (some ⟨g,0,none⟩) (j+1) a2,.int .i64 (-1)] wr fun e w'=>e=.returned (.bool false)∧w'=wr:=by
      have h1:=Tryz.slices_Contains_int g 0 (j+1) a2 (Ak G) (-1) wr (by omega) (by omega) bm
      have h2:((Ak G).take (j+1)).contains (-1)=false:=by
       rw [Bool.eq_false_iff]
       intro hh
       have:=List.mem_of_mem_take (List.contains_iff_mem.1 hh)
       obtain⟨q,_,hq⟩:=List.mem_map.1 this
       omega
      rw [h2] at h1
      exact h1
     have bx:∀x∈G,x<1000000000:=by
      intro x J
      rw [aP] at J
      have hz:∀q,cl.getD q 0<250000:=fun q=>by
       rcases Nat.lt_or_ge q cl.length with hq | hq
       ·obtain⟨v,bK⟩:=An hq
        rw [getD_some bK]
        exact hv v (List.mem_of_getElem? bK)
       ·rw [List.getD_eq_getElem?_getD,List.getElem?_eq_none hq]; simp
      unfold Df at J
      rcases List.mem_cons.1 J with rfl | J
      ·have:=hz k; omega
      ·obtain⟨q,_,rfl⟩:=List.mem_map.1 J
       have:=hz q; omega
     have bv:=JN (c:=a2) bj (Nat.le_refl _) bx (by omega) (c5.out.below a3)
     rw [a5] at bv
     have bG:C.take (k+1)=C.take k++[G]:=by
      refine B5 ?_
      rw [ck.out,aO]
      exact AX (List.getElem?_range (by have:=aw.out; omega))
     have bH:=hide bG
     have al:=be.out.keep (I.block _ be.out.lt)
     have aK:=c4.out.below I
     have b6:=hide a3
     have aY:=I.size
     clear aO au aJ bj bm a5 a3 bx bG hO aP
     go_wp2_with fail
     refine cb.mono ?_
     rintro e w' ⟨rfl,rfl⟩
     go_wp2_with fail
     refine Calls.ret bv ?_
     rintro v w7 ⟨rfl,W⟩
     have V:=al.keep (W.block _ al.lt)
     have M:=aK.below W
     have bz:=Ft FV Tryz.underlying221 Fa V G
     have cc:w7.cell? ⟨gr,k,none⟩=some (.int .i64 (-1)):=by
      rw [M.cell,Array.getElem?_setIfInBounds]
      rw [if_pos rfl,if_pos (by simp [Bm,DN,ah]; omega)]
     have cZ:=M.frozen k
     have d8:=M.lt
     have ai:=b6.out.trans (W.mono b6.out.size)
     by_cases U:G∈dd (C.take k)
     ·have ag:dd (C.take k++[G])=dd (C.take k):=by rw [Eo]; exact F0 U
      obtain⟨a4,a6,Z⟩:=Ja ag V M ah aQ
      rw [←bH.out] at a4 a6
      have aS:=hide a4
      have aW:=hide a6
      have aB:=ai.trans (Z.below ai.size fun b hb e=>by omega)
      have aj:=hide ((((aE.out.below I).below W)).kept Z (((aE.out.below I).below W).ne_ M (by decide)))
      simp only [U,if_true,decide_true,Dq,DA] at bz
      clear a4 a6 U V M ag Z W al aK I
      go_wp2_with fail
      exact⟨⟨k+1,by go_num,by omega,aB,aj,aS,aW⟩,by simp [intOf]; omega⟩
     ·have ag:dd (C.take k++[G])=dd (C.take k)++[G]:=by rw [Eo]; exact FZ U
      simp only [U,if_false,decide_false,Dq,DA] at bz
      obtain⟨w8,cz,bA,bu,cx⟩:=EY FV Tryz.underlying221 V G U
      have cm:∀ty,(Builtin.len_ #[221] ty #[.map (some gm)]).run Tryz.prog w7=.ok (.int .i64 ((dd (C.take k)).length:Int)) w7:=fun ty=>by
       have:=GS (ty:=ty) Tryz.underlying221 V
       simpa using this
      have ar:=Ac.of_grown bu
      have aa:=M.kept ar (fun e=>BT M V (Option.some.inj e).symm)
      have cV:w8.cell? ⟨gr,k,none⟩=some (.int .i64 (-1)):=by rw [aa.cell,←M.cell,cc]
      have d0:=aa.frozen k
      have d9:=aa.lt
      have aF:=(aE.out.below I).below W
      have aG:=aF.kept ar (fun e=>BT aF V (Option.some.inj e).symm)
      obtain⟨a4,a6,Z⟩:=Ja ag bA aa ah aQ
      have aj:=hide (aG.kept Z (aG.ne_ aa (by decide)))
      rw [←bH.out,ES U] at a4 a6
      rw [ES U] at Z aj
      have aS:=hide a4
      have aW:=hide a6
      have ba:=ai.trans (ar.below ai.size fun b hb e=>by have:=Option.some.inj e; omega)
      have aB:=ba.trans (Z.below ba.size fun b hb e=>by omega)
      simp only [Dq,DA] at cz
      clear a4 a6 U V M ag bA bu cx ar aa Z aF aG W al aK I
      go_wp2_with fail
      exact⟨⟨k+1,by go_num,by omega,aB,aj,aS,aW⟩,by simp [intOf]; omega⟩
  ·obtain rfl:k=n:=by omega
   have a9:=hM.out
   have cm:∀ty,(Builtin.len_ #[221] ty #[.map (some gm)]).run Tryz.prog wr=.ok (.int .i64 ((dd (C.take k)).length:Int)) wr:=fun ty=>by
    have:=GS (ty:=ty) Tryz.underlying221 a9
    simpa using this
   clear a9
   go_wp2_with fail
   go_ret2
   have a5:=aw.out
   have cy:C.take k=C:=by rw [a5,←aR.out,List.take_length]
   have O:=hR.out
   rw [cy] at O ⊢
   exact⟨aC,_,_,rfl,Jr O (by rw [DN,a5,aR.out]) (by omega)⟩
end Go.Proofs.YtfcfpoemojjglaaGreatDoor
namespace Go.Proofs.YtfcfpoemojjglaaGreatDoor
open Go.RowKit
set_option maxHeartbeats 16000000
set_option maxRecDepth 100000
section
variable {S:Type} [DecidableEq S] {L:Nat} {δ:S→Nat→S} {s0:S}
def AM (L:Nat) (δ:S→Nat→S) (all:List S) (i:Nat):List (List Nat):=(all.take i).map fun s=>(List.range L).map fun x=>Ax all (δ s x)
theorem GO {all all':List S} {i:Nat} (h:Exp L δ s0 i all) (C:all<+:all'):AM L δ all' i=AM L δ all i:=by
 have z:=h.inv.le
 unfold AM
 obtain⟨t,rfl⟩:=C
 rw [List.take_append_of_le_length z]
 refine List.map_congr_left fun s E=>List.map_congr_left fun x G=>?_
 obtain⟨j,y⟩:=List.mem_iff_getElem?.1 E
 rw [List.getElem?_take] at y
 split at y
 ·exact ET (List.prefix_append _ _) (h.inv.closed j s (by assumption) y x (List.mem_range.1 G))
 ·cases y
theorem GP {all:List S} {i:Nat} {s:S} (h:all[i]?=some s):AM L δ all (i+1)=AM L δ all i++[(List.range L).map fun x=>Ax all (δ s x)]:=by
 unfold AM
 rw [B5 h,List.map_append]
 rfl
theorem D5 {all:List S} {i:Nat} (h:i≤all.length):(AM L δ all i).length=i:=by simp [AM]; omega
theorem Kp {s:S} {all:List S} {x y:Nat} (h:y<x):Ax (AZ δ s all (x+1)) (δ s y)=Ax (AZ δ s all x) (δ s y):=by
 rw [Cr]
 exact ET (F6 _ _) (Gb s all h)
end
def Do (w:World) (base:Nat) (v:Value) (t:List (List Nat)) (ac:List Bool):Prop:=
 ∃(vN vA:Value) (ws:List Value),v=.agg #[vN,vA]∧w.ownsRow base 4 1 vA ac.length (ac.map Value.bool)∧w.ownsRow base 24 1 vN t.length ws∧Cl w base (fun _=>True) ws (t.map Ak)
theorem Do.kept {w w':World} {base base':Nat} {v:Value} {t:List (List Nat)} {ac:List Bool} {X:Nat→Prop} (h:Do w base v t ac) (hk:Ac w w' X) (E:∀g,X g→g<w.heap.size→g<base) (G:base'≤base):Do w' base' v t ac:=by
 obtain⟨vN,vA,ws,e,z,C,O⟩:=h
 refine⟨vN,vA,ws,e,DC (hk.ownsRow z fun g y e=>?_) G,DC (hk.ownsRow C fun g y e=>?_) G,O.imp fun v d I=>⟨DC (hk.ownsRow I.1 fun g y e=>?_) G,fun _ _=>trivial⟩⟩
 ·have J:=Bb z y
  have M:=E g e (Cj z y)
  omega
 ·have J:=Bb C y
  have M:=E g e (Cj C y)
  omega
 ·have J:=Bb I.1 y
  have M:=E g e (Cj I.1 y)
  omega
theorem Do.read {w:World} {base:Nat} {v:Value} {t:List (List Nat)} {ac:List Bool} (h:Do w base v t ac) (U:∀r∈t,r.length≤4000000) (ht:t.length≤4000000) (W:ac.length≤4000000):Br w w.heap.size v t ac:=by
 obtain⟨vN,vA,ws,rfl,J,M,O⟩:=h
 obtain⟨z,c1,y,G⟩:=Cl.read O M ht (Nat.le_refl _) (fun d hd=>by
  obtain⟨r,V,rfl⟩:=List.mem_map.1 hd
  have:=U r V
  simpa [Ak] using this)
 obtain⟨C,c2,E,I⟩:=Kg (B:=w.heap.size) J rfl (Nat.le_refl _) (by omega)
 rw [List.length_map] at y
 exact⟨z,c1,C,c2,by rw [y,E],LD G,I⟩
structure QM (w0 wr:World) (g2 g4 g5 gm:Nat) (c2:Array Value) (kst st:List Nat) (t:List (List Nat)) (as':List Bool) (vS vN vA:Value) (ws:List Value) (N:Nat→Prop):Prop where
 below:Below w0.heap.size w0 wr
 b2:Blk wr g2 78 c2
 b4:Blk wr g4 78 #[sn0,sn0]
 b5:Blk wr g5 78 #[vN,vA]
 map:Bw wr gm (kst.map CR)
 sts:wr.ownsRow w0.heap.size 3 1 vS st.length ((Ak st).map (Value.int .i64))
 acc:wr.ownsRow w0.heap.size 4 1 vA as'.length (as'.map Value.bool)
 nxt:wr.ownsRow w0.heap.size 24 1 vN t.length ws
 nxtR:Cl wr w0.heap.size (fun g=>N g∧vS.ownBlock≠some g) ws (t.map Ak)
 ne:g2≠g5∧g4≠g5
 ge:w0.heap.size≤g2∧w0.heap.size≤g4∧w0.heap.size≤g5∧w0.heap.size≤gm
section
variable {w0 wr w':World} {g2 g4 g5 gm:Nat} {c2:Array Value} {kst st:List Nat} {t:List (List Nat)} {as':List Bool} {vS vN vA:Value} {ws:List Value} {N:Nat→Prop}
theorem QM.keep (h:QM w0 wr g2 g4 g5 gm c2 kst st t as' vS vN vA ws N) (y:Below wr.heap.size wr w'):QM w0 w' g2 g4 g5 gm c2 kst st t as' vS vN vA ws N:=
 ⟨h.below.trans (y.mono h.below.size),h.b2.below y,h.b4.below y,h.b5.below y,h.map.keep (y.block _ h.map.lt),Bt h.sts y,Bt h.acc y,Bt h.nxt y,
  h.nxtR.keep (Ac.of_below y (fun _=>False)) (fun _ _ _ e=>e.elim) (fun _ _ x=>x) (Nat.le_refl _),h.ne,h.ge⟩
theorem QM.weak {N':Nat→Prop} (h:QM w0 wr g2 g4 g5 gm c2 kst st t as' vS vN vA ws N) (y:∀g,g<wr.heap.size→N g→N' g):QM w0 wr g2 g4 g5 gm c2 kst st t as' vS vN vA ws N':=
 ⟨h.below,h.b2,h.b4,h.b5,h.map,h.sts,h.acc,h.nxt,h.nxtR.keep (Ac.refl wr (fun _=>False)) (fun _ _ _ e=>e.elim) (fun g z x=>⟨y g z x.1,x.2⟩) (Nat.le_refl _),h.ne,h.ge⟩
theorem QM.other (h:QM w0 wr g2 g4 g5 gm c2 kst st t as' vS vN vA ws N) {gr:Nat} {E:Array Value} (G:∀g,N g→g≠gr) (hS:vS.ownBlock≠some gr) (y:Blk wr gr 3 E) (C:w0.heap.size≤gr) (hk:Ac wr w' (fun k=>k=gr)):QM w0 w' g2 g4 g5 gm c2 kst st t as' vS vN vA ws N:=
 ⟨h.below.trans (hk.below h.below.size fun b J e=>by omega),h.b2.kept hk (h.b2.ne_ y (by decide)),h.b4.kept hk (h.b4.ne_ y (by decide)),h.b5.kept hk (h.b5.ne_ y (by decide)),
  h.map.kept hk (fun e=>BT y h.map e.symm),hk.ownsRow h.sts (fun g C e=>hS (by rw [C,e])),
  AK hk h.acc (fun g cs e z=>by subst e; exact z.ne_ y (by decide) rfl),AK hk h.nxt (fun g cs e z=>by subst e; exact z.ne_ y (by decide) rfl),
  h.nxtR.keep hk (fun g cs I e _=>G g I.1 e) (fun _ _ x=>x) (Nat.le_refl _),h.ne,h.ge⟩
theorem QM.addS {kv s:Nat} {vS':Value} {C w1:World} (h:QM w0 wr g2 g4 g5 gm c2 kst st t as' vS vN vA ws N) (U:Bw C gm ((kst++[kv]).map CR)) (G:wr.grownBy C (some gm)) (a6:C.heap.size=wr.heap.size)
  (M:Ac C w1 (fun k=>vS.ownBlock=some k)) (a2:w1.ownsRow w0.heap.size 3 1 vS' (st.length+1) ((Ak st).map (Value.int .i64)++[.int .i64 (s:Int)])) (W:BJ C vS vS'):
  QM w0 w1 g2 g4 g5 gm c2 (kst++[kv]) (st++[s]) t as' vS' vN vA ws N∧Ac wr w1 (fun k=>gm=k∨vS.ownBlock=some k):=by
 have O:Ac wr C (fun k=>gm=k):=(Ac.of_grown G).mono fun b _ e=>Option.some.inj e
 have y:Ac wr w1 (fun k=>gm=k∨vS.ownBlock=some k):=(O.mono fun _ _ e=>.inl e).trans M fun _ _ e=>.inr e
 have E:∀{e:TypeId},e≠3→∀g cs,(gm=g∨vS.ownBlock=some g)→¬Blk wr g e cs:=by
  rintro e J g cs (I | I) hB
  ·exact BT hB h.map I.symm
  ·exact Aw h.sts hB (fun z=>J z.symm) I
 have a3:=O.ownsRow h.sts fun g G e=>Di h.sts h.map (by rw [G,e])
 refine⟨⟨h.below.trans (y.below h.below.size ?_),h.b2.kept y fun x=>E (by decide) _ _ x h.b2,h.b4.kept y fun x=>E (by decide) _ _ x h.b4,h.b5.kept y fun x=>E (by decide) _ _ x h.b5,
  U.kept M (Di a3 U),?_,AK y h.acc (E (by decide)),AK y h.nxt (E (by decide)),?_,h.ne,h.ge⟩,y⟩
 ·rintro b hb (e | e)
  ·have:=h.ge; omega
  ·have:=Bb h.sts e; omega
 ·rw [List.length_append,EM,List.map_append]
  exact a2
 ·refine h.nxtR.keep y ?_ ?_ (Nat.le_refl _)
  ·rintro g cs Z (e | e) hB
   ·exact BT hB h.map e.symm
   ·exact Z.2 e
  ·rintro g G ⟨J,V⟩
   refine⟨J,fun e=>?_⟩
   rcases W with z | ⟨g',z,a7⟩
   ·exact V (by rw [←z]; exact e)
   ·rw [e] at z
    have:=Option.some.inj z
    omega
theorem QM.addA {b:Bool} {vA':Value} {w1:World} (h:QM w0 wr g2 g4 g5 gm c2 kst st t as' vS vN vA ws N) (I:Ac wr w1 (fun k=>vA.ownBlock=some k)) (Z:w1.ownsRow w0.heap.size 4 1 vA' (as'.length+1) (as'.map Value.bool++[.bool b])):
  QM w0 (w1.setCell ⟨g5,1,none⟩ vA') g2 g4 g5 gm c2 kst st t (as'++[b]) vS vN vA' ws N:=by
 have M:=h.b5.kept I (Aw h.acc h.b5 (by decide))
 have J:=(Ac.refl w1 (fun k=>k=g5)).setCell (p:=⟨g5,1,none⟩) (fun _=>rfl) vA'
 have y:Ac wr (w1.setCell ⟨g5,1,none⟩ vA') (fun k=>vA.ownBlock=some k∨k=g5):=(I.mono fun _ _ e=>.inl e).trans J fun _ _ e=>.inr e
 have E:∀{e:TypeId},e≠4→e≠78→∀g cs,(vA.ownBlock=some g∨g=g5)→¬Blk wr g e cs:=by
  rintro e O U g cs (C | C) z
  ·exact Aw h.acc z (fun V=>O V.symm) C
  ·exact z.ne_ h.b5 U C
 have G:∀{g:Nat} {cs:Array Value},Blk wr g 78 cs→g≠g5→¬(vA.ownBlock=some g∨g=g5):=by
  rintro g cs z W (e | e)
  ·exact Aw h.acc z (by decide) e
  ·exact W e
 refine⟨h.below.trans (y.below h.below.size ?_),h.b2.kept y (G h.b2 h.ne.1),h.b4.kept y (G h.b4 h.ne.2),M.set_ 1 vA',h.map.kept y ?_,AK y h.sts (E (by decide) (by decide)),?_,AK y h.nxt (E (by decide) (by decide)),
  h.nxtR.keep y (fun g cs _ e=>E (by decide) (by decide) g cs e) (fun _ _ x=>x) (Nat.le_refl _),h.ne,h.ge⟩
 ·rintro b hb (e | e)
  ·have:=Bb h.acc e; omega
  ·have:=h.ge; omega
 ·rintro(e | e)
  ·exact Di h.acc h.map e
  ·exact BT h.b5 h.map e.symm
 ·rw [List.length_append,List.map_append]
  exact AK J Z (fun g cs e z=>by subst e; exact z.ne_ M (by decide) rfl)
theorem QM.addR {row:List Nat} {gr c:Nat} {vN':Value} {w1:World} (h:QM w0 wr g2 g4 g5 gm c2 kst st t as' vS vN vA ws N)
  (hr:wr.ownsRow w0.heap.size 3 1 (.slice (some ⟨gr,0,none⟩) row.length c) row.length ((Ak row).map (Value.int .i64))) (hS:vS.ownBlock≠some gr)
  (I:Ac wr w1 (fun k=>vN.ownBlock=some k)) (ho:w1.ownsRow w0.heap.size 24 1 vN' (t.length+1) (ws++[.slice (some ⟨gr,0,none⟩) row.length c])):
  QM w0 (w1.setCell ⟨g5,0,none⟩ vN') g2 g4 g5 gm c2 kst st (t++[row]) as' vS vN' vA (ws++[.slice (some ⟨gr,0,none⟩) row.length c]) (fun _=>True):=by
 have M:=h.b5.kept I (Aw h.nxt h.b5 (by decide))
 have J:=(Ac.refl w1 (fun k=>k=g5)).setCell (p:=⟨g5,0,none⟩) (fun _=>rfl) vN'
 have y:Ac wr (w1.setCell ⟨g5,0,none⟩ vN') (fun k=>vN.ownBlock=some k∨k=g5):=(I.mono fun _ _ e=>.inl e).trans J fun _ _ e=>.inr e
 have C:∀{e:TypeId},e≠24→e≠78→∀g cs,(vN.ownBlock=some g∨g=g5)→¬Blk wr g e cs:=by
  rintro e U V g cs (E | E) z
  ·exact Aw h.nxt z (fun Z=>U Z.symm) E
  ·exact z.ne_ h.b5 V E
 have G:∀{g:Nat} {cs:Array Value},Blk wr g 78 cs→g≠g5→¬(vN.ownBlock=some g∨g=g5):=by
  rintro g cs z a2 (e | e)
  ·exact Aw h.nxt z (by decide) e
  ·exact a2 e
 refine⟨h.below.trans (y.below h.below.size ?_),h.b2.kept y (G h.b2 h.ne.1),h.b4.kept y (G h.b4 h.ne.2),M.set_ 0 vN',h.map.kept y ?_,AK y h.sts (C (by decide) (by decide)),AK y h.acc (C (by decide) (by decide)),?_,?_,h.ne,h.ge⟩
 ·rintro b hb (e | e)
  ·have:=Bb h.nxt e; omega
  ·have:=h.ge; omega
 ·rintro(e | e)
  ·exact Di h.nxt h.map e
  ·exact BT h.b5 h.map e.symm
 ·rw [List.length_append]
  exact AK J ho (fun g cs e z=>by subst e; exact z.ne_ M (by decide) rfl)
 ·rw [List.map_append]
  refine Cl.snoc (h.nxtR.keep y (fun g cs _ e=>C (by decide) (by decide) g cs e) (fun _ _ x=>⟨trivial,x.2⟩) (Nat.le_refl _)) ?_ ?_
  ·have:=AK y hr (C (by decide) (by decide))
   have O:(Ak row).length=row.length:=by simp [Ak]
   rw [O]
   exact this
  ·intro g W
   refine⟨trivial,fun e=>hS ?_⟩
   have:gr=g:=by simpa [Value.ownBlock] using W
   rw [this]
   exact e
theorem QM.finO {wF:World} (h:QM w0 wr g2 g4 g5 gm c2 kst st t as' vS vN vA ws N) (hk:Ac wr wF (fun k=>k=g4∨k<w0.heap.size)):
  Do wF w0.heap.size (.agg #[vN,vA]) t as':=by
 have G:=h.ge
 have E:=hk.ownsRow h.nxt fun g y e=>by
  rcases e with e | e
  ·exact Aw h.nxt h.b4 (by decide) (by rw [y,e])
  ·have:=Bb h.nxt y; omega
 have C:=hk.ownsRow h.acc fun g y e=>by
  rcases e with e | e
  ·exact Aw h.acc h.b4 (by decide) (by rw [y,e])
  ·have:=Bb h.acc y; omega
 exact⟨vN,vA,ws,rfl,C,E,h.nxtR.imp fun v d z=>⟨hk.ownsRow z.1 fun g y e=>by
  rcases e with e | e
  ·exact Aw z.1 h.b4 (by decide) (by rw [y,e])
  ·have:=Bb z.1 y; omega,fun _ _=>trivial⟩⟩
end
end Go.Proofs.YtfcfpoemojjglaaGreatDoor
