/-
  Part PH of a proof.
-/
import Derived.Shelf.LaysM
import Derived.Shelf.Sort.Plain
import Derived.Ground.NamesProg
import Derived.Ground.Names2Prog
import Derived.Shelf.Slices.Equal
import Derived.Shelf.Slices.Turned
import Derived.Shelf.Slices.Empties2
import Derived.Test.YtlakpndhhelliaaGreatDoorProg
import Derived.Test.YtlakpndhhelliaaGreatDoorPA
import Derived.Test.YtlakpndhhelliaaGreatDoorPG
set_option maxHeartbeats 16000000
set_option maxRecDepth 100000
set_option linter.unusedVariables false
set_option linter.unusedSimpArgs false
namespace Go.Proofs
open Go.Shelf
def Tryz.lays108_ren:Go.Shelf.Ren:=⟨fun | 108=>51 | n=>n,fun | 28=>24 | 3=>3 | 0=>0 | 4=>4 | n=>n,fun | n=>n⟩
theorem Tryz.lays108:Go.Proofs.Lays.n108 Tryz.prog Tryz.lays108_ren:={
 mixed:=by kernel_rfl
 f108:=Tryz.func51.trans (congrArg some (by kernel_rfl))
 t0:=Tryz.underlying0
 a0:=Tryz.isAgg0
 z0:=Tryz.sizeOf0
 v0:=Tryz.zeroValue0
 t3:=Tryz.underlying3
 a3:=Tryz.isAgg3
 z3:=Tryz.sizeOf3
 v3:=Tryz.zeroValue3
 t4:=Tryz.underlying4
 a4:=Tryz.isAgg4
 z4:=Tryz.sizeOf4
 v4:=Tryz.zeroValue4
 t28:=Tryz.underlying24
 a28:=Tryz.isAgg24
 z28:=Tryz.sizeOf24
 v28:=Tryz.zeroValue24 }
open Go.Lib in
theorem Tryz.slices_Index_int (b h n c:Nat) (f:List Int) (x:Int) (w:World) (y:n≤f.length) (z:n≤9223372036854775807) (C:∀j,j<f.length→w.cell? ⟨b,h+j,none⟩=some (.int .i64 (f.getD j 0))):
  Calls Tryz.prog 51 #[.slice (some ⟨b,h,none⟩) n c,.int .i64 x] w fun e w'=>e=.returned (.int .i64 (Lib.idxOf (f.take n) x))∧w'=w:=Any.slices_Index_int Tryz.lays108 b h n c f x w y z C
open Go.Lib in
theorem Tryz.slices_Index_int_empty (a:Option Addr) (c:Nat) (x:Int) (w:World):
  Calls Tryz.prog 51 #[.slice a 0 c,.int .i64 x] w fun e w'=>e=.returned (.int .i64 (Lib.idxOf [] x))∧w'=w:=Any.slices_Index_int_empty Tryz.lays108 a c x w
def Tryz.lays107_ren:Go.Shelf.Ren:=⟨fun | 107=>25 | 108=>51 | n=>n,fun | 28=>24 | 3=>3 | 4=>4 | 0=>0 | n=>n,fun | n=>n⟩
theorem Tryz.lays107:Go.Proofs.Lays.n107 Tryz.prog Tryz.lays107_ren:={
 mixed:=by kernel_rfl
 f107:=Tryz.func25.trans (congrArg some (by kernel_rfl))
 f108:=Tryz.func51.trans (congrArg some (by kernel_rfl))
 t0:=Tryz.underlying0
 a0:=Tryz.isAgg0
 z0:=Tryz.sizeOf0
 v0:=Tryz.zeroValue0
 t3:=Tryz.underlying3
 a3:=Tryz.isAgg3
 z3:=Tryz.sizeOf3
 v3:=Tryz.zeroValue3
 t4:=Tryz.underlying4
 a4:=Tryz.isAgg4
 z4:=Tryz.sizeOf4
 v4:=Tryz.zeroValue4
 t28:=Tryz.underlying24
 a28:=Tryz.isAgg24
 z28:=Tryz.sizeOf24
 v28:=Tryz.zeroValue24 }
open Go.Lib in
theorem Tryz.slices_Contains_int (b h n c:Nat) (f:List Int) (x:Int) (w:World) (y:n≤f.length) (z:n≤9223372036854775807) (C:∀j,j<f.length→w.cell? ⟨b,h+j,none⟩=some (.int .i64 (f.getD j 0))):
  Calls Tryz.prog 25 #[.slice (some ⟨b,h,none⟩) n c,.int .i64 x] w fun e w'=>e=.returned (.bool ((f.take n).contains x))∧w'=w:=Any.slices_Contains_int Tryz.lays107 b h n c f x w y z C
open Go.Lib in
theorem Tryz.slices_Contains_int_empty (a:Option Addr) (c:Nat) (x:Int) (w:World):
  Calls Tryz.prog 25 #[.slice a 0 c,.int .i64 x] w fun e w'=>e=.returned (.bool false)∧w'=w:=Any.slices_Contains_int_empty Tryz.lays107 a c x w
end Go.Proofs
namespace Go.Proofs.YtlakpndhhelliaaGreatDoor
open Go.RowKit
set_option maxHeartbeats 16000000
set_option maxRecDepth 100000
section
variable {S:Type} [DecidableEq S]
def dd (l:List S):List S:=l.foldl Br []
theorem Ek (l:List S) (a:S):dd (l++[a])=Br (dd l) a:=by simp [dd,List.foldl_append]
theorem O6 {l:List S} {a b:S}:a∈Br l b↔a∈l∨a=b:=by
 unfold Br
 split
 ·constructor
  ·exact .inl
  ·rintro(h | rfl)
   ·exact h
   ·assumption
 ·simp
theorem Kp {l:List S} (h:l.Nodup) (a:S):(Br l a).Nodup:=by
 unfold Br
 split
 ·exact h
 ·rename_i hn
  exact List.nodup_append.2 ⟨h,by simp,fun x z y f e=>hn (by rw [List.mem_singleton] at f; rw [←f,←e]; exact z)⟩
theorem M0 (p:List S→Prop) (f:p []) (y:∀l a,p l→p (Br l a)) (l:List S):p (dd l):=by
 have:∀(l k:List S),p k→p (l.foldl Br k):=by
  intro l
  induction l with
  | nil=>exact fun _ h=>h
  | cons a l ih=>exact fun k h=>ih _ (y _ _ h)
 exact this l [] f
theorem Oq (l:List S):(dd l).Nodup:=M0 List.Nodup List.nodup_nil (fun _ a h=>Kp h a) l
theorem Fm {l:List S} {a:S}:a∈dd l↔a∈l:=by
 have:∀(l k:List S),a∈l.foldl Br k↔a∈k∨a∈l:=by
  intro l
  induction l with
  | nil=>simp
  | cons b l ih=>
   intro k
   rw [List.foldl_cons,ih,O6,List.mem_cons,or_assoc]
 exact(this l []).trans (by simp)
theorem HQ {l:List S} {a:S} (h:a∈l):AD l a<l.length:=List.idxOf_lt_length_of_mem h
theorem Hy {l:List S} {a:S} (h:a∈l):l[AD l a]?=some a:=Fv h
theorem LR {l:List S} {a b:S} (y:a∈l) (z:b∈l) (h:AD l a=AD l b):a=b:=by
 have f:=Hy y
 rw [h,Hy z] at f
 exact(Option.some.inj f).symm
theorem Nb {l:List S} (h:l.Nodup) {i:Nat} {a:S} (f:l[i]?=some a):AD l a=i:=Ho h f
def BD (l:List S):List Nat:=l.map (AD (dd l))
theorem DC (l:List S):(BD l).length=l.length:=by simp [BD]
theorem Jg (l:List S) (a:S):BD (l++[a])=BD l++[AD (Br (dd l) a) a]:=by
 unfold BD
 rw [List.map_append,Ek]
 congr 1
 exact List.map_congr_left fun x f=>EE (Fg _ _) (Fm.2 f)
theorem HI {l:List S} {i:Nat} {a:S} (h:l[i]?=some a):(BD l).getD i 0=AD (dd l) a:=getD_some (Bq h)
theorem Pt {l:List S} {i j:Nat} {a b:S} (f:l[i]?=some a) (y:l[j]?=some b):(BD l).getD i 0=(BD l).getD j 0↔a=b:=by
 rw [HI f,HI y]
 exact⟨LR (Fm.2 (List.mem_of_getElem? f)) (Fm.2 (List.mem_of_getElem? y)),fun h=>by rw [h]⟩
theorem L5 {l:List S} {v:Nat}:v∈BD l↔v<(dd l).length:=by
 unfold BD
 rw [List.mem_map]
 constructor
 ·rintro⟨a,f,rfl⟩
  exact HQ (Fm.2 f)
 ·intro h
  obtain⟨a,f⟩:=Ay h
  exact⟨a,Fm.1 (List.mem_of_getElem? f),Nb (Oq l) f⟩
theorem RG (l:List S):(dd l).length≤l.length:=by
 have:∀(l k:List S),(l.foldl Br k).length≤k.length+l.length:=by
  intro l
  induction l with
  | nil=>simp
  | cons b l ih=>
   intro k
   have f:=ih (Br k b)
   have h:(Br k b).length≤k.length+1:=by unfold Br; split <;> simp
   rw [List.foldl_cons,List.length_cons]
   omega
 exact Nat.le_trans (this l []) (by simp)
theorem BN.of_keys {L n r:Nat} {nx:Nat→Nat→Nat} {acc:Nat→Bool} {f:List S} (E:f.length=n) (h:∀i j x y,f[i]?=some x→f[j]?=some y→(x=y↔EqW L nx acc r i j)):BN L n nx acc r (BD f) (dd f).length:=by
 refine⟨by rw [DC,E],fun i j F G=>?_,fun v=>L5⟩
 obtain⟨x,z⟩:=Ay (l:=f) (i:=i) (by omega)
 obtain⟨y,C⟩:=Ay (l:=f) (i:=j) (by omega)
 rw [Pt z C]
 exact h i j x y z C
end
theorem Pm (L:Nat) (nx:Nat→Nat→Nat) (ac:List Bool):BN L ac.length nx (dac ac) 0 (BD ac) (dd ac).length:=by
 refine BN.of_keys rfl fun i j x y f h=>?_
 show x=y↔dac ac i=dac ac j
 unfold dac
 rw [getD_some f,getD_some h]
def DX (L:Nat) (nx:Nat→Nat→Nat) (cl:List Nat) (q:Nat):List Nat:=cl.getD q 0::(List.range L).map fun x=>cl.getD (nx q x) 0
theorem Ld {L n r cnt:Nat} {nx:Nat→Nat→Nat} {acc:Nat→Bool} {cl:List Nat} (G:∀q x,q<n→x<L→nx q x<n) (h:BN L n nx acc r cl cnt):BN L n nx acc (r+1) (BD ((List.range n).map (DX L nx cl))) (dd ((List.range n).map (DX L nx cl))).length:=by
 refine BN.of_keys (by simp) fun i j x y f C=>?_
 have E:i<n:=by simpa using AO f
 have F:j<n:=by simpa using AO C
 rw [Bq (List.getElem?_range E)] at f
 rw [Bq (List.getElem?_range F)] at C
 have ex:=Option.some.inj f
 have J:=Option.some.inj C
 subst ex J
 unfold DX
 rw [List.cons.injEq,h.iff i j E F]
 show _↔EqW L nx acc r i j∧∀z,z<L→EqW L nx acc r (nx i z) (nx j z)
 refine and_congr_right fun _=>?_
 rw [List.map_inj_left]
 simp only [List.mem_range]
 exact forall_congr' fun z=>forall_congr' fun I=>h.iff _ _ (G i z E I) (G j z F I)
def DK (n:Nat):Value:=.int .i64 (n:Int)
def B8 (L:Nat) (row:List Nat):Array Value:=(row.map DK++List.replicate (L - row.length) (Value.int .i64 0)).toArray
theorem J6 {L:Nat} {row:List Nat} (h:row.length<L) (e:Nat):(B8 L row).setIfInBounds row.length (.int .i64 e)=B8 L (row++[e]):=by
 have f:List.replicate (L - row.length) (Value.int .i64 0)=.int .i64 0::List.replicate (L - (row.length+1)) (.int .i64 0):=by
  rw [←List.replicate_succ]; congr 1; omega
 unfold B8
 rw [f]
 simp [DK]
theorem IV {L:Nat} {row:List Nat} (h:row.length<L):(B8 L row)[row.length]?=some (.int .i64 0):=by
 unfold B8
 simp
 rw [List.getElem?_append_right (by simp),List.getElem?_replicate]
 simp; omega
theorem Jv (L:Nat):Array.replicate L (Value.int .i64 0)=B8 L []:=by
 apply Array.ext'
 simp [B8]
theorem PF {w:World} {base g L:Nat} {row:List Nat} (h:Blk w g 3 (B8 L row)) (f:row.length=L) (y:base≤g) (z:L≤4000000):w.ownsRow base 3 1 (.slice (some ⟨g,0,none⟩) L L) L ((Aj row).map (Value.int .i64)):=by
 have C:=EK (n:=L) h y (by simp [B8]; omega) z
 have E:(B8 L row).toList=(Aj row).map (Value.int .i64):=by simp [B8,f,Aj,DK]
 rwa [E] at C
theorem JR {w:World} {g L:Nat} {row:List Nat} (h:Blk w g 3 (B8 L row)) (f:row.length=L) (y:L≤4000000):Sl w w.heap.size 1 Ai (some ⟨g,0,none⟩) (Aj row):=by
 have z:=PF (base:=0) h f (Nat.zero_le _) y
 obtain⟨A,c,e,hS⟩:=C2 z (by simp [Aj,f]) (Nat.le_refl _) (by omega)
 injection e with C E F
 subst C
 exact hS
theorem Ed {w:World} {B:Nat} {A:Option Addr} {l:List Nat} (h:Sl w B 1 Ai A (Aj l)) {i x:Nat} (y:l[i]?=some x):∃b f,A=some ⟨b,f,none⟩∧b<B∧w.cell? ⟨b,f+i,none⟩=some (.int .i64 (x:Int)):=by
 obtain⟨b,f,e,C,E⟩:=h.2 (by
  intro e
  have:=AO y
  have z:(Aj l).length=l.length:=by simp [Aj]
  rw [e] at z
  simp at z
  omega)
 have:=E i (x:Int) (Bq y) 0 (by omega)
 exact⟨b,f,e,C,by simpa [Ai] using this⟩
theorem Gd {w:World} {B:Nat} {A:Option Addr} {l:List Bool} (h:Sl w B 1 Dh A l) {i:Nat} {x:Bool} (y:l[i]?=some x):∃b f,A=some ⟨b,f,none⟩∧b<B∧w.cell? ⟨b,f+i,none⟩=some (.bool x):=by
 obtain⟨b,f,e,z,C⟩:=h.2 (by
  intro e
  have:=AO y
  rw [e] at this
  simp at this)
 have:=C i x y 0 (by omega)
 exact⟨b,f,e,z,by simpa [Dh] using this⟩
theorem Ru (s:Bool) (es:List MapEntry):∀(l:List Bool) (i:Nat),es.map (·.key)=l.map Value.bool→
  Instr.findNow .bool (.bool s) es i=some (if s∈l then some (i+l.idxOf s,((es[l.idxOf s]?).map (·.val)).getD .nilFunc) else none):=by
 induction es with
 | nil=>
  intro l i h
  have:l=[]:=by cases l <;> simp_all
  subst this
  simp [Instr.findNow]
 | cons e es ih=>
  intro l i h
  cases l with
  | nil=>simp at h
  | cons t l=>
   simp only [List.map_cons,List.cons.injEq] at h
   obtain⟨z,C⟩:=h
   unfold Instr.findNow
   rw [z]
   simp only [Instr.sameNow]
   by_cases f:s=t
   ·subst f
    simp
   ·have E:(s==t)=false:=by simpa using f
    rw [E]
    dsimp only
    rw [ih l (i+1) C]
    have F:(t::l).idxOf s=l.idxOf s+1:=by
     rw [List.idxOf_cons]
     have:(t==s)=false:=by simpa using fun e=>f e.symm
     rw [this]; rfl
    by_cases y:s∈l
    ·simp only [y,F,List.mem_cons,or_true,if_true,List.getElem?_cons_succ,Option.some.injEq,Prod.mk.injEq,and_true]; omega
    ·simp [y,f]
theorem Gb:DV Tryz.prog 4 Value.bool where
 check:=fun f w s=>by
  rw [show(10000:Nat)=9999+1 from rfl]
  unfold Instr.checkKey
  simp [run_underlying Tryz.underlying4]
 find:=fun w s es l h=>by
  unfold Instr.findKey
  simp only [Sem.run_bind,run_underlying Tryz.underlying4,Result.andThen_ok]
  rw [Ru s es l 0 h]
  simp
theorem Ji {S:Type} [DecidableEq S] {P:Program} {K:TypeId} {enc:S→Value} (hk:DV P K enc) {T E:TypeId} (y:P.underlying T=some (.map K E)) {w:World} {g:Nat} {l:List S}
  (h:Bt w g (l.map enc)) {s:S} (f:s∈l):
  (Instr.lookup T (.map (some g)) (enc s) false).run P w=.ok (.int .i64 (AD l s:Int)) w:=by
 obtain⟨es,z,C,F,G⟩:=h
 have I:(getObj g).run P w=.ok (.map es z) w:=by simp [getObj,Sem.run,C]
 have J:=hk.find w s es.toList l F
 unfold Instr.lookup
 simp only [Sem.run_bind,run_underlying y,Result.andThen_ok,I,Sem.run_pure,hk.check,J]
 simp only [f,if_true]
 rw [I2 G (by rw [List.length_map]; exact List.idxOf_lt_length_of_mem f)]
 rfl
theorem Gi {P:Program} {T K E ty:TypeId} (y:P.underlying T=some (.map K E)) {w:World} {g:Nat} {f:List Value} (h:Bt w g f):
  (Builtin.len_ #[T] ty #[.map (some g)]).run P w=.ok (.int .i64 (f.length:Int)) w:=by
 obtain⟨es,z,C,F,J⟩:=h
 have G:(getObj g).run P w=.ok (.map es z) w:=by simp [getObj,Sem.run,C]
 have I:es.size=f.length:=by rw [←F]; simp
 simp [Builtin.len_,run_underlying y,G,goInt,I]
theorem Hw {S:Type} [DecidableEq S] {enc:S→Value} {w:World} {gm gr n k:Nat} {l:List S} {a:S} {d:List S} (hd:dd (l++[a])=d) (f:Bt w gm (d.map enc)) (h:Blk w gr 3 (B8 n (BD l))) (hk:l.length=k) (F:k<n):
  Bt (w.setCell ⟨gr,k,none⟩ (.int .i64 (AD d a:Int))) gm ((dd (l++[a])).map enc)∧Blk (w.setCell ⟨gr,k,none⟩ (.int .i64 (AD d a:Int))) gr 3 (B8 n (BD (l++[a])))∧Ae w (w.setCell ⟨gr,k,none⟩ (.int .i64 (AD d a:Int))) (fun b=>b=gr):=by
 have y:=(Ae.refl w (fun b=>b=gr)).setCell (p:=⟨gr,k,none⟩) (fun _=>rfl) (.int .i64 (AD d a:Int))
 refine⟨?_,?_,y⟩
 ·rw [hd]
  exact f.kept y fun e=>BL h f e.symm
 ·have z:=h.set_ k (.int .i64 (AD d a:Int))
  have C:(BD l).length=k:=by rw [DC,hk]
  have E:AD (Br (dd l) a) a=AD d a:=by rw [←hd,Ek]
  rw [Jg,E,←J6 (by omega),C]
  exact z
theorem QR {w:World} {v:Value} {t:List (List Nat)} {ac:List Bool} (h:BG w w.heap.size v t ac) (hl:ac.length≤250000):
  Calls Tryz.prog 62 #[v] w (Ret fun r w'=>Below w.heap.size w w'∧∃A c,r=.tuple #[.slice A ac.length c,.int .i64 ((dd ac).length:Int)]∧Sl w' w'.heap.size 1 Ai A (Aj (BD ac))):=by
 obtain⟨A1,c1,A2,c2,rfl,h1,h2⟩:=h
 obtain⟨w1,aw,Z,ag,ax⟩:=Ag w #[.slice A1 t.length c1,.slice A2 ac.length c2] 56
 obtain⟨gr,w2,ay,a2,V,az⟩:=Fp w1 ac.length (by omega)
 obtain⟨gm,w3,aR,ah,W,aA⟩:=FP 145 w2
 rw [Jv] at a2
 have aB:=ag.cell
 have aC:=((ag.below V).below W).cell
 have aD:=Z.size
 have aS:=V.size
 have aE:Below w.heap.size w w3:=Z.trans ((V.mono aD).trans (W.mono (by omega)))
 have aF:=hide (show Bt w3 gm ((dd (ac.take 0)).map Value.bool) from ah)
 have ai:=hide (show Blk w3 gr 3 (B8 ac.length (BD (ac.take 0))) from a2.below W)
 obtain⟨n,hn⟩:∃n,n=ac.length:=⟨_,rfl⟩
 have aj:=hide hn
 have aT:n≤250000:=by omega
 have aG:=hide h2
 rw [←hn] at ay aB aC aw ai ⊢
 have aU:w.heap.size≤gr:=by omega
 have aV:w.heap.size≤gm:=by omega
 clear ah a2 ax h1 h2 hn az aA Z V W
 go_enter Tryz.func62,Tryz.ntmps62
 go_wp2_with fail
 go_loopw [18] (fun ii wr=>∃k:Nat,ii=.int .i64 (k:Int)∧k≤n∧Below w.heap.size w wr∧Hid (Bt wr gm ((dd (ac.take k)).map Value.bool))∧Hid (Blk wr gr 3 (B8 n (BD (ac.take k))))) (fun ii _=>n - (intOf ii).toNat)
 case atStart=>exact⟨0,rfl,Nat.zero_le _,aE,aF,ai⟩
 case round=>
  obtain⟨k,rfl,hk,G,hM,hR⟩:=hrel
  by_cases a7:k<n
  ·have J:=aj.out
   obtain⟨b,C⟩:=Ay (l:=ac) (i:=k) (by omega)
   obtain⟨blk,aH,rfl,aJ,a8⟩:=Gd aG.out C
   have aW:wr.cell? ⟨blk,aH+k,none⟩=some (.bool b):=(G.cell aJ).trans a8
   have al:=hide (CF C)
   have I:(ac.take k).length=k:=by rw [List.length_take]; omega
   have am:((dd (ac.take k)).map Value.bool).length=(dd (ac.take k)).length:=by simp
   have y:=hM.out
   have f:=hR.out
   have an:=Fs Gb Tryz.underlying145 EQ y b
   have aK:wr.cell? ⟨gr,k,none⟩=some (.int .i64 0):=by
    rw [f.cell]
    have:=IV (L:=n) (row:=BD (ac.take k)) (by rw [DC,I]; exact a7)
    rwa [DC,I] at this
   have aX:=f.frozen k
   have aY:=f.lt
   by_cases z:b∈dd (ac.take k)
   ·have M:dd (ac.take k++[b])=dd (ac.take k):=by rw [Ek]; exact Gf z
    have aL:=Ji Gb Tryz.underlying145 y z
    simp only [z,if_true,decide_true] at an
    obtain⟨E,F,O⟩:=Hw M y f I a7
    rw [←al.out] at E F
    have a9:=hide E
    have aa:=hide F
    have ab:=G.trans (O.below G.size fun b C e=>by omega)
    clear E F z y f M C a8 J I am O
    go_wp2_with fail
    exact⟨⟨k+1,by go_num,by omega,ab,a9,aa⟩,by simp [intOf]; omega⟩
   ·have M:dd (ac.take k++[b])=dd (ac.take k)++[b]:=by rw [Ek]; exact FX z
    simp only [z,if_false,decide_false] at an
    obtain⟨w4,aZ,ad,ao,aN⟩:=Fd Gb Tryz.underlying145 y b z
    have aO:∀ty,(Builtin.len_ #[145] ty #[.map (some gm)]).run Tryz.prog wr=.ok (.int .i64 ((dd (ac.take k)).length:Int)) wr:=fun ty=>by
     have:=Gi (ty:=ty) Tryz.underlying145 y
     simpa using this
    have ae:=Ae.of_grown ao
    have U:=f.kept ae (fun e=>BL f y (Option.some.inj e).symm)
    have aL:=Ji Gb Tryz.underlying145 ad (s:=b) (by simp)
    have b0:w4.cell? ⟨gr,k,none⟩=some (.int .i64 0):=by rw [U.cell,←f.cell,aK]
    have b1:=U.frozen k
    have b2:=U.lt
    obtain⟨E,F,O⟩:=Hw M ad U I a7
    rw [←al.out] at E F
    have a9:=hide E
    have aa:=hide F
    have ap:=G.trans (ae.below G.size fun b C e=>by have:=Option.some.inj e; omega)
    have ab:=ap.trans (O.below ap.size fun b C e=>by omega)
    clear E F z y f M C a8 J I am ad ao aN ae U O
    go_wp2_with fail
    exact⟨⟨k+1,by go_num,by omega,ab,a9,aa⟩,by simp [intOf]; omega⟩
  ·obtain rfl:k=n:=by omega
   have y:=hM.out
   have f:=hR.out
   have aO:∀ty,(Builtin.len_ #[145] ty #[.map (some gm)]).run Tryz.prog wr=.ok (.int .i64 ((dd (ac.take k)).length:Int)) wr:=fun ty=>by
    have:=Gi (ty:=ty) Tryz.underlying145 y
    simpa using this
   clear y f
   go_wp2_with fail
   go_ret2
   have J:=aj.out
   have aP:ac.take k=ac:=by rw [J,List.take_length]
   have f:=hR.out
   rw [aP] at f ⊢
   exact⟨G,_,_,rfl,JR f (by rw [DC,J]) (by omega)⟩
end Go.Proofs.YtlakpndhhelliaaGreatDoor
namespace Go.Proofs.YtlakpndhhelliaaGreatDoor
open Go.RowKit
set_option maxHeartbeats 16000000
set_option maxRecDepth 100000
theorem IY {S:Type} [DecidableEq S] {enc:S→Value} {w:World} {gm gr n k:Nat} {l:List S} {a:S} {d:List S} {u:Value} (hd:dd (l++[a])=d) (f:Bt w gm (d.map enc)) (h:Blk w gr 3 ((B8 n (BD l)).setIfInBounds k u)) (hk:l.length=k) (F:k<n):
  Bt (w.setCell ⟨gr,k,none⟩ (.int .i64 (AD d a:Int))) gm ((dd (l++[a])).map enc)∧Blk (w.setCell ⟨gr,k,none⟩ (.int .i64 (AD d a:Int))) gr 3 (B8 n (BD (l++[a])))∧Ae w (w.setCell ⟨gr,k,none⟩ (.int .i64 (AD d a:Int))) (fun b=>b=gr):=by
 have y:=(Ae.refl w (fun b=>b=gr)).setCell (p:=⟨gr,k,none⟩) (fun _=>rfl) (.int .i64 (AD d a:Int))
 refine⟨?_,?_,y⟩
 ·rw [hd]
  exact f.kept y fun e=>BL h f e.symm
 ·have z:=h.set_ k (.int .i64 (AD d a:Int))
  have C:(BD l).length=k:=by rw [DC,hk]
  have E:AD (Br (dd l) a) a=AD d a:=by rw [←hd,Ek]
  rw [Array.setIfInBounds_setIfInBounds] at z
  rw [Jg,E,←J6 (by omega),C]
  exact z
theorem Hh {w:World} {B:Nat} {A:Option Addr} {L:Nat} {t:List (List Nat)} {ac:List Bool} (h:VSl R1n w B A t) (C:DOK L t ac) {q:Nat} (J:q<ac.length):
  ∃b z E M row,A=some ⟨b,z,none⟩∧b<B∧w.cell? ⟨b,z+q,none⟩=some (.slice E L M)∧t[q]?=some row∧row.length=L∧Sl w B 1 Ai E (Aj row)∧(∀x y,row[x]?=some y→y<ac.length∧dnx t q x=y):=by
 obtain⟨row,f⟩:=Ay (l:=t) (i:=q) (by rw [C.len]; exact J)
 obtain⟨F,O⟩:=C.row row (List.mem_of_getElem? f)
 obtain⟨b,z,e,U,V⟩:=h.2 (by intro e; subst e; simp at f)
 obtain⟨v,G,W,Z,rfl,hS⟩:=V q row f
 have e2:(Aj row).length=L:=by simp [Aj,F]
 rw [e2] at G
 refine⟨b,z,W,Z,row,e,U,G,f,F,hS,fun x y I=>⟨O y (List.mem_of_getElem? I),?_⟩⟩
 unfold dnx
 rw [getD_some f,getD_some I]
theorem Gp {w:World} {B b f:Nat} {l:List Nat} (h:Sl w B 1 Ai (some ⟨b,f,none⟩) (Aj l)) {i x:Nat} (y:l[i]?=some x):b<B∧w.cell? ⟨b,f+i,none⟩=some (.int .i64 (x:Int)):=by
 obtain⟨E,F,e,z,C⟩:=Ed h y
 cases e
 exact⟨z,C⟩
theorem ML {w:World} {base n:Nat} {v:Value} {l:List Nat} (h:w.ownsRow base 3 1 v n ((Aj l).map (Value.int .i64))) (C:l.length=n) (I:0<n) (J:n≤4000000):
  ∃g c,v=.slice (some ⟨g,0,none⟩) n c∧Sl w w.heap.size 1 Ai (some ⟨g,0,none⟩) (Aj l)∧∀j,j<(Aj l).length→w.cell? ⟨g,0+j,none⟩=some (.int .i64 ((Aj l).getD j 0)):=by
 obtain⟨x,E⟩:=Ay (l:=l) (i:=0) (by omega)
 obtain⟨g,c,rfl,-⟩:=EJ h (Bq (f:=Value.int .i64) (Bq (f:=fun x:Nat=>(x:Int)) E))
 obtain⟨A,M,e,hS⟩:=C2 h (by simp [Aj,C]) (Nat.le_refl _) (by omega)
 injection e with F G O
 subst F
 refine⟨g,c,rfl,hS,fun j U=>?_⟩
 have G:(Aj l).length=l.length:=by simp [Aj]
 obtain⟨y,z⟩:=Ay (l:=l) (i:=j) (by omega)
 rw [(Gp hS z).2,show(Aj l).getD j 0=(y:Int) from getD_some (Bq (f:=fun x:Nat=>(x:Int)) z)]
def CW (cl row:List Nat) (q j:Nat):List Nat:=cl.getD q 0::(row.take j).map fun y=>cl.getD y 0
theorem Ro {L:Nat} {t:List (List Nat)} {cl row:List Nat} {q:Nat} (C:row.length=L) (z:∀x y,row[x]?=some y→dnx t q x=y):CW cl row q L=DX L (dnx t) cl q:=by
 unfold CW DX
 congr 1
 apply List.ext_getElem?
 intro i
 rw [List.getElem?_map,List.getElem?_map,List.getElem?_take]
 by_cases f:i<L
 ·obtain⟨y,h⟩:=Ay (l:=row) (i:=i) (by omega)
  rw [if_pos f,h,List.getElem?_range f]
  simp only [Option.map_some]
  rw [z i y h]
 ·rw [if_neg f,List.getElem?_eq_none (by simp; omega)]
  rfl
theorem Kc {cl row:List Nat} {q j:Nat} (f:j≤row.length):(CW cl row q j).length=j+1:=by
 simp [CW]; omega
theorem Pp {cl row:List Nat} {q j y:Nat} (f:row[j]?=some y):CW cl row q (j+1)=CW cl row q j++[cl.getD y 0]:=by
 unfold CW
 rw [CF f]
 simp
theorem FE (l:List Nat) (x:Nat):Aj (l++[x])=Aj l++[(x:Int)]:=by simp [Aj]
theorem Le {w:World} {v:Value} {L c B:Nat} {A:Option Addr} {t:List (List Nat)} {ac:List Bool} {cl:List Nat} (h:BG w w.heap.size v t ac) (ay:DOK L t ac) (b0:Sl w B 1 Ai A (Aj cl)) (hB:B≤w.heap.size) (cL:cl.length=ac.length) (hv:∀x∈cl,x<250000) (hL:L≤8) (hn:ac.length≤250000) (hT:Ca w):
  Calls Tryz.prog 63 #[v,.slice A ac.length c] w (Ret fun r w'=>Below w.heap.size w w'∧∃A' c',r=.tuple #[.slice A' ac.length c',.int .i64 ((dd ((List.range ac.length).map (DX L (dnx t) cl))).length:Int)]∧Sl w' w'.heap.size 1 Ai A' (Aj (BD ((List.range ac.length).map (DX L (dnx t) cl))))):=by
 obtain⟨A1,c1,A2,c2,rfl,h1,h2⟩:=h
 obtain⟨w1,b7,aA,aB,bS⟩:=Ag w #[.slice A1 t.length c1,.slice A2 ac.length c2] 56
 obtain⟨gm,w2,cO,aC,ag,bT⟩:=FP 111 w1
 obtain⟨gr,w3,bU,aE,ah,bV⟩:=Fp w2 ac.length (by omega)
 rw [Jv] at aE
 have bW:=aA.size
 have cQ:=ag.size
 have bX:Below w.heap.size w w3:=aA.trans ((ag.mono bW).trans (ah.mono (by omega)))
 obtain⟨f,ai⟩:∃f,f=(List.range ac.length).map (DX L (dnx t) cl):=⟨_,rfl⟩
 rw [←ai]
 have b8:f.length=ac.length:=by rw [ai]; simp
 have bY:=hide (show Bt w3 gm ((dd (f.take 0)).map C3) from aC.keep (ah.block _ aC.lt))
 have b9:=hide (show Blk w3 gr 3 (B8 ac.length (BD (f.take 0))) from aE)
 have aF:=hide ((aB.below ag).below ah)
 have ba:=ay.len
 rw [ba] at b7 aF ⊢
 obtain⟨n,aG⟩:∃n,n=ac.length:=⟨_,rfl⟩
 have aj:=hide aG
 have cR:n≤250000:=by omega
 have bZ:=hide h1
 have c3:=hide ay
 have bb:=hide b0
 have c4:=hide ai
 have aH:=hide b8
 have c5:=hide hT
 have cS:=aB.lt
 rw [←aG] at bU b7 b9 aF ⊢
 have cT:w.heap.size<gr:=by omega
 have cU:w.heap.size≤gm:=by omega
 clear aC aE bS h1 h2 aG bV bT aA ag ah ay b0 ai hT ba aB hn b8
 go_enter Tryz.func63,Tryz.ntmps63
 go_wp2_with fail
 go_loopw [21] (fun W wr=>∃k:Nat,W=.int .i64 (k:Int)∧k≤n∧Below w.heap.size w wr∧Hid (Blk wr w.heap.size 56 #[.slice A1 n c1,.slice A2 n c2])∧Hid (Bt wr gm ((dd (f.take k)).map C3))∧Hid (Blk wr gr 3 (B8 n (BD (f.take k))))) (fun W _=>n - (intOf W).toNat)
 case atStart=>exact⟨0,rfl,Nat.zero_le _,bX,aF,bY,b9⟩
 case round=>
  obtain⟨k,rfl,hk,aJ,hD,hM,hR⟩:=hrel
  by_cases aK:k<n
  ·have Z:=aj.out
   obtain⟨x,G⟩:=Ay (l:=cl) (i:=k) (by omega)
   obtain⟨bc,oc,rfl,cV,bg⟩:=Ed bb.out G
   have ab:(f.take k).length=k:=by rw [List.length_take,aH.out]; omega
   have aL:=hD.out
   have a6:=hM.out
   have I:=hR.out
   have cW:wr.cell? ⟨gr,k,none⟩=some (.int .i64 0):=by
    rw [I.cell]
    have:=IV (L:=n) (row:=BD (f.take k)) (by rw [DC,ab]; exact aK)
    rwa [DC,ab] at this
   have cX:=I.frozen k
   have cY:=I.lt
   obtain⟨C,bh⟩:∃C,wr.setCell ⟨gr,k,none⟩ (.int .i64 (-1))=C:=⟨_,rfl⟩
   have al:Ae wr C (fun b=>b=gr):=by rw [←bh]; exact(Ae.refl wr (fun b=>b=gr)).setCell (p:=⟨gr,k,none⟩) (fun _=>rfl) _
   have bi:Blk C gr 3 ((B8 n (BD (f.take k))).setIfInBounds k (.int .i64 (-1))):=by rw [←bh]; exact I.set_ k _
   have bj:=a6.kept al fun e=>BL I a6 e.symm
   have am:=aL.kept al (aL.ne_ I (by decide))
   have a7:=aJ.trans (al.below aJ.size fun b hb e=>by omega)
   obtain⟨bn,on,Ar,cr,row,rfl,ca,bk,cb,bl,bm,bo⟩:=Hh bZ.out c3.out (q:=k) (by omega)
   have cZ:C.cell? ⟨bc,oc+k,none⟩=some (.int .i64 (x:Int)):=(a7.cell (by show bc<_; omega)).trans bg
   have d0:=am.cell
   obtain⟨w5,d1,ad,bq,cc⟩:=Ag C #[.int .i64 (x:Int)] 3
   have bs:=a7.trans (ad.mono a7.size)
   have d2:w5.cell? ⟨bn,on+k,none⟩=some (.slice Ar L cr):=(bs.cell ca).trans bk
   have d3:=(am.below ad).cell
   have bt:=a7.size
   have d4:=ad.size
   have d5:=hv x (List.mem_of_getElem? G)
   have cd:=hide bi
   have bu:=hide bj
   have aM:=hide am
   have bv:=hide a7
   have d6:=hide G
   have ce:=hide bm
   have bw:=hide bo
   have aN:=hide bl
   have cf:=hide (show w5.ownsRow C.heap.size 3 1 (.slice (some ⟨C.heap.size,0,none⟩) (0+1) 1) (0+1) ((Aj (CW cl row k 0)).map (Value.int .i64)) from by
    have:=EK (base:=C.heap.size) (n:=1) bq (Nat.le_refl _) rfl (by omega)
    have e:Aj (CW cl row k 0)=[(x:Int)]:=by simp [CW,Aj,G]
    rw [e]
    exact this)
   have cg:=hide ad
   clear bi bj am G bm bo a6 I aL bg bk cb al Z bq cc bl bs ad a7
   have ch:¬n≤k:=by omega
   have ci:¬(x:Int)<0:=by omega
   go_wp2_with fail
   clear ch ci
   go_loopw [9,50] (fun vv W wz=>∃(j a2 g:Nat),vv=.slice (some ⟨g,0,none⟩) (j+1) a2∧W=.int .i64 (j:Int)∧j≤L∧Below C.heap.size C wz∧Hid (wz.ownsRow C.heap.size 3 1 (.slice (some ⟨g,0,none⟩) (j+1) a2) (j+1) ((Aj (CW cl row k j)).map (Value.int .i64)))) (fun _ W _=>L - (intOf W).toNat)
   case atStart=>exact⟨0,1,C.heap.size,rfl,rfl,Nat.zero_le _,cg.out,cf⟩
   case round=>
    obtain⟨j,a2,g,rfl,rfl,hj,F,hO⟩:=hrel
    by_cases ck:j<L
    ·obtain⟨y,hy⟩:=Ay (l:=row) (i:=j) (by rw [aN.out]; exact ck)
     obtain⟨br,cn,rfl,co,bz⟩:=Ed ce.out hy
     have cp:=(bw.out j y hy).1
     obtain⟨z,hz⟩:=Ay (l:=cl) (i:=y) (by omega)
     obtain⟨cq,bA⟩:=Gp bb.out hz
     have a3:=bv.out.trans (F.mono bt)
     have d8:wr.cell? ⟨br,cn+j,none⟩=some (.int .i64 (y:Int)):=(a3.cell co).trans bz
     have d9:wr.cell? ⟨bc,oc+y,none⟩=some (.int .i64 (z:Int)):=(a3.cell (by show bc<_; omega)).trans bA
     have da:y<n:=by rw [aj.out]; exact cp
     have ct:=hide (Pp (cl:=cl) (q:=k) hy)
     have cu:=hide (getD_some (d:=0) hz)
     have aO:=F.size
     have bB:=hO
     clear hy hz bz bA hO cq a3
     go_wp2_with (at_builtin; refine CO DS rfl _ _ rfl C.heap.size (.slice (some ⟨g,0,none⟩) (j+1) a2) (j+1) _ rfl bB.out [.int .i64 (z:Int)] 1 rfl rfl (by simp [Value.oneCell']) (by omega) aO ?_; intro g' bD w6 cw cx db dc)
     have cy:w6.ownsRow C.heap.size 3 1 (.slice (some ⟨g',0,none⟩) (j+1+1) bD) (j+1+1) ((Aj (CW cl row k (j+1))).map (Value.int .i64)):=by
      rw [ct.out,FE,List.map_append,cu.out]
      exact cw
     exact⟨⟨j+1,bD,g',rfl,by go_num,by omega,F.trans (cx.below aO fun b hb e=>by have:=Bm bB.out e; omega),hide cy⟩,by simp [intOf]; omega⟩
    ·obtain rfl:j=L:=by omega
     have aP:=Ro (t:=t) (cl:=cl) (q:=k) aN.out fun x y hh=>(bw.out x y hh).2
     have aq:(CW cl row k j).length=j+1:=Kc (by rw [aN.out]; exact Nat.le_refl _)
     obtain⟨E,aR⟩:∃E,E=CW cl row k j:=⟨_,rfl⟩
     have aS:=hO.out
     rw [←aR] at aP aq aS
     obtain⟨g0,c0,e0,bE,bF⟩:=ML aS aq (by omega) (by omega)
     injection e0 with e1 _ e3
     injection e1 with e1
     injection e1 with e1
     subst e1 e3
     have Z:(Aj E).length=j+1:=by simp [Aj,aq]
     have a3:=bv.out.trans (F.mono bt)
     have cB:Calls Tryz.prog 25 #[.slice (some ⟨g,0,none⟩) (j+1) a2,.int .i64 (-1)] wr fun e w'=>e=.returned (.bool false)∧w'=wr:=by
      have h1:=Tryz.slices_Contains_int g 0 (j+1) a2 (Aj E) (-1) wr (by omega) (by omega) bF
      have h2:((Aj E).take (j+1)).contains (-1)=false:=by
       rw [Bool.eq_false_iff]
       intro hh
       have:=List.mem_of_mem_take (List.contains_iff_mem.1 hh)
       obtain⟨q,_,hq⟩:=List.mem_map.1 this
       omega
      rw [h2] at h1
      exact h1
     have bG:∀x∈E,x<1000000000:=by
      intro x G
      rw [aR] at G
      have hz:∀q,cl.getD q 0<250000:=fun q=>by
       rcases Nat.lt_or_ge q cl.length with hq | hq
       ·obtain⟨v,bH⟩:=Ay hq
        rw [getD_some bH]
        exact hv v (List.mem_of_getElem? bH)
       ·rw [List.getD_eq_getElem?_getD,List.getElem?_eq_none hq]; simp
      unfold CW at G
      rcases List.mem_cons.1 G with rfl | G
      ·have:=hz k; omega
      ·obtain⟨q,_,rfl⟩:=List.mem_map.1 G
       have:=hz q; omega
     have bI:=HB (c:=a2) bE (Nat.le_refl _) bG (by omega) (c5.out.below a3)
     rw [Z] at bI
     have bJ:f.take (k+1)=f.take k++[E]:=by
      refine CF ?_
      rw [c4.out,aP]
      exact Bq (List.getElem?_range (by have:=aj.out; omega))
     have bK:=hide bJ
     have au:=bu.out.keep (F.block _ bu.out.lt)
     have aT:=cd.out.below F
     have bL:=hide a3
     have aO:=F.size
     clear aP aq aS bE bF Z a3 bG bJ hO aR
     go_wp2_with fail
     refine cB.mono ?_
     rintro e w' ⟨rfl,rfl⟩
     go_wp2_with fail
     refine Calls.ret bI ?_
     rintro v w7 ⟨rfl,O⟩
     have U:=au.keep (O.block _ au.lt)
     have J:=aT.below O
     have bM:=Fs Fe Tryz.underlying111 EQ U E
     have cD:w7.cell? ⟨gr,k,none⟩=some (.int .i64 (-1)):=by
      rw [J.cell,Array.getElem?_setIfInBounds]
      rw [if_pos rfl,if_pos (by simp [B8,DC,ab]; omega)]
     have dg:=J.frozen k
     have dh:=J.lt
     have av:=bL.out.trans (O.mono bL.out.size)
     by_cases M:E∈dd (f.take k)
     ·have af:dd (f.take k++[E])=dd (f.take k):=by rw [Ek]; exact Gf M
      obtain⟨a4,a5,V⟩:=IY af U J ab aK
      rw [←bK.out] at a4 a5
      have aV:=hide a4
      have aW:=hide a5
      have aX:=av.trans (V.below av.size fun b hb e=>by omega)
      have aw:=hide ((((aM.out.below F).below O)).kept V (((aM.out.below F).below O).ne_ J (by decide)))
      simp only [M,if_true,decide_true,C3,C7] at bM
      clear a4 a5 M U J af V O au aT F
      go_wp2_with fail
      exact⟨⟨k+1,by go_num,by omega,aX,aw,aV,aW⟩,by simp [intOf]; omega⟩
     ·have af:dd (f.take k++[E])=dd (f.take k)++[E]:=by rw [Ek]; exact FX M
      simp only [M,if_false,decide_false,C3,C7] at bM
      obtain⟨w8,cF,bN,bO,cG⟩:=Fd Fe Tryz.underlying111 U E M
      have cH:∀ty,(Builtin.len_ #[111] ty #[.map (some gm)]).run Tryz.prog w7=.ok (.int .i64 ((dd (f.take k)).length:Int)) w7:=fun ty=>by
       have:=Gi (ty:=ty) Tryz.underlying111 U
       simpa using this
      have ax:=Ae.of_grown bO
      have a9:=J.kept ax (fun e=>BL J U (Option.some.inj e).symm)
      have di:w8.cell? ⟨gr,k,none⟩=some (.int .i64 (-1)):=by rw [a9.cell,←J.cell,cD]
      have dj:=a9.frozen k
      have dk:=a9.lt
      have aY:=(aM.out.below F).below O
      have aZ:=aY.kept ax (fun e=>BL aY U (Option.some.inj e).symm)
      obtain⟨a4,a5,V⟩:=IY af bN a9 ab aK
      have aw:=hide (aZ.kept V (aZ.ne_ a9 (by decide)))
      rw [←bK.out,FO M] at a4 a5
      rw [FO M] at V aw
      have aV:=hide a4
      have aW:=hide a5
      have bP:=av.trans (ax.below av.size fun b hb e=>by have:=Option.some.inj e; omega)
      have aX:=bP.trans (V.below bP.size fun b hb e=>by omega)
      simp only [C3,C7] at cF
      clear a4 a5 M U J af bN bO cG ax a9 V aY aZ O au aT F
      go_wp2_with fail
      exact⟨⟨k+1,by go_num,by omega,aX,aw,aV,aW⟩,by simp [intOf]; omega⟩
  ·obtain rfl:k=n:=by omega
   have a6:=hM.out
   have cH:∀ty,(Builtin.len_ #[111] ty #[.map (some gm)]).run Tryz.prog wr=.ok (.int .i64 ((dd (f.take k)).length:Int)) wr:=fun ty=>by
    have:=Gi (ty:=ty) Tryz.underlying111 a6
    simpa using this
   clear a6
   go_wp2_with fail
   go_ret2
   have Z:=aj.out
   have cJ:f.take k=f:=by rw [Z,←aH.out,List.take_length]
   have I:=hR.out
   rw [cJ] at I ⊢
   exact⟨aJ,_,_,rfl,JR I (by rw [DC,Z,aH.out]) (by omega)⟩
end Go.Proofs.YtlakpndhhelliaaGreatDoor
namespace Go.Proofs.YtlakpndhhelliaaGreatDoor
open Go.RowKit
set_option maxHeartbeats 16000000
set_option maxRecDepth 100000
section
variable {S:Type} [DecidableEq S] {L:Nat} {δ:S→Nat→S} {s0:S}
def BC (L:Nat) (δ:S→Nat→S) (all:List S) (i:Nat):List (List Nat):=(all.take i).map fun s=>(List.range L).map fun x=>AD all (δ s x)
theorem Rn {all y:List S} {i:Nat} (h:Exp L δ s0 i all) (z:all<+:y):BC L δ y i=BC L δ all i:=by
 have C:=h.inv.le
 unfold BC
 obtain⟨t,rfl⟩:=z
 rw [List.take_append_of_le_length C]
 refine List.map_congr_left fun s E=>List.map_congr_left fun x F=>?_
 obtain⟨j,f⟩:=List.mem_iff_getElem?.1 E
 rw [List.getElem?_take] at f
 split at f
 ·exact EE (List.prefix_append _ _) (h.inv.closed j s (by assumption) f x (List.mem_range.1 F))
 ·cases f
theorem LJ {all:List S} {i:Nat} {s:S} (f:all[i]?=some s):BC L δ all (i+1)=BC L δ all i++[(List.range L).map fun x=>AD all (δ s x)]:=by
 unfold BC
 rw [CF f,List.map_append]
 rfl
theorem F6 {all:List S} {i:Nat} (f:i≤all.length):(BC L δ all i).length=i:=by simp [BC]; omega
theorem RS {s:S} {all:List S} {x y:Nat} (h:y<x):AD (Bh δ s all (x+1)) (δ s y)=AD (Bh δ s all x) (δ s y):=by
 rw [C8]
 exact EE (Fg _ _) (Gg s all h)
end
def Df (w:World) (base:Nat) (v:Value) (t:List (List Nat)) (ac:List Bool):Prop:=
 ∃(vN vA:Value) (ws:List Value),v=.agg #[vN,vA]∧w.ownsRow base 4 1 vA ac.length (ac.map Value.bool)∧w.ownsRow base 24 1 vN t.length ws∧Ck w base (fun _=>True) ws (t.map Aj)
theorem Df.kept {w w':World} {base base':Nat} {v:Value} {t:List (List Nat)} {ac:List Bool} {X:Nat→Prop} (h:Df w base v t ac) (hk:Ae w w' X) (y:∀g,X g→g<w.heap.size→g<base) (z:base'≤base):Df w' base' v t ac:=by
 obtain⟨vN,vA,ws,e,C,E,J⟩:=h
 refine⟨vN,vA,ws,e,Dz (hk.ownsRow C fun g f e=>?_) z,Dz (hk.ownsRow E fun g f e=>?_) z,J.imp fun v d F=>⟨Dz (hk.ownsRow F.1 fun g f e=>?_) z,fun _ _=>trivial⟩⟩
 ·have G:=Bm C f
  have I:=y g e (Cm C f)
  omega
 ·have G:=Bm E f
  have I:=y g e (Cm E f)
  omega
 ·have G:=Bm F.1 f
  have I:=y g e (Cm F.1 f)
  omega
theorem Df.read {w:World} {base:Nat} {v:Value} {t:List (List Nat)} {ac:List Bool} (h:Df w base v t ac) (y:∀r∈t,r.length≤4000000) (ht:t.length≤4000000) (V:ac.length≤4000000):BG w w.heap.size v t ac:=by
 obtain⟨vN,vA,ws,rfl,z,C,E⟩:=h
 obtain⟨F,G,f,I⟩:=Ck.read E C ht (Nat.le_refl _) (fun d hd=>by
  obtain⟨r,J,rfl⟩:=List.mem_map.1 hd
  have:=y r J
  simpa [Aj] using this)
 obtain⟨M,c2,O,U⟩:=Ja (B:=w.heap.size) z rfl (Nat.le_refl _) (by omega)
 rw [List.length_map] at f
 exact⟨F,G,M,c2,by rw [f,O],J0 I,U⟩
structure QM (w0 wr:World) (g2 g4 g5 gm:Nat) (c2:Array Value) (kst st:List Nat) (t:List (List Nat)) (as':List Bool) (vS vN vA:Value) (ws:List Value) (N:Nat→Prop):Prop where
 below:Below w0.heap.size w0 wr
 b2:Blk wr g2 56 c2
 b4:Blk wr g4 56 #[sn0,sn0]
 b5:Blk wr g5 56 #[vN,vA]
 map:Bt wr gm (kst.map DK)
 sts:wr.ownsRow w0.heap.size 3 1 vS st.length ((Aj st).map (Value.int .i64))
 acc:wr.ownsRow w0.heap.size 4 1 vA as'.length (as'.map Value.bool)
 nxt:wr.ownsRow w0.heap.size 24 1 vN t.length ws
 nxtR:Ck wr w0.heap.size (fun g=>N g∧vS.ownBlock≠some g) ws (t.map Aj)
 ne:g2≠g5∧g4≠g5
 ge:w0.heap.size≤g2∧w0.heap.size≤g4∧w0.heap.size≤g5∧w0.heap.size≤gm
section
variable {w0 wr w':World} {g2 g4 g5 gm:Nat} {c2:Array Value} {kst st:List Nat} {t:List (List Nat)} {as':List Bool} {vS vN vA:Value} {ws:List Value} {N:Nat→Prop}
theorem QM.keep (h:QM w0 wr g2 g4 g5 gm c2 kst st t as' vS vN vA ws N) (f:Below wr.heap.size wr w'):QM w0 w' g2 g4 g5 gm c2 kst st t as' vS vN vA ws N:=
 ⟨h.below.trans (f.mono h.below.size),h.b2.below f,h.b4.below f,h.b5.below f,h.map.keep (f.block _ h.map.lt),B5 h.sts f,B5 h.acc f,B5 h.nxt f,
  h.nxtR.keep (Ae.of_below f (fun _=>False)) (fun _ _ _ e=>e.elim) (fun _ _ x=>x) (Nat.le_refl _),h.ne,h.ge⟩
theorem QM.weak {N':Nat→Prop} (h:QM w0 wr g2 g4 g5 gm c2 kst st t as' vS vN vA ws N) (f:∀g,g<wr.heap.size→N g→N' g):QM w0 wr g2 g4 g5 gm c2 kst st t as' vS vN vA ws N':=
 ⟨h.below,h.b2,h.b4,h.b5,h.map,h.sts,h.acc,h.nxt,h.nxtR.keep (Ae.refl wr (fun _=>False)) (fun _ _ _ e=>e.elim) (fun g y x=>⟨f g y x.1,x.2⟩) (Nat.le_refl _),h.ne,h.ge⟩
theorem QM.other (h:QM w0 wr g2 g4 g5 gm c2 kst st t as' vS vN vA ws N) {gr:Nat} {C:Array Value} (E:∀g,N g→g≠gr) (hS:vS.ownBlock≠some gr) (f:Blk wr gr 3 C) (z:w0.heap.size≤gr) (hk:Ae wr w' (fun k=>k=gr)):QM w0 w' g2 g4 g5 gm c2 kst st t as' vS vN vA ws N:=
 ⟨h.below.trans (hk.below h.below.size fun b G e=>by omega),h.b2.kept hk (h.b2.ne_ f (by decide)),h.b4.kept hk (h.b4.ne_ f (by decide)),h.b5.kept hk (h.b5.ne_ f (by decide)),
  h.map.kept hk (fun e=>BL f h.map e.symm),hk.ownsRow h.sts (fun g z e=>hS (by rw [z,e])),
  AX hk h.acc (fun g cs e y=>by subst e; exact y.ne_ f (by decide) rfl),AX hk h.nxt (fun g cs e y=>by subst e; exact y.ne_ f (by decide) rfl),
  h.nxtR.keep hk (fun g cs F e _=>E g F.1 e) (fun _ _ x=>x) (Nat.le_refl _),h.ne,h.ge⟩
theorem QM.addS {kv s:Nat} {F:Value} {y w1:World} (h:QM w0 wr g2 g4 g5 gm c2 kst st t as' vS vN vA ws N) (J:Bt y gm ((kst++[kv]).map DK)) (E:wr.grownBy y (some gm)) (a3:y.heap.size=wr.heap.size)
  (M:Ae y w1 (fun k=>vS.ownBlock=some k)) (U:w1.ownsRow w0.heap.size 3 1 F (st.length+1) ((Aj st).map (Value.int .i64)++[.int .i64 (s:Int)])) (V:BX y vS F):
  QM w0 w1 g2 g4 g5 gm c2 (kst++[kv]) (st++[s]) t as' F vN vA ws N∧Ae wr w1 (fun k=>gm=k∨vS.ownBlock=some k):=by
 have O:Ae wr y (fun k=>gm=k):=(Ae.of_grown E).mono fun b _ e=>Option.some.inj e
 have f:Ae wr w1 (fun k=>gm=k∨vS.ownBlock=some k):=(O.mono fun _ _ e=>.inl e).trans M fun _ _ e=>.inr e
 have C:∀{e:TypeId},e≠3→∀g cs,(gm=g∨vS.ownBlock=some g)→¬Blk wr g e cs:=by
  rintro e G g cs (I | I) hB
  ·exact BL hB h.map I.symm
  ·exact AK h.sts hB (fun z=>G z.symm) I
 have W:=O.ownsRow h.sts fun g E e=>CZ h.sts h.map (by rw [E,e])
 refine⟨⟨h.below.trans (f.below h.below.size ?_),h.b2.kept f fun x=>C (by decide) _ _ x h.b2,h.b4.kept f fun x=>C (by decide) _ _ x h.b4,h.b5.kept f fun x=>C (by decide) _ _ x h.b5,
  J.kept M (CZ W J),?_,AX f h.acc (C (by decide)),AX f h.nxt (C (by decide)),?_,h.ne,h.ge⟩,f⟩
 ·rintro b hb (e | e)
  ·have:=h.ge; omega
  ·have:=Bm h.sts e; omega
 ·rw [List.length_append,FE,List.map_append]
  exact U
 ·refine h.nxtR.keep f ?_ ?_ (Nat.le_refl _)
  ·rintro g cs Z (e | e) hB
   ·exact BL hB h.map e.symm
   ·exact Z.2 e
  ·rintro g E ⟨G,h2⟩
   refine⟨G,fun e=>?_⟩
   rcases V with z | ⟨g',z,a6⟩
   ·exact h2 (by rw [←z]; exact e)
   ·rw [e] at z
    have:=Option.some.inj z
    omega
theorem QM.addA {b:Bool} {y:Value} {w1:World} (h:QM w0 wr g2 g4 g5 gm c2 kst st t as' vS vN vA ws N) (F:Ae wr w1 (fun k=>vA.ownBlock=some k)) (M:w1.ownsRow w0.heap.size 4 1 y (as'.length+1) (as'.map Value.bool++[.bool b])):
  QM w0 (w1.setCell ⟨g5,1,none⟩ y) g2 g4 g5 gm c2 kst st t (as'++[b]) vS vN y ws N:=by
 have G:=h.b5.kept F (AK h.acc h.b5 (by decide))
 have I:=(Ae.refl w1 (fun k=>k=g5)).setCell (p:=⟨g5,1,none⟩) (fun _=>rfl) y
 have f:Ae wr (w1.setCell ⟨g5,1,none⟩ y) (fun k=>vA.ownBlock=some k∨k=g5):=(F.mono fun _ _ e=>.inl e).trans I fun _ _ e=>.inr e
 have C:∀{e:TypeId},e≠4→e≠56→∀g cs,(vA.ownBlock=some g∨g=g5)→¬Blk wr g e cs:=by
  rintro e O U g cs (E | E) z
  ·exact AK h.acc z (fun V=>O V.symm) E
  ·exact z.ne_ h.b5 U E
 have J:∀{g:Nat} {cs:Array Value},Blk wr g 56 cs→g≠g5→¬(vA.ownBlock=some g∨g=g5):=by
  rintro g cs z W (e | e)
  ·exact AK h.acc z (by decide) e
  ·exact W e
 refine⟨h.below.trans (f.below h.below.size ?_),h.b2.kept f (J h.b2 h.ne.1),h.b4.kept f (J h.b4 h.ne.2),G.set_ 1 y,h.map.kept f ?_,AX f h.sts (C (by decide) (by decide)),?_,AX f h.nxt (C (by decide) (by decide)),
  h.nxtR.keep f (fun g cs _ e=>C (by decide) (by decide) g cs e) (fun _ _ x=>x) (Nat.le_refl _),h.ne,h.ge⟩
 ·rintro b Z (e | e)
  ·have:=Bm h.acc e; omega
  ·have:=h.ge; omega
 ·rintro(e | e)
  ·exact CZ h.acc h.map e
  ·exact BL h.b5 h.map e.symm
 ·rw [List.length_append,List.map_append]
  exact AX I M (fun g cs e z=>by subst e; exact z.ne_ G (by decide) rfl)
theorem QM.addR {row:List Nat} {gr c:Nat} {vN':Value} {w1:World} (h:QM w0 wr g2 g4 g5 gm c2 kst st t as' vS vN vA ws N)
  (J:wr.ownsRow w0.heap.size 3 1 (.slice (some ⟨gr,0,none⟩) row.length c) row.length ((Aj row).map (Value.int .i64))) (hS:vS.ownBlock≠some gr)
  (E:Ae wr w1 (fun k=>vN.ownBlock=some k)) (M:w1.ownsRow w0.heap.size 24 1 vN' (t.length+1) (ws++[.slice (some ⟨gr,0,none⟩) row.length c])):
  QM w0 (w1.setCell ⟨g5,0,none⟩ vN') g2 g4 g5 gm c2 kst st (t++[row]) as' vS vN' vA (ws++[.slice (some ⟨gr,0,none⟩) row.length c]) (fun _=>True):=by
 have F:=h.b5.kept E (AK h.nxt h.b5 (by decide))
 have G:=(Ae.refl w1 (fun k=>k=g5)).setCell (p:=⟨g5,0,none⟩) (fun _=>rfl) vN'
 have f:Ae wr (w1.setCell ⟨g5,0,none⟩ vN') (fun k=>vN.ownBlock=some k∨k=g5):=(E.mono fun _ _ e=>.inl e).trans G fun _ _ e=>.inr e
 have z:∀{e:TypeId},e≠24→e≠56→∀g cs,(vN.ownBlock=some g∨g=g5)→¬Blk wr g e cs:=by
  rintro e O U g cs (C | C) y
  ·exact AK h.nxt y (fun V=>O V.symm) C
  ·exact y.ne_ h.b5 U C
 have I:∀{g:Nat} {cs:Array Value},Blk wr g 56 cs→g≠g5→¬(vN.ownBlock=some g∨g=g5):=by
  rintro g cs y W (e | e)
  ·exact AK h.nxt y (by decide) e
  ·exact W e
 refine⟨h.below.trans (f.below h.below.size ?_),h.b2.kept f (I h.b2 h.ne.1),h.b4.kept f (I h.b4 h.ne.2),F.set_ 0 vN',h.map.kept f ?_,AX f h.sts (z (by decide) (by decide)),AX f h.acc (z (by decide) (by decide)),?_,?_,h.ne,h.ge⟩
 ·rintro b hb (e | e)
  ·have:=Bm h.nxt e; omega
  ·have:=h.ge; omega
 ·rintro(e | e)
  ·exact CZ h.nxt h.map e
  ·exact BL h.b5 h.map e.symm
 ·rw [List.length_append]
  exact AX G M (fun g cs e y=>by subst e; exact y.ne_ F (by decide) rfl)
 ·rw [List.map_append]
  refine Ck.snoc (h.nxtR.keep f (fun g cs _ e=>z (by decide) (by decide) g cs e) (fun _ _ x=>⟨trivial,x.2⟩) (Nat.le_refl _)) ?_ ?_
  ·have:=AX f J (z (by decide) (by decide))
   have Z:(Aj row).length=row.length:=by simp [Aj]
   rw [Z]
   exact this
  ·intro g hg
   refine⟨trivial,fun e=>hS ?_⟩
   have:gr=g:=by simpa [Value.ownBlock] using hg
   rw [this]
   exact e
theorem QM.finO {z:World} (h:QM w0 wr g2 g4 g5 gm c2 kst st t as' vS vN vA ws N) (hk:Ae wr z (fun k=>k=g4∨k<w0.heap.size)):
  Df z w0.heap.size (.agg #[vN,vA]) t as':=by
 have F:=h.ge
 have C:=hk.ownsRow h.nxt fun g f e=>by
  rcases e with e | e
  ·exact AK h.nxt h.b4 (by decide) (by rw [f,e])
  ·have:=Bm h.nxt f; omega
 have E:=hk.ownsRow h.acc fun g f e=>by
  rcases e with e | e
  ·exact AK h.acc h.b4 (by decide) (by rw [f,e])
  ·have:=Bm h.acc f; omega
 exact⟨vN,vA,ws,rfl,E,C,h.nxtR.imp fun v d y=>⟨hk.ownsRow y.1 fun g f e=>by
  rcases e with e | e
  ·exact AK y.1 h.b4 (by decide) (by rw [f,e])
  ·have:=Bm y.1 f; omega,fun _ _=>trivial⟩⟩
end
end Go.Proofs.YtlakpndhhelliaaGreatDoor
