/-
  Part PH of a proof.
-/
import Derived.Shelf.LaysM
import Derived.Shelf.Sort.Plain
import Derived.Ground.NamesProg
import Derived.Ground.Names2Prog
import Derived.Shelf.Slices.Equal
import Derived.Shelf.Slices.Turned
import Derived.Shelf.Slices.Empties2
import Derived.Test.YtfcfpoemojjglaaGreatDoorProg
import Derived.Test.YtfcfpoemojjglaaGreatDoorPA
import Derived.Test.YtfcfpoemojjglaaGreatDoorPE
set_option maxHeartbeats 16000000
set_option maxRecDepth 100000
set_option linter.unusedVariables false
set_option linter.unusedSimpArgs false
namespace Go.Proofs
open Go.Shelf
def Tryz.lays107_ren:Go.Shelf.Ren:=⟨fun | 107=>74 | 108=>124 | n=>n,fun | 28=>24 | 3=>3 | 4=>4 | 0=>0 | n=>n,fun | n=>n⟩
theorem Tryz.lays107:Go.Proofs.Lays.n107 Tryz.prog Tryz.lays107_ren:={
 mixed:=by kernel_rfl
 f107:=Tryz.func74.trans (congrArg some (by kernel_rfl))
 f108:=Tryz.func124.trans (congrArg some (by kernel_rfl))
 t0:=Tryz.underlying0
 a0:=Tryz.isAgg0
 z0:=Tryz.sizeOf0
 v0:=Tryz.zeroValue0
 t3:=Tryz.underlying3
 a3:=Tryz.isAgg3
 z3:=Tryz.sizeOf3
 v3:=Tryz.zeroValue3
 t4:=Tryz.underlying4
 a4:=Tryz.isAgg4
 z4:=Tryz.sizeOf4
 v4:=Tryz.zeroValue4
 t28:=Tryz.underlying24
 a28:=Tryz.isAgg24
 z28:=Tryz.sizeOf24
 v28:=Tryz.zeroValue24 }
open Go.Lib in
theorem Tryz.slices_Contains_int (b h n c:Nat) (d:List Int) (x:Int) (w:World) (C:n<=d.length) (l:n<=9223372036854775807) (y:∀j,j<d.length->w.cell? ⟨b,h+j,none⟩=some (.int .i64 (d.getD j 0))):
  Calls Tryz.prog 74 #[.slice (some ⟨b,h,none⟩) n c,.int .i64 x] w fun e w'=>e=.returned (.bool ((d.take n).contains x))/\w'=w:=Any.slices_Contains_int Tryz.lays107 b h n c d x w C l y
end Go.Proofs
namespace Go.Proofs.YtfcfpoemojjglaaGreatDoor
open Go.RowKit
set_option maxHeartbeats 16000000
set_option maxRecDepth 100000
section
variable {S:Type} [DecidableEq S]
def dd (l:List S):List S:=l.foldl Bs []
theorem Eo (l:List S) (a:S):dd (l++[a])=Bs (dd l) a:=by simp [dd,List.foldl_append]
theorem Q7 {l:List S} {a b:S}:a∈Bs l b↔a∈l\/a=b:=by
 unfold Bs;split
 ·constructor
  ·exact .inl
  ·rintro(h | rfl)
   ·exact h
   ·assumption
 ·simp
theorem Ri {l:List S} (h:l.Nodup) (a:S):(Bs l a).Nodup:=by
 unfold Bs;split
 ·exact h
 ·rename_i hn;exact List.nodup_append.2 ⟨h,by simp,fun x j y d e=>hn (by rw [List.mem_singleton] at d; rw [<-d,<-e]; exact j)⟩
theorem Nh (p:List S->Prop) (d:p []) (j:∀l a,p l->p (Bs l a)) (l:List S):p (dd l):=by
 have:∀(l k:List S),p k->p (l.foldl Bs k):=by
  intro l
  induction l with
  | nil=>exact fun _ h=>h
  | cons a l ih=>exact fun k h=>ih _ (j _ _ h)
 exact this l [] d
theorem Rh (l:List S):(dd l).Nodup:=Nh List.Nodup List.nodup_nil (fun _ a h=>Ri h a) l
theorem EJ {l:List S} {a:S}:a∈dd l↔a∈l:=by
 have:∀(l k:List S),a∈l.foldl Bs k↔a∈k\/a∈l:=by
  intro l
  induction l with
  | nil=>simp
  | cons b l ih=>
   intro k;rw [List.foldl_cons,ih,Q7,List.mem_cons,or_assoc]
 exact(this l []).trans (by simp)
theorem Kr {l:List S} {a:S} (h:a∈l):Ax l a<l.length:=List.idxOf_lt_length_of_mem h
theorem Kq {l:List S} {a:S} (h:a∈l):l[Ax l a]?=some a:=FS h
theorem Rz {l:List S} {a b:S} (j:a∈l) (y:b∈l) (h:Ax l a=Ax l b):a=b:=by
 have d:=Kq j;rw [h,Kq y] at d;exact(Option.some.inj d).symm
theorem Ry {l:List S} (h:l.Nodup) {i:Nat} {a:S} (d:l[i]?=some a):Ax l a=i:=HO h d
def BD (l:List S):List Nat:=l.map (Ax (dd l))
theorem DN (l:List S):(BD l).length=l.length:=by simp [BD]
theorem I2 (l:List S) (a:S):BD (l++[a])=BD l++[Ax (Bs (dd l) a) a]:=by
 unfold BD;rw [List.map_append,Eo];congr 1;exact List.map_congr_left fun x d=>ET (F6 _ _) (EJ.2 d)
theorem I0 {l:List S} {i:Nat} {a:S} (h:l[i]?=some a):(BD l).getD i 0=Ax (dd l) a:=getD_some (AX h)
theorem IZ {l:List S} {i j:Nat} {a b:S} (d:l[i]?=some a) (y:l[j]?=some b):(BD l).getD i 0=(BD l).getD j 0↔a=b:=by
 rw [I0 d,I0 y];exact⟨Rz (EJ.2 (List.mem_of_getElem? d)) (EJ.2 (List.mem_of_getElem? y)),fun h=>by rw [h]⟩
theorem I1 {l:List S} {v:Nat}:v∈BD l↔v<(dd l).length:=by
 unfold BD;rw [List.mem_map];constructor
 ·rintro⟨a,d,rfl⟩;exact Kr (EJ.2 d)
 ·intro h;obtain⟨a,d⟩:=An h;exact⟨a,EJ.1 (List.mem_of_getElem? d),Ry (Rh l) d⟩
theorem BU.of_keys {L n r:Nat} {nx:Nat->Nat->Nat} {acc:Nat->Bool} {d:List S} (G:d.length=n) (h:∀i j x y,d[i]?=some x->d[j]?=some y->(x=y↔EqW L nx acc r i j)):BU L n nx acc r (BD d) (dd d).length:=by
 refine⟨by rw [DN,G],fun i j I J=>?_,fun v=>I1⟩;obtain⟨x,C⟩:=An (l:=d) (i:=i) (by omega);obtain⟨y,E⟩:=An (l:=d) (i:=j) (by omega);rw [IZ C E];exact h i j x y C E
end
theorem Rp (L:Nat) (nx:Nat->Nat->Nat) (ac:List Bool):BU L ac.length nx (dac ac) 0 (BD ac) (dd ac).length:=by
 refine BU.of_keys rfl fun i j x y d h=>?_;show x=y↔dac ac i=dac ac j
 unfold dac;rw [getD_some d,getD_some h]
def Ep (L:Nat) (nx:Nat->Nat->Nat) (cl:List Nat) (q:Nat):List Nat:=cl.getD q 0::(List.range L).map fun x=>cl.getD (nx q x) 0
theorem Th {L n r cnt:Nat} {nx:Nat->Nat->Nat} {acc:Nat->Bool} {cl:List Nat} (G:∀q x,q<n->x<L->nx q x<n) (h:BU L n nx acc r cl cnt):BU L n nx acc (r+1) (BD ((List.range n).map (Ep L nx cl))) (dd ((List.range n).map (Ep L nx cl))).length:=by
 refine BU.of_keys (by simp) fun i j x y C E=>?_;have d:i<n:=by simpa using AP C
 have l:j<n:=by simpa using AP E
 rw [AX (List.getElem?_range d)] at C;rw [AX (List.getElem?_range l)] at E;have ex:=Option.some.inj C;have J:=Option.some.inj E;subst ex J;unfold Ep;rw [List.cons.injEq,h.iff i j d l];show _↔EqW L nx acc r i j/\∀z,z<L->EqW L nx acc r (nx i z) (nx j z)
 refine and_congr_right fun _=>?_;rw [List.map_inj_left];simp only [List.mem_range];exact forall_congr' fun z=>forall_congr' fun I=>h.iff _ _ (G i z d I) (G j z l I)
def CR (n:Nat):Value:=.int .i64 (n:Int)
def Bm (L:Nat) (row:List Nat):Array Value:=(row.map CR++List.replicate (L - row.length) (Value.int .i64 0)).toArray
theorem Fi {L:Nat} {row:List Nat} (h:row.length<L) (e:Nat):(Bm L row).setIfInBounds row.length (.int .i64 e)=Bm L (row++[e]):=by
 have d:List.replicate (L - row.length) (Value.int .i64 0)=.int .i64 0::List.replicate (L - (row.length+1)) (.int .i64 0):=by
  rw [<-List.replicate_succ]; congr 1; omega
 unfold Bm;rw [d];simp [CR]
theorem Fh {L:Nat} {row:List Nat} (h:row.length<L):(Bm L row)[row.length]?=some (.int .i64 0):=by
 unfold Bm;simp;rw [List.getElem?_append_right (by simp),List.getElem?_replicate];simp; omega
theorem Gw (L:Nat):Array.replicate L (Value.int .i64 0)=Bm L []:=by
 apply Array.ext';simp [Bm]
theorem PW {w:World} {base g L:Nat} {row:List Nat} (h:Blk w g 3 (Bm L row)) (C:row.length=L) (y:base<=g) (l:L<=4000000):w.ownsRow base 3 1 (.slice (some ⟨g,0,none⟩) L L) L ((Ak row).map (Value.int .i64)):=by
 have d:=DD (n:=L) h y (by simp [Bm]; omega) l;have j:(Bm L row).toList=(Ak row).map (Value.int .i64):=by simp [Bm,C,Ak,CR]
 rwa [j] at d
theorem Jr {w:World} {g L:Nat} {row:List Nat} (h:Blk w g 3 (Bm L row)) (d:row.length=L) (l:L<=4000000):Sl w w.heap.size 1 Ai (some ⟨g,0,none⟩) (Ak row):=by
 have y:=PW (base:=0) h d (Nat.zero_le _) l;obtain⟨A,c,e,hS⟩:=B8 y (by simp [Ak,d]) (Nat.le_refl _) (by omega);injection e with j C E
 subst j;exact hS
theorem Ex {w:World} {B:Nat} {A:Option Addr} {l:List Nat} (h:Sl w B 1 Ai A (Ak l)) {i x:Nat} (y:l[i]?=some x):∃b d,A=some ⟨b,d,none⟩/\b<B/\w.cell? ⟨b,d+i,none⟩=some (.int .i64 (x:Int)):=by
 obtain⟨b,d,e,C,E⟩:=h.2 (by
  intro e;have:=AP y;have j:(Ak l).length=l.length:=by simp [Ak]
  rw [e] at j;simp at j;omega)
 have:=E i (x:Int) (AX y) 0 (by omega);exact⟨b,d,e,C,by simpa [Ai] using this⟩
theorem Fy {w:World} {B:Nat} {A:Option Addr} {l:List Bool} (h:Sl w B 1 DH A l) {i:Nat} {x:Bool} (j:l[i]?=some x):∃b d,A=some ⟨b,d,none⟩/\b<B/\w.cell? ⟨b,d+i,none⟩=some (.bool x):=by
 obtain⟨b,d,e,y,C⟩:=h.2 (by
  intro e;have:=AP j;rw [e] at this;simp at this)
 have:=C i x j 0 (by omega);exact⟨b,d,e,y,by simpa [DH] using this⟩
theorem PY (s:Bool) (es:List MapEntry):∀(l:List Bool) (i:Nat),es.map (·.key)=l.map Value.bool->
  Instr.findNow .bool (.bool s) es i=some (if s∈l then some (i+l.idxOf s,((es[l.idxOf s]?).map (·.val)).getD .nilFunc) else none):=by
 induction es with
 | nil=>
  intro l i h;have:l=[]:=by cases l <;> simp_all
  subst this;simp [Instr.findNow]
 | cons e es ih=>
  intro l i h;cases l with
  | nil=>simp at h
  | cons t l=>
   simp only [List.map_cons,List.cons.injEq] at h;obtain⟨y,C⟩:=h;unfold Instr.findNow;rw [y];simp only [Instr.sameNow];by_cases d:s=t
   ·subst d;simp
   ·have G:(s==t)=false:=by simpa using d
    rw [G];dsimp only;rw [ih l (i+1) C];have E:(t::l).idxOf s=l.idxOf s+1:=by
     rw [List.idxOf_cons];have:(t==s)=false:=by simpa using fun e=>d e.symm
     rw [this]; rfl
    by_cases j:s∈l
    ·simp only [j,E,List.mem_cons,or_true,if_true,List.getElem?_cons_succ,Option.some.injEq,Prod.mk.injEq,and_true]; omega
    ·simp [j,d]
theorem Gy:El Tryz.prog 4 Value.bool where
 check:=fun d w s=>by
  rw [show(10000:Nat)=9999+1 from rfl];unfold Instr.checkKey;simp [run_underlying Tryz.underlying4]
 find:=fun w s es l h=>by
  unfold Instr.findKey;simp only [Sem.run_bind,run_underlying Tryz.underlying4,Result.andThen_ok];rw [PY s es l 0 h];simp
theorem KV {S:Type} [DecidableEq S] {P:Program} {K:TypeId} {enc:S->Value} (d:El P K enc) {T E:TypeId} (J:P.underlying T=some (.map K E)) {w:World} {g:Nat} {l:List S}
  (h:Bw w g (l.map enc)) {s:S} (j:s∈l):
  (Instr.lookup T (.map (some g)) (enc s) false).run P w=.ok (.int .i64 (Ax l s:Int)) w:=by
 obtain⟨es,y,C,G,I⟩:=h;have O:(getObj g).run P w=.ok (.map es y) w:=by simp [getObj,Sem.run,C]
 have M:=d.find w s es.toList l G;unfold Instr.lookup;simp only [Sem.run_bind,run_underlying J,Result.andThen_ok,O,Sem.run_pure,d.check,M];simp only [j,if_true];rw [JE I (by rw [List.length_map]; exact List.idxOf_lt_length_of_mem j)];rfl
theorem GS {P:Program} {T K E ty:TypeId} (C:P.underlying T=some (.map K E)) {w:World} {g:Nat} {d:List Value} (h:Bw w g d):
  (Builtin.len_ #[T] ty #[.map (some g)]).run P w=.ok (.int .i64 (d.length:Int)) w:=by
 obtain⟨es,j,l,y,J⟩:=h;have G:(getObj g).run P w=.ok (.map es j) w:=by simp [getObj,Sem.run,l]
 have I:es.size=d.length:=by rw [<-y]; simp
 simp [Builtin.len_,run_underlying C,G,goInt,I]
theorem I9 {S:Type} [DecidableEq S] {enc:S->Value} {w:World} {gm gr n k:Nat} {l:List S} {a:S} {d:List S} (y:dd (l++[a])=d) (h:Bw w gm (d.map enc)) (j:Blk w gr 3 (Bm n (BD l))) (J:l.length=k) (M:k<n):
  Bw (w.setCell ⟨gr,k,none⟩ (.int .i64 (Ax d a:Int))) gm ((dd (l++[a])).map enc)/\Blk (w.setCell ⟨gr,k,none⟩ (.int .i64 (Ax d a:Int))) gr 3 (Bm n (BD (l++[a])))/\Ac w (w.setCell ⟨gr,k,none⟩ (.int .i64 (Ax d a:Int))) (fun b=>b=gr):=by
 have C:=(Ac.refl w (fun b=>b=gr)).setCell (p:=⟨gr,k,none⟩) (fun _=>rfl) (.int .i64 (Ax d a:Int));refine⟨?_,?_,C⟩
 ·rw [y];exact h.kept C fun e=>BT j h e.symm
 ·have E:=j.set_ k (.int .i64 (Ax d a:Int));have G:(BD l).length=k:=by rw [DN,J]
  have I:Ax (Bs (dd l) a) a=Ax d a:=by rw [<-y,Eo]
  rw [I2,I,<-Fi (by omega),G];exact E
theorem Ro {w:World} {v:Value} {t:List (List Nat)} {ac:List Bool} (h:Br w w.heap.size v t ac) (hl:ac.length<=250000):
  Calls Tryz.prog 165 #[v] w (Ret fun r w'=>Below w.heap.size w w'/\∃A c,r=.tuple #[.slice A ac.length c,.int .i64 ((dd ac).length:Int)]/\Sl w' w'.heap.size 1 Ai A (Ak (BD ac))):=by
 obtain⟨A1,c1,A2,c2,rfl,h1,h2⟩:=h;obtain⟨w1,aL,a4,ah,aD⟩:=Ae w #[.slice A1 t.length c1,.slice A2 ac.length c2] 78;obtain⟨gr,w2,aG,a5,W,aC⟩:=Et w1 ac.length (by omega);obtain⟨gm,w3,aY,ao,Z,aB⟩:=F1 264 w2;rw [Gw] at a5;have ay:=ah.cell;have az:=((ah.below W).below Z).cell;have aH:=a4.size;have b0:=W.size;have aw:Below w.heap.size w w3:=a4.trans ((W.mono aH).trans (Z.mono (by omega)));have av:=hide (show Bw w3 gm ((dd (ac.take 0)).map Value.bool) from ao);have ak:=hide (show Blk w3 gr 3 (Bm ac.length (BD (ac.take 0))) from a5.below Z);obtain⟨n,hn⟩:∃n,n=ac.length:=⟨_,rfl⟩;have ap:=hide hn;have aZ:n<=250000:=by omega
 have au:=hide h2;rw [<-hn] at aG ay az aL ak ⊢;have aT:w.heap.size<=gr:=by omega
 have aS:w.heap.size<=gm:=by omega
 clear ao a5 aD h1 h2 hn aC aB a4 W Z;go_enter Tryz.func165,Tryz.ntmps165;go_wp2_with fail;go_loopw [18] (fun ii wr=>∃k:Nat,ii=.int .i64 (k:Int)/\k<=n/\Below w.heap.size w wr/\Hid (Bw wr gm ((dd (ac.take k)).map Value.bool))/\Hid (Blk wr gr 3 (Bm n (BD (ac.take k))))) (fun ii _=>n - (intOf ii).toNat)
 case atStart=>exact⟨0,rfl,Nat.zero_le _,aw,av,ak⟩
 case round=>
  obtain⟨k,rfl,hk,I,hM,hR⟩:=hrel;by_cases a8:k<n
  ·have U:=ap.out;obtain⟨b,C⟩:=An (l:=ac) (i:=k) (by omega);obtain⟨blk,aM,rfl,ax,a6⟩:=Fy au.out C;have aO:wr.cell? ⟨blk,aM+k,none⟩=some (.bool b):=(I.cell ax).trans a6;have aq:=hide (B5 C);have J:(ac.take k).length=k:=by rw [List.length_take]; omega
   have an:((dd (ac.take k)).map Value.bool).length=(dd (ac.take k)).length:=by simp
   have j:=hM.out;have d:=hR.out;have am:=Ft Gy Tryz.underlying264 Fa j b;have aA:wr.cell? ⟨gr,k,none⟩=some (.int .i64 0):=by
    rw [d.cell];have:=Fh (L:=n) (row:=BD (ac.take k)) (by rw [DN,J]; exact a8)
    rwa [DN,J] at this
   have aQ:=d.frozen k;have aW:=d.lt;by_cases y:b∈dd (ac.take k)
   ·have M:dd (ac.take k++[b])=dd (ac.take k):=by rw [Eo]; exact F0 y
    have aF:=KV Gy Tryz.underlying264 j y;simp only [y,if_true,decide_true] at am;obtain⟨E,G,O⟩:=I9 M j d J a8;rw [<-aq.out] at E G;have a9:=hide E;have ad:=hide G;have a2:=I.trans (O.below I.size fun b C e=>by omega);clear E G y j d M C a6 U J an O;go_wp2_with fail;exact⟨⟨k+1,by go_num,by omega,a2,a9,ad⟩,by simp [intOf]; omega⟩
   ·have M:dd (ac.take k++[b])=dd (ac.take k)++[b]:=by rw [Eo]; exact FZ y
    simp only [y,if_false,decide_false] at am;obtain⟨w4,b4,aa,al,aJ⟩:=EY Gy Tryz.underlying264 j b y;have aE:∀ty,(Builtin.len_ #[264] ty #[.map (some gm)]).run Tryz.prog wr=.ok (.int .i64 ((dd (ac.take k)).length:Int)) wr:=fun ty=>by
     have:=GS (ty:=ty) Tryz.underlying264 j;simpa using this
    have a7:=Ac.of_grown al;have V:=d.kept a7 (fun e=>BT d j (Option.some.inj e).symm);have aF:=KV Gy Tryz.underlying264 aa (s:=b) (by simp);have aP:w4.cell? ⟨gr,k,none⟩=some (.int .i64 0):=by rw [V.cell,<-d.cell,aA]
    have aR:=V.frozen k;have aX:=V.lt;obtain⟨E,G,O⟩:=I9 M aa V J a8;rw [<-aq.out] at E G;have a9:=hide E;have ad:=hide G;have ai:=I.trans (a7.below I.size fun b C e=>by have:=Option.some.inj e; omega);have a2:=ai.trans (O.below ai.size fun b C e=>by omega);clear E G y j d M C a6 U J an aa al aJ a7 V O;go_wp2_with fail;exact⟨⟨k+1,by go_num,by omega,a2,a9,ad⟩,by simp [intOf]; omega⟩
  ·obtain rfl:k=n:=by omega
   have j:=hM.out;have d:=hR.out;have aE:∀ty,(Builtin.len_ #[264] ty #[.map (some gm)]).run Tryz.prog wr=.ok (.int .i64 ((dd (ac.take k)).length:Int)) wr:=fun ty=>by
    have:=GS (ty:=ty) Tryz.underlying264 j;simpa using this
   clear j d;go_wp2_with fail
   go_ret2
   have U:=ap.out;have aK:ac.take k=ac:=by rw [U,List.take_length]
   have d:=hR.out;rw [aK] at d ⊢;exact⟨I,_,_,rfl,Jr d (by rw [DN,U]) (by omega)⟩
end Go.Proofs.YtfcfpoemojjglaaGreatDoor
namespace Go.Proofs.YtfcfpoemojjglaaGreatDoor
open Go.RowKit
set_option maxHeartbeats 16000000
set_option maxRecDepth 100000
theorem Ja {S:Type} [DecidableEq S] {enc:S->Value} {w:World} {gm gr n k:Nat} {l:List S} {a:S} {d:List S} {u:Value} (C:dd (l++[a])=d) (j:Bw w gm (d.map enc)) (y:Blk w gr 3 ((Bm n (BD l)).setIfInBounds k u)) (J:l.length=k) (M:k<n):
  Bw (w.setCell ⟨gr,k,none⟩ (.int .i64 (Ax d a:Int))) gm ((dd (l++[a])).map enc)/\Blk (w.setCell ⟨gr,k,none⟩ (.int .i64 (Ax d a:Int))) gr 3 (Bm n (BD (l++[a])))/\Ac w (w.setCell ⟨gr,k,none⟩ (.int .i64 (Ax d a:Int))) (fun b=>b=gr):=by
 have E:=(Ac.refl w (fun b=>b=gr)).setCell (p:=⟨gr,k,none⟩) (fun _=>rfl) (.int .i64 (Ax d a:Int));refine⟨?_,?_,E⟩
 ·rw [C];exact j.kept E fun e=>BT y j e.symm
 ·have h:=y.set_ k (.int .i64 (Ax d a:Int));have G:(BD l).length=k:=by rw [DN,J]
  have I:Ax (Bs (dd l) a) a=Ax d a:=by rw [<-C,Eo]
  rw [Array.setIfInBounds_setIfInBounds] at h;rw [I2,I,<-Fi (by omega),G];exact h
theorem Gt {w:World} {B:Nat} {A:Option Addr} {L:Nat} {t:List (List Nat)} {ac:List Bool} (h:VSl R1n w B A t) (G:DOK L t ac) {q:Nat} (hq:q<ac.length):
  ∃b j C U row,A=some ⟨b,j,none⟩/\b<B/\w.cell? ⟨b,j+q,none⟩=some (.slice C L U)/\t[q]?=some row/\row.length=L/\Sl w B 1 Ai C (Ak row)/\(∀x y,row[x]?=some y->y<ac.length/\dnx t q x=y):=by
 obtain⟨row,d⟩:=An (l:=t) (i:=q) (by rw [G.len]; exact hq);obtain⟨E,hy⟩:=G.row row (List.mem_of_getElem? d);obtain⟨b,j,e,W,Z⟩:=h.2 (by intro e; subst e; simp at d);obtain⟨v,I,M,O,rfl,hS⟩:=Z q row d;have V:(Ak row).length=L:=by simp [Ak,E]
 rw [V] at I;refine⟨b,j,M,O,row,e,W,I,d,E,hS,fun x y J=>⟨hy y (List.mem_of_getElem? J),?_⟩⟩;unfold dnx;rw [getD_some d,getD_some J]
theorem Im {w:World} {B b d:Nat} {l:List Nat} (h:Sl w B 1 Ai (some ⟨b,d,none⟩) (Ak l)) {i x:Nat} (C:l[i]?=some x):b<B/\w.cell? ⟨b,d+i,none⟩=some (.int .i64 (x:Int)):=by
 obtain⟨E,G,e,j,y⟩:=Ex h C;cases e;exact⟨j,y⟩
theorem Rq {w:World} {base n:Nat} {v:Value} {l:List Nat} (h:w.ownsRow base 3 1 v n ((Ak l).map (Value.int .i64))) (G:l.length=n) (O:0<n) (V:n<=4000000):
  ∃g c,v=.slice (some ⟨g,0,none⟩) n c/\Sl w w.heap.size 1 Ai (some ⟨g,0,none⟩) (Ak l)/\∀j,j<(Ak l).length->w.cell? ⟨g,0+j,none⟩=some (.int .i64 ((Ak l).getD j 0)):=by
 obtain⟨x,I⟩:=An (l:=l) (i:=0) (by omega);obtain⟨g,c,rfl,-⟩:=C7 h (AX (f:=Value.int .i64) (AX (f:=fun x:Nat=>(x:Int)) I));obtain⟨A,J,e,hS⟩:=B8 h (by simp [Ak,G]) (Nat.le_refl _) (by omega);injection e with C E M
 subst C;refine⟨g,c,rfl,hS,fun j U=>?_⟩;have E:(Ak l).length=l.length:=by simp [Ak]
 obtain⟨y,d⟩:=An (l:=l) (i:=j) (by omega);rw [(Im hS d).2,show(Ak l).getD j 0=(y:Int) from getD_some (AX (f:=fun x:Nat=>(x:Int)) d)]
def Df (cl row:List Nat) (q j:Nat):List Nat:=cl.getD q 0::(row.take j).map fun y=>cl.getD y 0
theorem QF {L:Nat} {t:List (List Nat)} {cl row:List Nat} {q:Nat} (C:row.length=L) (j:∀x y,row[x]?=some y->dnx t q x=y):Df cl row q L=Ep L (dnx t) cl q:=by
 unfold Df Ep;congr 1;apply List.ext_getElem?;intro i;rw [List.getElem?_map,List.getElem?_map,List.getElem?_take];by_cases d:i<L
 ·obtain⟨y,h⟩:=An (l:=row) (i:=i) (by omega);rw [if_pos d,h,List.getElem?_range d];simp only [Option.map_some];rw [j i y h]
 ·rw [if_neg d,List.getElem?_eq_none (by simp; omega)];rfl
theorem QG {cl row:List Nat} {q j:Nat} (d:j<=row.length):(Df cl row q j).length=j+1:=by
 simp [Df]; omega
theorem QH {cl row:List Nat} {q j y:Nat} (d:row[j]?=some y):Df cl row q (j+1)=Df cl row q j++[cl.getD y 0]:=by
 unfold Df;rw [B5 d];simp
theorem EM (l:List Nat) (x:Nat):Ak (l++[x])=Ak l++[(x:Int)]:=by simp [Ak]
theorem Tf {w:World} {v:Value} {L c B:Nat} {A:Option Addr} {t:List (List Nat)} {ac:List Bool} {cl:List Nat} (h:Br w w.heap.size v t ac) (aV:DOK L t ac) (bq:Sl w B 1 Ai A (Ak cl)) (hB:B<=w.heap.size) (db:cl.length=ac.length) (hv:∀x∈cl,x<250000) (hL:L<=8) (hn:ac.length<=250000) (hT:BV w):
  Calls Tryz.prog 166 #[v,.slice A ac.length c] w (Ret fun r w'=>Below w.heap.size w w'/\∃A' c',r=.tuple #[.slice A' ac.length c',.int .i64 ((dd ((List.range ac.length).map (Ep L (dnx t) cl))).length:Int)]/\Sl w' w'.heap.size 1 Ai A' (Ak (BD ((List.range ac.length).map (Ep L (dnx t) cl))))):=by
 obtain⟨A1,c1,A2,c2,rfl,h1,h2⟩:=h;obtain⟨w1,bN,aL,aA,cm⟩:=Ae w #[.slice A1 t.length c1,.slice A2 ac.length c2] 78;obtain⟨gm,w2,dg,aT,ao,ci⟩:=F1 221 w1;obtain⟨gr,w3,cu,aM,ap,cj⟩:=Et w2 ac.length (by omega);rw [Gw] at aM;have cB:=aL.size;have dj:=ao.size;have cb:Below w.heap.size w w3:=aL.trans ((ao.mono cB).trans (ap.mono (by omega)));obtain⟨C,av⟩:∃C,C=(List.range ac.length).map (Ep L (dnx t) cl):=⟨_,rfl⟩;rw [<-av];have bz:C.length=ac.length:=by rw [av]; simp
 have c6:=hide (show Bw w3 gm ((dd (C.take 0)).map Dq) from aT.keep (ap.block _ aT.lt));have bj:=hide (show Blk w3 gr 3 (Bm ac.length (BD (C.take 0))) from aM);have aD:=hide ((aA.below ao).below ap);have bK:=aV.len;rw [bK] at bN aD ⊢;obtain⟨n,aU⟩:∃n,n=ac.length:=⟨_,rfl⟩;have aw:=hide aU;have di:n<=250000:=by omega
 have bZ:=hide h1;have cx:=hide aV;have bs:=hide bq;have cq:=hide av;have aR:=hide bz;have ca:=hide hT;have d6:=aA.lt;rw [<-aU] at cu bN bj aD ⊢;have d8:w.heap.size<gr:=by omega
 have d7:w.heap.size<=gm:=by omega
 clear aT aM cm h1 h2 aU cj ci aL ao ap aV bq av hT bK aA hn bz;go_enter Tryz.func166,Tryz.ntmps166;go_wp2_with fail;go_loopw [21] (fun ii wr=>∃k:Nat,ii=.int .i64 (k:Int)/\k<=n/\Below w.heap.size w wr/\Hid (Blk wr w.heap.size 78 #[.slice A1 n c1,.slice A2 n c2])/\Hid (Bw wr gm ((dd (C.take k)).map Dq))/\Hid (Blk wr gr 3 (Bm n (BD (C.take k))))) (fun ii _=>n - (intOf ii).toNat)
 case atStart=>exact⟨0,rfl,Nat.zero_le _,cb,aD,c6,bj⟩
 case round=>
  obtain⟨k,rfl,hk,aC,hD,hM,hR⟩:=hrel;by_cases aQ:k<n
  ·have a5:=aw.out;obtain⟨x,J⟩:=An (l:=cl) (i:=k) (by omega);obtain⟨bc,oc,rfl,cT,bo⟩:=Ex bs.out J;have ah:(C.take k).length=k:=by rw [List.length_take,aR.out]; omega
   have aH:=hD.out;have a9:=hM.out;have O:=hR.out;have cY:wr.cell? ⟨gr,k,none⟩=some (.int .i64 0):=by
    rw [O.cell];have:=Fh (L:=n) (row:=BD (C.take k)) (by rw [DN,ah]; exact aQ)
    rwa [DN,ah] at this
   have d2:=O.frozen k;have dc:=O.lt;obtain⟨E,bO⟩:∃E,wr.setCell ⟨gr,k,none⟩ (.int .i64 (-1))=E:=⟨_,rfl⟩;have aq:Ac wr E (fun b=>b=gr):=by rw [<-bO]; exact(Ac.refl wr (fun b=>b=gr)).setCell (p:=⟨gr,k,none⟩) (fun _=>rfl) _
   have bk:Blk E gr 3 ((Bm n (BD (C.take k))).setIfInBounds k (.int .i64 (-1))):=by rw [<-bO]; exact O.set_ k _
   have bf:=a9.kept aq fun e=>BT O a9 e.symm;have ak:=aH.kept aq (aH.ne_ O (by decide));have a8:=aC.trans (aq.below aC.size fun b hb e=>by omega);obtain⟨bn,on,Ar,cr,row,rfl,ce,bt,cA,bE,bD,bF⟩:=Gt bZ.out cx.out (q:=k) (by omega);have cW:E.cell? ⟨bc,oc+k,none⟩=some (.int .i64 (x:Int)):=(a8.cell (by show bc<_; omega)).trans bo;have cU:=ak.cell;obtain⟨w5,dl,af,b9,cn⟩:=Ae E #[.int .i64 (x:Int)] 3;have ba:=a8.trans (af.mono a8.size);have cX:w5.cell? ⟨bn,on+k,none⟩=some (.slice Ar L cr):=(ba.cell ce).trans bt;have cV:=(ak.below af).cell;have bH:=a8.size;have dk:=af.size;have dm:=hv x (List.mem_of_getElem? J);have c9:=hide bk;have bg:=hide bf;have aE:=hide ak;have b8:=hide a8;have dn:=hide J;have cz:=hide bD;have bG:=hide bF;have aX:=hide bE;have c8:=hide (show w5.ownsRow E.heap.size 3 1 (.slice (some ⟨E.heap.size,0,none⟩) (0+1) 1) (0+1) ((Ak (Df cl row k 0)).map (Value.int .i64)) from by
    have:=DD (base:=E.heap.size) (n:=1) b9 (Nat.le_refl _) rfl (by omega);have e:Ak (Df cl row k 0)=[(x:Int)]:=by simp [Df,Ak,J]
    rw [e];exact this)
   have cc:=hide af;clear bk bf ak J bD bF a9 O aH bo bt cA aq a5 b9 cn bE ba af a8;have cw:¬n<=k:=by omega
   have cG:¬(x:Int)<0:=by omega
   go_wp2_with fail;clear cw cG;go_loopw [9,50] (fun vv ii wz=>∃(j a2 g:Nat),vv=.slice (some ⟨g,0,none⟩) (j+1) a2/\ii=.int .i64 (j:Int)/\j<=L/\Below E.heap.size E wz/\Hid (wz.ownsRow E.heap.size 3 1 (.slice (some ⟨g,0,none⟩) (j+1) a2) (j+1) ((Ak (Df cl row k j)).map (Value.int .i64)))) (fun _ ii _=>L - (intOf ii).toNat)
   case atStart=>exact⟨0,1,E.heap.size,rfl,rfl,Nat.zero_le _,cc.out,c8⟩
   case round=>
    obtain⟨j,a2,g,rfl,rfl,hj,I,hO⟩:=hrel;by_cases ck:j<L
    ·obtain⟨y,hy⟩:=An (l:=row) (i:=j) (by rw [aX.out]; exact ck);obtain⟨br,cK,rfl,cf,bu⟩:=Ex cz.out hy;have cH:=(bG.out j y hy).1;obtain⟨z,hz⟩:=An (l:=cl) (i:=y) (by omega);obtain⟨cd,bv⟩:=Im bs.out hz;have a3:=b8.out.trans (I.mono bH);have d0:wr.cell? ⟨br,cK+j,none⟩=some (.int .i64 (y:Int)):=(a3.cell cf).trans bu;have d1:wr.cell? ⟨bc,oc+y,none⟩=some (.int .i64 (z:Int)):=(a3.cell (by show bc<_; omega)).trans bv;have dp:y<n:=by rw [aw.out]; exact cH
     have cp:=hide (QH (cl:=cl) (q:=k) hy);have cJ:=hide (getD_some (d:=0) hz);have aY:=I.size;have bh:=hO;clear hy hz bu bv hO cd a3;go_wp2_with (at_builtin; refine BP C9 rfl _ _ rfl E.heap.size (.slice (some ⟨g,0,none⟩) (j+1) a2) (j+1) _ rfl bh.out [.int .i64 (z:Int)] 1 rfl rfl (by simp [Value.oneCell']) (by omega) aY ?_; intro g' b5 w6 cy co dh d5);have c7:w6.ownsRow E.heap.size 3 1 (.slice (some ⟨g',0,none⟩) (j+1+1) b5) (j+1+1) ((Ak (Df cl row k (j+1))).map (Value.int .i64)):=by
      rw [cp.out,EM,List.map_append,cJ.out];exact cy
     exact⟨⟨j+1,b5,g',rfl,by go_num,by omega,I.trans (co.below aY fun b hb e=>by have:=Bb bh.out e; omega),hide c7⟩,by simp [intOf]; omega⟩
    ·obtain rfl:j=L:=by omega
     have aO:=QF (t:=t) (cl:=cl) (q:=k) aX.out fun x y hh=>(bG.out x y hh).2;have au:(Df cl row k j).length=j+1:=QG (by rw [aX.out]; exact Nat.le_refl _);obtain⟨G,aP⟩:∃G,G=Df cl row k j:=⟨_,rfl⟩;have aJ:=hO.out;rw [<-aP] at aO au aJ;obtain⟨g0,c0,e0,bl,bp⟩:=Rq aJ au (by omega) (by omega);injection e0 with e1 _ e3
     injection e1 with e1
     injection e1 with e1
     subst e1 e3;have a5:(Ak G).length=j+1:=by simp [Ak,au]
     have a3:=b8.out.trans (I.mono bH);have cg:Calls Tryz.prog 74 #[.slice (some ⟨g,0,none⟩) (j+1) a2,.int .i64 (-1)] wr fun e w'=>e=.returned (.bool false)/\w'=wr:=by
      have h1:=Tryz.slices_Contains_int g 0 (j+1) a2 (Ak G) (-1) wr (by omega) (by omega) bp;have h2:((Ak G).take (j+1)).contains (-1)=false:=by
       rw [Bool.eq_false_iff];intro hh;have:=List.mem_of_mem_take (List.contains_iff_mem.1 hh);obtain⟨q,_,hq⟩:=List.mem_map.1 this;omega
      rw [h2] at h1;exact h1
     have bA:∀x∈G,x<1000000000:=by
      intro x J;rw [aP] at J;have hz:∀q,cl.getD q 0<250000:=fun q=>by
       rcases Nat.lt_or_ge q cl.length with hq | hq
       ·obtain⟨v,bM⟩:=An hq;rw [getD_some bM];exact hv v (List.mem_of_getElem? bM)
       ·rw [List.getD_eq_getElem?_getD,List.getElem?_eq_none hq]; simp
      unfold Df at J;rcases List.mem_cons.1 J with rfl | J
      ·have:=hz k; omega
      ·obtain⟨q,_,rfl⟩:=List.mem_map.1 J;have:=hz q; omega
     have bx:=JN (c:=a2) bl (Nat.le_refl _) bA (by omega) (ca.out.below a3);rw [a5] at bx;have bI:C.take (k+1)=C.take k++[G]:=by
      refine B5 ?_;rw [cq.out,aO];exact AX (List.getElem?_range (by have:=aw.out; omega))
     have bJ:=hide bI;have al:=bg.out.keep (I.block _ bg.out.lt);have aK:=c9.out.below I;have b7:=hide a3;have aY:=I.size;clear aO au aJ bl bp a5 a3 bA bI hO aP;go_wp2_with fail;refine cg.mono ?_;rintro e w' ⟨rfl,rfl⟩;go_wp2_with fail;refine Calls.ret bx ?_;rintro v w7 ⟨rfl,W⟩;have V:=al.keep (W.block _ al.lt);have M:=aK.below W;have bB:=Ft FV Tryz.underlying221 Fa V G;have ch:w7.cell? ⟨gr,k,none⟩=some (.int .i64 (-1)):=by
      rw [M.cell,Array.getElem?_setIfInBounds];rw [if_pos rfl,if_pos (by simp [Bm,DN,ah]; omega)]
     have d3:=M.frozen k;have de:=M.lt;have ai:=b7.out.trans (W.mono b7.out.size);by_cases U:G∈dd (C.take k)
     ·have ag:dd (C.take k++[G])=dd (C.take k):=by rw [Eo]; exact F0 U
      obtain⟨a4,a6,Z⟩:=Ja ag V M ah aQ;rw [<-bJ.out] at a4 a6;have aS:=hide a4;have aW:=hide a6;have aB:=ai.trans (Z.below ai.size fun b hb e=>by omega);have aj:=hide ((((aE.out.below I).below W)).kept Z (((aE.out.below I).below W).ne_ M (by decide)));simp only [U,if_true,decide_true,Dq,DA] at bB;clear a4 a6 U V M ag Z W al aK I;go_wp2_with fail;exact⟨⟨k+1,by go_num,by omega,aB,aj,aS,aW⟩,by simp [intOf]; omega⟩
     ·have ag:dd (C.take k++[G])=dd (C.take k)++[G]:=by rw [Eo]; exact FZ U
      simp only [U,if_false,decide_false,Dq,DA] at bB;obtain⟨w8,cF,bC,bw,cD⟩:=EY FV Tryz.underlying221 V G U;have ct:∀ty,(Builtin.len_ #[221] ty #[.map (some gm)]).run Tryz.prog w7=.ok (.int .i64 ((dd (C.take k)).length:Int)) w7:=fun ty=>by
       have:=GS (ty:=ty) Tryz.underlying221 V;simpa using this
      have ar:=Ac.of_grown bw;have aa:=M.kept ar (fun e=>BT M V (Option.some.inj e).symm);have cZ:w8.cell? ⟨gr,k,none⟩=some (.int .i64 (-1)):=by rw [aa.cell,<-M.cell,ch]
      have d4:=aa.frozen k;have df:=aa.lt;have aF:=(aE.out.below I).below W;have aG:=aF.kept ar (fun e=>BT aF V (Option.some.inj e).symm);obtain⟨a4,a6,Z⟩:=Ja ag bC aa ah aQ;have aj:=hide (aG.kept Z (aG.ne_ aa (by decide)));rw [<-bJ.out,ES U] at a4 a6;rw [ES U] at Z aj;have aS:=hide a4;have aW:=hide a6;have bd:=ai.trans (ar.below ai.size fun b hb e=>by have:=Option.some.inj e; omega);have aB:=bd.trans (Z.below bd.size fun b hb e=>by omega);simp only [Dq,DA] at cF;clear a4 a6 U V M ag bC bw cD ar aa Z aF aG W al aK I;go_wp2_with fail;exact⟨⟨k+1,by go_num,by omega,aB,aj,aS,aW⟩,by simp [intOf]; omega⟩
  ·obtain rfl:k=n:=by omega
   have a9:=hM.out;have ct:∀ty,(Builtin.len_ #[221] ty #[.map (some gm)]).run Tryz.prog wr=.ok (.int .i64 ((dd (C.take k)).length:Int)) wr:=fun ty=>by
    have:=GS (ty:=ty) Tryz.underlying221 a9;simpa using this
   clear a9;go_wp2_with fail
   go_ret2
   have a5:=aw.out;have cE:C.take k=C:=by rw [a5,<-aR.out,List.take_length]
   have O:=hR.out;rw [cE] at O ⊢;exact⟨aC,_,_,rfl,Jr O (by rw [DN,a5,aR.out]) (by omega)⟩
end Go.Proofs.YtfcfpoemojjglaaGreatDoor
namespace Go.Proofs.YtfcfpoemojjglaaGreatDoor
open Go.RowKit
set_option maxHeartbeats 16000000
set_option maxRecDepth 100000
section
variable {S:Type} [DecidableEq S] {L:Nat} {δ:S->Nat->S} {s0:S}
def AM (L:Nat) (δ:S->Nat->S) (all:List S) (i:Nat):List (List Nat):=(all.take i).map fun s=>(List.range L).map fun x=>Ax all (δ s x)
theorem GO {all all':List S} {i:Nat} (h:Exp L δ s0 i all) (y:all<+:all'):AM L δ all' i=AM L δ all i:=by
 have l:=h.inv.le;unfold AM;obtain⟨t,rfl⟩:=y;rw [List.take_append_of_le_length l];refine List.map_congr_left fun s C=>List.map_congr_left fun x E=>?_;obtain⟨j,d⟩:=List.mem_iff_getElem?.1 C;rw [List.getElem?_take] at d;split at d
 ·exact ET (List.prefix_append _ _) (h.inv.closed j s (by assumption) d x (List.mem_range.1 E))
 ·cases d
theorem GP {all:List S} {i:Nat} {s:S} (d:all[i]?=some s):AM L δ all (i+1)=AM L δ all i++[(List.range L).map fun x=>Ax all (δ s x)]:=by
 unfold AM;rw [B5 d,List.map_append];rfl
theorem D5 {all:List S} {i:Nat} (d:i<=all.length):(AM L δ all i).length=i:=by simp [AM]; omega
theorem Kp {s:S} {all:List S} {x y:Nat} (h:y<x):Ax (AZ δ s all (x+1)) (δ s y)=Ax (AZ δ s all x) (δ s y):=by
 rw [Cr];exact ET (F6 _ _) (Gb s all h)
end
def Do (w:World) (base:Nat) (v:Value) (t:List (List Nat)) (ac:List Bool):Prop:=
 ∃(vN vA:Value) (ws:List Value),v=.agg #[vN,vA]/\w.ownsRow base 4 1 vA ac.length (ac.map Value.bool)/\w.ownsRow base 24 1 vN t.length ws/\Cl w base (fun _=>True) ws (t.map Ak)
theorem Do.kept {w w':World} {base base':Nat} {v:Value} {t:List (List Nat)} {ac:List Bool} {X:Nat->Prop} (h:Do w base v t ac) (I:Ac w w' X) (C:∀g,X g->g<w.heap.size->g<base) (E:base'<=base):Do w' base' v t ac:=by
 obtain⟨vN,vA,ws,e,l,y,O⟩:=h;refine⟨vN,vA,ws,e,DC (I.ownsRow l fun g j e=>?_) E,DC (I.ownsRow y fun g j e=>?_) E,O.imp fun v d G=>⟨DC (I.ownsRow G.1 fun g j e=>?_) E,fun _ _=>trivial⟩⟩
 ·have J:=Bb l j;have M:=C g e (Cj l j);omega
 ·have J:=Bb y j;have M:=C g e (Cj y j);omega
 ·have J:=Bb G.1 j;have M:=C g e (Cj G.1 j);omega
theorem Do.read {w:World} {base:Nat} {v:Value} {t:List (List Nat)} {ac:List Bool} (h:Do w base v t ac) (M:∀r∈t,r.length<=4000000) (ht:t.length<=4000000) (U:ac.length<=4000000):Br w w.heap.size v t ac:=by
 obtain⟨vN,vA,ws,rfl,E,G,I⟩:=h;obtain⟨A1,c1,j,y⟩:=Cl.read I G ht (Nat.le_refl _) (fun d J=>by
  obtain⟨r,O,rfl⟩:=List.mem_map.1 J;have:=M r O;simpa [Ak] using this)
 obtain⟨A2,c2,l,C⟩:=Kg (B:=w.heap.size) E rfl (Nat.le_refl _) (by omega);rw [List.length_map] at j;exact⟨A1,c1,A2,c2,by rw [j,l],LD y,C⟩
structure QM (w0 wr:World) (g2 g4 g5 gm:Nat) (c2:Array Value) (kst st:List Nat) (t:List (List Nat)) (as':List Bool) (vS vN vA:Value) (ws:List Value) (N:Nat->Prop):Prop where
 below:Below w0.heap.size w0 wr
 b2:Blk wr g2 78 c2
 b4:Blk wr g4 78 #[sn0,sn0]
 b5:Blk wr g5 78 #[vN,vA]
 map:Bw wr gm (kst.map CR)
 sts:wr.ownsRow w0.heap.size 3 1 vS st.length ((Ak st).map (Value.int .i64))
 acc:wr.ownsRow w0.heap.size 4 1 vA as'.length (as'.map Value.bool)
 nxt:wr.ownsRow w0.heap.size 24 1 vN t.length ws
 nxtR:Cl wr w0.heap.size (fun g=>N g/\vS.ownBlock≠some g) ws (t.map Ak)
 ne:g2≠g5/\g4≠g5
 ge:w0.heap.size<=g2/\w0.heap.size<=g4/\w0.heap.size<=g5/\w0.heap.size<=gm
section
variable {w0 wr w':World} {g2 g4 g5 gm:Nat} {c2:Array Value} {kst st:List Nat} {t:List (List Nat)} {as':List Bool} {vS vN vA:Value} {ws:List Value} {N:Nat->Prop}
theorem QM.keep (h:QM w0 wr g2 g4 g5 gm c2 kst st t as' vS vN vA ws N) (d:Below wr.heap.size wr w'):QM w0 w' g2 g4 g5 gm c2 kst st t as' vS vN vA ws N:=
 ⟨h.below.trans (d.mono h.below.size),h.b2.below d,h.b4.below d,h.b5.below d,h.map.keep (d.block _ h.map.lt),Bt h.sts d,Bt h.acc d,Bt h.nxt d,
  h.nxtR.keep (Ac.of_below d (fun _=>False)) (fun _ _ _ e=>e.elim) (fun _ _ x=>x) (Nat.le_refl _),h.ne,h.ge⟩
theorem QM.weak {N':Nat->Prop} (h:QM w0 wr g2 g4 g5 gm c2 kst st t as' vS vN vA ws N) (d:∀g,g<wr.heap.size->N g->N' g):QM w0 wr g2 g4 g5 gm c2 kst st t as' vS vN vA ws N':=
 ⟨h.below,h.b2,h.b4,h.b5,h.map,h.sts,h.acc,h.nxt,h.nxtR.keep (Ac.refl wr (fun _=>False)) (fun _ _ _ e=>e.elim) (fun g j x=>⟨d g j x.1,x.2⟩) (Nat.le_refl _),h.ne,h.ge⟩
theorem QM.other (h:QM w0 wr g2 g4 g5 gm c2 kst st t as' vS vN vA ws N) {gr:Nat} {c3:Array Value} (C:∀g,N g->g≠gr) (hS:vS.ownBlock≠some gr) (j:Blk wr gr 3 c3) (y:w0.heap.size<=gr) (d:Ac wr w' (fun k=>k=gr)):QM w0 w' g2 g4 g5 gm c2 kst st t as' vS vN vA ws N:=
 ⟨h.below.trans (d.below h.below.size fun b G e=>by omega),h.b2.kept d (h.b2.ne_ j (by decide)),h.b4.kept d (h.b4.ne_ j (by decide)),h.b5.kept d (h.b5.ne_ j (by decide)),
  h.map.kept d (fun e=>BT j h.map e.symm),d.ownsRow h.sts (fun g y e=>hS (by rw [y,e])),
  AK d h.acc (fun g cs e l=>by subst e; exact l.ne_ j (by decide) rfl),AK d h.nxt (fun g cs e l=>by subst e; exact l.ne_ j (by decide) rfl),
  h.nxtR.keep d (fun g cs E e _=>C g E.1 e) (fun _ _ x=>x) (Nat.le_refl _),h.ne,h.ge⟩
theorem QM.addS {kv s:Nat} {vS':Value} {l w1:World} (h:QM w0 wr g2 g4 g5 gm c2 kst st t as' vS vN vA ws N) (M:Bw l gm ((kst++[kv]).map CR)) (C:wr.grownBy l (some gm)) (a4:l.heap.size=wr.heap.size)
  (I:Ac l w1 (fun k=>vS.ownBlock=some k)) (W:w1.ownsRow w0.heap.size 3 1 vS' (st.length+1) ((Ak st).map (Value.int .i64)++[.int .i64 (s:Int)])) (U:BJ l vS vS'):
  QM w0 w1 g2 g4 g5 gm c2 (kst++[kv]) (st++[s]) t as' vS' vN vA ws N/\Ac wr w1 (fun k=>gm=k\/vS.ownBlock=some k):=by
 have J:Ac wr l (fun k=>gm=k):=(Ac.of_grown C).mono fun b _ e=>Option.some.inj e;have d:Ac wr w1 (fun k=>gm=k\/vS.ownBlock=some k):=(J.mono fun _ _ e=>.inl e).trans I fun _ _ e=>.inr e;have y:∀{e:TypeId},e≠3->∀g cs,(gm=g\/vS.ownBlock=some g)->¬Blk wr g e cs:=by
  rintro e G g cs (E | E) hB
  ·exact BT hB h.map E.symm
  ·exact Aw h.sts hB (fun j=>G j.symm) E
 have Z:=J.ownsRow h.sts fun g C e=>Di h.sts h.map (by rw [C,e])
 refine⟨⟨h.below.trans (d.below h.below.size ?_),h.b2.kept d fun x=>y (by decide) _ _ x h.b2,h.b4.kept d fun x=>y (by decide) _ _ x h.b4,h.b5.kept d fun x=>y (by decide) _ _ x h.b5,
  M.kept I (Di Z M),?_,AK d h.acc (y (by decide)),AK d h.nxt (y (by decide)),?_,h.ne,h.ge⟩,d⟩
 ·rintro b hb (e | e)
  ·have:=h.ge; omega
  ·have:=Bb h.sts e; omega
 ·rw [List.length_append,EM,List.map_append];exact W
 ·refine h.nxtR.keep d ?_ ?_ (Nat.le_refl _)
  ·rintro g cs V (e | e) hB
   ·exact BT hB h.map e.symm
   ·exact V.2 e
  ·rintro g C ⟨G,O⟩;refine⟨G,fun e=>?_⟩;rcases U with j | ⟨g',j,a5⟩
   ·exact O (by rw [<-j]; exact e)
   ·rw [e] at j;have:=Option.some.inj j;omega
theorem QM.addA {b:Bool} {vA':Value} {w1:World} (h:QM w0 wr g2 g4 g5 gm c2 kst st t as' vS vN vA ws N) (E:Ac wr w1 (fun k=>vA.ownBlock=some k)) (V:w1.ownsRow w0.heap.size 4 1 vA' (as'.length+1) (as'.map Value.bool++[.bool b])):
  QM w0 (w1.setCell ⟨g5,1,none⟩ vA') g2 g4 g5 gm c2 kst st t (as'++[b]) vS vN vA' ws N:=by
 have I:=h.b5.kept E (Aw h.acc h.b5 (by decide));have G:=(Ac.refl w1 (fun k=>k=g5)).setCell (p:=⟨g5,1,none⟩) (fun _=>rfl) vA';have d:Ac wr (w1.setCell ⟨g5,1,none⟩ vA') (fun k=>vA.ownBlock=some k\/k=g5):=(E.mono fun _ _ e=>.inl e).trans G fun _ _ e=>.inr e;have y:∀{e:TypeId},e≠4->e≠78->∀g cs,(vA.ownBlock=some g\/g=g5)->¬Blk wr g e cs:=by
  rintro e J M g cs (l | l) j
  ·exact Aw h.acc j (fun O=>J O.symm) l
  ·exact j.ne_ h.b5 M l
 have C:∀{g:Nat} {cs:Array Value},Blk wr g 78 cs->g≠g5->¬(vA.ownBlock=some g\/g=g5):=by
  rintro g cs j U (e | e)
  ·exact Aw h.acc j (by decide) e
  ·exact U e
 refine⟨h.below.trans (d.below h.below.size ?_),h.b2.kept d (C h.b2 h.ne.1),h.b4.kept d (C h.b4 h.ne.2),I.set_ 1 vA',h.map.kept d ?_,AK d h.sts (y (by decide) (by decide)),?_,AK d h.nxt (y (by decide) (by decide)),
  h.nxtR.keep d (fun g cs _ e=>y (by decide) (by decide) g cs e) (fun _ _ x=>x) (Nat.le_refl _),h.ne,h.ge⟩
 ·rintro b W (e | e)
  ·have:=Bb h.acc e; omega
  ·have:=h.ge; omega
 ·rintro(e | e)
  ·exact Di h.acc h.map e
  ·exact BT h.b5 h.map e.symm
 ·rw [List.length_append,List.map_append];exact AK G V (fun g cs e j=>by subst e; exact j.ne_ I (by decide) rfl)
theorem QM.addR {row:List Nat} {gr c:Nat} {vN':Value} {w1:World} (h:QM w0 wr g2 g4 g5 gm c2 kst st t as' vS vN vA ws N)
  (hr:wr.ownsRow w0.heap.size 3 1 (.slice (some ⟨gr,0,none⟩) row.length c) row.length ((Ak row).map (Value.int .i64))) (hS:vS.ownBlock≠some gr)
  (E:Ac wr w1 (fun k=>vN.ownBlock=some k)) (Z:w1.ownsRow w0.heap.size 24 1 vN' (t.length+1) (ws++[.slice (some ⟨gr,0,none⟩) row.length c])):
  QM w0 (w1.setCell ⟨g5,0,none⟩ vN') g2 g4 g5 gm c2 kst st (t++[row]) as' vS vN' vA (ws++[.slice (some ⟨gr,0,none⟩) row.length c]) (fun _=>True):=by
 have I:=h.b5.kept E (Aw h.nxt h.b5 (by decide));have G:=(Ac.refl w1 (fun k=>k=g5)).setCell (p:=⟨g5,0,none⟩) (fun _=>rfl) vN';have d:Ac wr (w1.setCell ⟨g5,0,none⟩ vN') (fun k=>vN.ownBlock=some k\/k=g5):=(E.mono fun _ _ e=>.inl e).trans G fun _ _ e=>.inr e;have l:∀{e:TypeId},e≠24->e≠78->∀g cs,(vN.ownBlock=some g\/g=g5)->¬Blk wr g e cs:=by
  rintro e M O g cs (y | y) j
  ·exact Aw h.nxt j (fun V=>M V.symm) y
  ·exact j.ne_ h.b5 O y
 have C:∀{g:Nat} {cs:Array Value},Blk wr g 78 cs->g≠g5->¬(vN.ownBlock=some g\/g=g5):=by
  rintro g cs j W (e | e)
  ·exact Aw h.nxt j (by decide) e
  ·exact W e
 refine⟨h.below.trans (d.below h.below.size ?_),h.b2.kept d (C h.b2 h.ne.1),h.b4.kept d (C h.b4 h.ne.2),I.set_ 0 vN',h.map.kept d ?_,AK d h.sts (l (by decide) (by decide)),AK d h.acc (l (by decide) (by decide)),?_,?_,h.ne,h.ge⟩
 ·rintro b hb (e | e)
  ·have:=Bb h.nxt e; omega
  ·have:=h.ge; omega
 ·rintro(e | e)
  ·exact Di h.nxt h.map e
  ·exact BT h.b5 h.map e.symm
 ·rw [List.length_append];exact AK G Z (fun g cs e j=>by subst e; exact j.ne_ I (by decide) rfl)
 ·rw [List.map_append];refine Cl.snoc (h.nxtR.keep d (fun g cs _ e=>l (by decide) (by decide) g cs e) (fun _ _ x=>⟨trivial,x.2⟩) (Nat.le_refl _)) ?_ ?_
  ·have:=AK d hr (l (by decide) (by decide));have J:(Ak row).length=row.length:=by simp [Ak]
   rw [J];exact this
  ·intro g U;refine⟨trivial,fun e=>hS ?_⟩;have:gr=g:=by simpa [Value.ownBlock] using U
   rw [this];exact e
theorem QM.finO {wF:World} (h:QM w0 wr g2 g4 g5 gm c2 kst st t as' vS vN vA ws N) (y:Ac wr wF (fun k=>k=g4\/k<w0.heap.size)):
  Do wF w0.heap.size (.agg #[vN,vA]) t as':=by
 have G:=h.ge;have E:=y.ownsRow h.nxt fun g j e=>by
  rcases e with e | e
  ·exact Aw h.nxt h.b4 (by decide) (by rw [j,e])
  ·have:=Bb h.nxt j; omega
 have C:=y.ownsRow h.acc fun g j e=>by
  rcases e with e | e
  ·exact Aw h.acc h.b4 (by decide) (by rw [j,e])
  ·have:=Bb h.acc j; omega
 exact⟨vN,vA,ws,rfl,C,E,h.nxtR.imp fun v d l=>⟨y.ownsRow l.1 fun g j e=>by
  rcases e with e | e
  ·exact Aw l.1 h.b4 (by decide) (by rw [j,e])
  ·have:=Bb l.1 j; omega,fun _ _=>trivial⟩⟩
end
end Go.Proofs.YtfcfpoemojjglaaGreatDoor
