/-
  Part PE of a proof.
-/
import Derived.WalkMore
import Derived.ScopeJumps
import Derived.Shelf.LaysM
import Derived.Shelf.Sort.Plain
import Derived.Ground.NamesProg
import Derived.Ground.Names2Prog
import Derived.Shelf.Slices.Equal
import Derived.Shelf.Slices.Turned
import Derived.Shelf.Slices.Empties2
import Derived.Test.YtfcfpoemojjglaaGreatDoorProg
import Derived.ArgAppend
import Derived.Deep.LoopGhost
import Derived.Test.YtfcfpoemojjglaaGreatDoorPS
import Derived.Test.YtfcfpoemojjglaaGreatDoorPA
import Derived.Test.YtfcfpoemojjglaaGreatDoorPB
set_option maxHeartbeats 16000000
set_option maxRecDepth 100000
set_option linter.unusedVariables false
set_option linter.unusedSimpArgs false
namespace Go.Proofs.YtfcfpoemojjglaaGreatDoor
open Go.RowKit
set_option maxHeartbeats 16000000
set_option maxRecDepth 100000
def CW:Code→List Code
 | .region i o d=>[.region i o d]
 | .loop c=>CW c
 | .seq a b=>CW a++CW b
 | .block _ c=>CW c
 | .scope c=>CW c
 | .cond _ a b=>CW a++CW b
 | _=>[]
def Eu (f:Func) (k:Nat):Code:=match f.body with
 | some c=>(CW c).getD k .skip
 | none=>.skip
structure CP (w0 w:World) (l:List (Nat×TypeId×Array Value)):Prop where
 below:Below w0.heap.size w0 w
 blk:∀x∈l,Blk w x.1 x.2.1 x.2.2∧w0.heap.size≤x.1
 nodup:(l.map (·.1)).Nodup
theorem CP.nil (w:World):CP w w []:=⟨Below.refl _ _,fun _ h=>by simp at h,by simp⟩
theorem CP.add {w0 w C:World} {l:List (Nat×TypeId×Array Value)} (h:CP w0 w l) (E:Below w.heap.size w C) {g:Nat} {e:TypeId} {cs:Array Value} (F:Blk C g e cs) (G:w.heap.size≤g):CP w0 C ((g,e,cs)::l):=by
 refine⟨h.below.trans (E.mono h.below.size),fun x y=>?_,?_⟩
 ·rcases List.mem_cons.1 y with rfl | y
  ·exact⟨F,Nat.le_trans h.below.size G⟩
  ·exact⟨(h.blk x y).1.below E,(h.blk x y).2⟩
 ·rw [List.map_cons,List.nodup_cons]
  refine⟨fun y=>?_,h.nodup⟩
  obtain⟨x,y,e⟩:=List.mem_map.1 y
  have:=(h.blk x y).1.lt
  dsimp only at e
  omega
theorem CP.drew {w0 w:World} {l:List (Nat×TypeId×Array Value)} (h:CP w0 w l):CP w0 w.drew l:=
 ⟨h.below.trans ((Ap w).mono h.below.size),h.blk,h.nodup⟩
theorem CP.pick {w0 w:World} {l:List (Nat×TypeId×Array Value)} (h:CP w0 w l) (y:List (Nat×TypeId×Array Value)) (C:∀x∈y,x∈l) (E:(y.map (·.1)).Nodup):CP w0 w y:=
 ⟨h.below,fun x F=>h.blk x (C x F),E⟩
def set4t (w:World) (g:Nat) (v0 v1 v2 v3:Value):World:=(((w.setCell ⟨g,0,none⟩ v0).setCell ⟨g,1,none⟩ v1).setCell ⟨g,2,none⟩ v2).setCell ⟨g,3,none⟩ v3
theorem Lg {w:World} {g:Nat} {e:TypeId} {a0 a1 G I:Value} (h:Blk w g e #[a0,a1,G,I]) (x y C E:Value):∃F,set4t w g x y C E=F∧Blk F g e #[x,y,C,E]∧Ac w F (fun k=>k=g):=
 ⟨_,rfl,(((h.set_ 0 x).set_ 1 y).set_ 2 C).set_ 3 E,
  ((((Ac.refl w (fun k=>k=g)).setCell (p:=⟨g,0,none⟩) (fun _=>rfl) x).setCell (p:=⟨g,1,none⟩) (fun _=>rfl) y).setCell (p:=⟨g,2,none⟩) (fun _=>rfl) C).setCell (p:=⟨g,3,none⟩) (fun _=>rfl) E⟩
theorem CP.set4t {w0 w:World} {l:List (Nat×TypeId×Array Value)} {g:Nat} {e:TypeId} {a b c d:Value} (h:CP w0 w ((g,e,#[a,b,c,d])::l)) (E F G I:Value):CP w0 (set4t w g E F G I) ((g,e,#[E,F,G,I])::l):=by
 have C:=(h.blk _ List.mem_cons_self)
 obtain⟨U,O,M,hk⟩:=Lg C.1 E F G I
 rw [O]
 refine⟨h.below.trans (hk.below h.below.size fun b M e=>by have:=C.2; dsimp only at this; omega),fun x y=>?_,h.nodup⟩
 rcases List.mem_cons.1 y with rfl | y
 ·exact⟨M,C.2⟩
 ·have h1:=h.blk x (List.mem_cons_of_mem _ y)
  refine⟨Blk.kept h1.1 hk fun e=>?_,h1.2⟩
  have J:=h.nodup
  rw [List.map_cons,List.nodup_cons] at J
  exact J.1 (List.mem_map.2 ⟨x,y,e⟩)
section
variable {P:Program} {ops:Array Oper} {rest:List Oper} {o:Oper} {a:Act} {Q:Exit→Act→World→Prop}
theorem Ul {w:World} {t bytes sz:Nat} {z:Value} (F:(P.info? t).map (fun i=>(i.zero,i.size,i.bytes))=some (some z,sz,bytes))
  (E:o.guard=none) (ho:o.op=.alloc t)
  (h:∀g x,Blk x g t z.cells→Below w.heap.size w x→w.heap.size≤g→wpList P ops Q rest (a.put o.dst (.pointer (some ⟨g,0,none⟩))) x):wpList P ops Q (o::rest) a w:=by
 refine wpList_plain E fun K C=>?_
 obtain⟨i,h1,y,I,J⟩:=info_parts F
 have G:(Instr.alloc t true (.tuple #[])).run P w=.ok (.pointer (some ⟨w.heap.size,0,none⟩)) (w.alloc (.cells z.cells t)):=by
  simp [Instr.alloc,zeroValue,typeInfo,go_sem,h1,y]
 unfold Oper.wp execOp
 simp only [ho,Sem.run_bind,Sem.run_pure,Result.andThen_ok,G]
 exact C _ _ (h _ _ (Blk.new _ _ _) ((Below.refl _ _).alloc (Nat.le_refl _) _) (Nat.le_refl _))
end
namespace Reg
theorem rest_walkE {P:Program} {Q:Bo} {a:Act} {w:World} {l l1:List Oper} {tab D T:List Nat} (x C:List Nat) (E:x++C=T) (G:pick l.toArray x=l1)
  (F:(x.all (fun i=>decide (i<l.length))&&DS P false l.toArray tab x&&D.all (fun r=>x.all fun y=>match l.toArray[r]?,l.toArray[y]? with
   | some q,some oy=>!Bq q.op||!eff P false oy||Bl tab r y
   | _,_=>true))=true)
  (h:∀Qf:Bo,(∀a w,CB P l.toArray tab Q (x++D) C a w→Qf .normal a w)→wpList P l.toArray Qf l1 a w):CB P l.toArray tab Q D T a w:=by
 subst E
 exact rest_walk' x C G F h
end Reg
theorem Qo:(Tryz.prog.info? 88).map (fun i=>(i.zero,i.size,i.bytes))=some (some (.agg #[.int .i64 0,.slice none 0 0,.slice none 0 0,.slice none 0 0]),4,80):=by kernel_rfl
theorem QT (z:Value) (n:Nat):madeCells #[z] (n*1)=(List.replicate n z).toArray:=by rw [HA,KH]
theorem Rg {w:World} {I n c1 c2 k1 k2 B:Nat} {L:Int} {v4:Value} {A1 A2:Option Addr} {acc:List Int} (hn:n≤200000) (aT:Blk w I 35 #[.int .i64 L,.int .i64 (n:Int),.slice A1 k1 c1,.slice A2 k2 c2,v4])
    (h2:Sl w B 1 Ai A2 acc) (V:k2=acc.length) (y:B≤w.heap.size) (U:∀x∈acc,inN n x=true) {v2:Value}
    {W u3 u4 u5 u6 u7 u8 u9 b4 b5 b6 b7 b8 b9 ba bb bc bd Z a2 a3 a4 a5 a6 a7 a8 a9 aa ab ac ad ae af ag ah ai aj ak am an ao ap aq ar au av aw ax az aA aB aC aD aE aF aG aH aJ aL aM aN aO u64 aP:Value}
    {Q:Exit→Act→World→Prop} (hN:Reg.NoQ Q)
    (hQ:∀(x7 x8 x9 bi bj bk bl bm bn bo bp bq br:Value) (w':World) (g3 gn gm:Nat),CP w w' [(g3,88,#[.int .i64 L,.slice (some ⟨gn,0,none⟩) n n,.slice A1 k1 c1,.slice (some ⟨gm,0,none⟩) n n]),(gn,75,(List.replicate n (Value.slice none 0 0)).toArray),(gm,4,((BN n acc).map Value.bool).toArray)]→
      Q .normal ⟨List.toArray (W::(.pointer (some ⟨I,0,none⟩))::v2::(.pointer (some ⟨g3,0,none⟩))::u4::u5::u6::x7::x8::x9::bi::bj::bk::bl::bm::bn::bo::bp::bq::br::Z::a2::a3::a4::a5::a6::a7::a8::a9::aa::
      ab::ac::ad::ae::af::ag::ah::ai::aj::ak::am::an::ao::ap::aq::ar::au::av::aw::ax::az::aA::aB::aC::aD::aE::aF::aG::aH::aJ::aL::aM::aN::aO::u64::aP::[]),[]⟩ w'):
    (Eu Tryz.f41 1).wp Tryz.prog Q ⟨List.toArray (W::(.pointer (some ⟨I,0,none⟩))::v2::u3::u4::u5::u6::u7::u8::u9::b4::b5::b6::b7::b8::b9::ba::bb::bc::bd::Z::a2::a3::a4::a5::a6::a7::a8::a9::aa::ab::ac::ad::ae::af::
      ag::ah::ai::aj::ak::am::an::ao::ap::aq::ar::au::av::aw::ax::az::aA::aB::aC::aD::aE::aF::aG::aH::aJ::aL::aM::aN::aO::u64::aP::[]),[]⟩ w:=by
  conv=>arg 2; whnf
  have bv:=aT.cell
  have aY:=hide V
  have aX:=hide U
  clear V U
  refine Reg.region_spl [0,1,0,4,12,0,32,0,128,0,512,1920,4095,0,16383] (.node 4 11 (.node 4 13 (.node 11 13 (.node 12 13 (.leaf [0,1,2,3,5,6,7,8,9,10,4,11,12,13,14]) (.leaf [0,1,2,3,5,6,7,8,9,10,4,11,13,12,14])) (.leaf [0,1,2,3,5,6,7,8,9,10,4,13,11,12,14])) (.leaf [0,1,2,3,5,6,7,8,9,10,13,4,11,12,14])) (.node 4 13 (.node 12 13 (.leaf [0,1,2,3,5,6,7,8,9,10,11,4,12,13,14]) (.leaf [0,1,2,3,5,6,7,8,9,10,11,4,13,12,14])) (.node 11 13 (.leaf [0,1,2,3,5,6,7,8,9,10,11,13,4,12,14]) (.leaf [0,1,2,3,5,6,7,8,9,10,13,11,4,12,14])))) (by kernel_rfl) hN ?_
  dsimp only [Reg.Spl.goal]
  have C:=(CP.nil w).drew
  repeat' (with_reducible refine And.intro ?_ ?_)
  all_goals
    refine Reg.rest_walkE [0,1,2,3,5,6,7,8,9,10] _ rfl rfl (by kernel_rfl) ?_
    intro Qf h
    go_wp2_with fail
    refine h _ _ ?_
    clear h
    iterate 5
      first
      | (refine Reg.rest_act' 4 _ [1,6,8,10] rfl (by kernel_rfl) ?_
         intro Qf h
         simp only [gT,gS,gZ]
         refine LG Tryz.underlying86 Qk (by omega) (by omega) n (by omega) rfl _ _ rfl rfl rfl ?_
         intro gn M E y F
         first | refine h _ _ ⟨Reg.same_below y _ rfl,?_⟩ | refine⟨Reg.same_below y _ rfl,?_⟩
         replace C:=C.add y E F
         try clear h
         clear E y F)
      | (refine Reg.rest_act' 11 _ [1,3,6] rfl (by kernel_rfl) ?_
         intro Qf h
         simp only [gT,gS,gZ]
         go_wp2_with fail
         rw [aY.out]
         refine Calls.ret (Q3 (h2.keep (B':=B) (fun p hp=>C.below.cell (by omega)) (Nat.le_refl _)) (by have:=C.below.size; omega) hn aX.out) ?_
         rintro v M ⟨y,⟨gm,-,rfl,E⟩,O⟩
         have F:=O gm rfl
         rw [Dh]
         go_wp2_with fail
         first | refine h _ _ ⟨Reg.same_below y _ rfl,?_⟩ | refine⟨Reg.same_below y _ rfl,?_⟩
         replace C:=C.add y E F
         try clear h
         clear E y F O)
      | (refine Reg.rest_walkE [13] _ rfl rfl (by kernel_rfl) ?_
         intro Qf h
         refine Ul Qo rfl rfl ?_
         intro g3 M E y F
         refine h _ _ ?_
         replace C:=C.add y E F
         try clear h
         clear E y F)
      | (refine Reg.rest_walkE [12] _ rfl rfl (by kernel_rfl) ?_
         intro Qf h
         go_wp2_with fail
         first | refine h _ _ ?_ | skip
         try clear h)
      | (refine Reg.rest_walkE [14] _ rfl rfl (by kernel_rfl) ?_
         intro Qf h
         have G:=(C.blk (g3,88,#[.int .i64 0,.slice none 0 0,.slice none 0 0,.slice none 0 0]) (by simp [Value.cells])).1
         have bw:=G.cell
         have bx:=G.frozen
         have bz:=G.lt
         clear G
         go_wp2_with fail
         first | refine h _ _ ?_ | skip
         try clear h)
    refine Reg.rest_end ?_
    obtain⟨aV,aW,b0⟩:=C
    simp only [List.map_cons,List.map_nil,List.nodup_cons,List.mem_cons,List.not_mem_nil,not_or,or_false,List.nodup_nil,not_false_eq_true,and_true] at b0
    refine hQ _ _ _ _ _ _ _ _ _ _ _ _ _ _ g3 gn gm ?_
    have aS:CP w M [(g3,88,#[.int .i64 0,.slice none 0 0,.slice none 0 0,.slice none 0 0]),(gn,75,(List.replicate n (Value.slice none 0 0)).toArray),(gm,4,((BN n acc).map Value.bool).toArray)]:=by
      refine⟨aV,?_,?_⟩
      · intro x J
        rw [←QT] at J
        refine aW x ?_
        simp only [List.mem_cons,List.not_mem_nil,or_false] at J ⊢
        rcases J with rfl | rfl | rfl
        · first | exact .inl rfl | exact .inr (.inl rfl) | exact .inr (.inr rfl)
        · first | exact .inl rfl | exact .inr (.inl rfl) | exact .inr (.inr rfl)
        · first | exact .inl rfl | exact .inr (.inl rfl) | exact .inr (.inr rfl)
      · simp only [List.map_cons,List.map_nil,List.nodup_cons,List.mem_cons,List.not_mem_nil,not_or,or_false,List.nodup_nil,not_false_eq_true,and_true]
        omega
    exact aS.set4t _ _ _ _
end Go.Proofs.YtfcfpoemojjglaaGreatDoor
namespace Go.Proofs.YtfcfpoemojjglaaGreatDoor
open Go.RowKit
set_option maxHeartbeats 16000000
set_option maxRecDepth 100000
def Bi (n:Nat) (f:Nat→Value):Array Value:=((List.range n).map f).toArray
theorem Fo (n:Nat) (z:Value):Array.replicate n z=Bi n fun _=>z:=by
 apply Array.ext'
 simp [Bi,List.map_const']
end Go.Proofs.YtfcfpoemojjglaaGreatDoor
namespace Go.Proofs.YtfcfpoemojjglaaGreatDoor
open Go.RowKit
set_option maxHeartbeats 16000000
set_option maxRecDepth 100000
theorem QU (z:Value) (n:Nat):madeCells #[z] (n*1)=Bi n fun _=>z:=by rw [HA,Fo]
end Go.Proofs.YtfcfpoemojjglaaGreatDoor
namespace Go.Proofs.YtfcfpoemojjglaaGreatDoor
open Go.RowKit
set_option maxHeartbeats 16000000
set_option maxRecDepth 100000
def Bc (m:List Bool):List Nat:=(List.range m.length).filter fun q=>m.getD q false
theorem Fx (m:List Bool):AJ m=Ak (Bc m):=rfl
theorem GW {m:List Bool} {n:Nat} (y:m.length=n):∀x∈Bc m,x<n:=fun x h=>by
 have:=List.mem_range.1 (List.mem_filter.1 h).1
 omega
def DA (l:List Nat):ByteArray:=⟨(Cw l).toArray⟩
theorem QE (a b:List Nat) (h:DA a=DA b):a=b:=by
 unfold DA at h
 injection h with h
 exact JM (by simpa using congrArg Array.toList h)
def Dq (l:List Nat):Value:=.string (DA l)
theorem FV:El Tryz.prog 9 Dq:=QL Tryz.underlying9 DA QE
theorem Fa (w:World):(zeroValue 3).run Tryz.prog w=.ok (.int .i64 0) w:=by kernel_rfl
def Ax {S:Type} [DecidableEq S] (l:List S) (a:S):Nat:=l.idxOf a
end Go.Proofs.YtfcfpoemojjglaaGreatDoor
namespace Go.Proofs.YtfcfpoemojjglaaGreatDoor
open Go.RowKit
set_option maxHeartbeats 16000000
set_option maxRecDepth 100000
end Go.Proofs.YtfcfpoemojjglaaGreatDoor
namespace Go.Proofs.YtfcfpoemojjglaaGreatDoor
open Go.RowKit
set_option maxHeartbeats 16000000
set_option maxRecDepth 100000
end Go.Proofs.YtfcfpoemojjglaaGreatDoor
namespace Go.Proofs.YtfcfpoemojjglaaGreatDoor
open Go.RowKit
set_option maxHeartbeats 16000000
set_option maxRecDepth 100000
def Ih:Code→Code
 | .scope c=>c
 | .seq a b=>match Ih a with
  | .skip=>Ih b
  | c=>c
 | _=>.skip
end Go.Proofs.YtfcfpoemojjglaaGreatDoor
namespace Go.Proofs.YtfcfpoemojjglaaGreatDoor
open Go.RowKit
set_option maxHeartbeats 16000000
set_option maxRecDepth 100000
abbrev sn0:Value:=.slice none 0 0
theorem F1 (t:TypeId) (w:World):∃gm h,(Instr.makeMap t none).run Tryz.prog w=.ok (.map (some gm)) h∧Bw h gm []∧Below w.heap.size w h∧w.heap.size≤gm:=
 ⟨_,_,run_makeMap t w,Bw.made w,(Below.refl _ _).alloc (Nat.le_refl _) _,Nat.le_refl _⟩
theorem IB {l:Nat} {J:Act→World→Prop} {Q:Exit→Act→World→Prop} (h:Reg.NoQ Q):Reg.NoQ (Exit.jump l J Q):=⟨fun c a w x=>h.1 c a w x,fun a w x=>h.2 a w x⟩
end Go.Proofs.YtfcfpoemojjglaaGreatDoor
namespace Go.Proofs
open Go.Shelf
def Tryz.lays107_ren:Go.Shelf.Ren:=⟨fun | 107=>74 | 108=>124 | n=>n,fun | 28=>24 | 3=>3 | 4=>4 | 0=>0 | n=>n,fun | n=>n⟩
theorem Tryz.lays107:Go.Proofs.Lays.n107 Tryz.prog Tryz.lays107_ren:={
 mixed:=by kernel_rfl
 f107:=Tryz.func74.trans (congrArg some (by kernel_rfl))
 f108:=Tryz.func124.trans (congrArg some (by kernel_rfl))
 t0:=Tryz.underlying0
 a0:=Tryz.isAgg0
 z0:=Tryz.sizeOf0
 v0:=Tryz.zeroValue0
 t3:=Tryz.underlying3
 a3:=Tryz.isAgg3
 z3:=Tryz.sizeOf3
 v3:=Tryz.zeroValue3
 t4:=Tryz.underlying4
 a4:=Tryz.isAgg4
 z4:=Tryz.sizeOf4
 v4:=Tryz.zeroValue4
 t28:=Tryz.underlying24
 a28:=Tryz.isAgg24
 z28:=Tryz.sizeOf24
 v28:=Tryz.zeroValue24 }
open Go.Lib in
theorem Tryz.slices_Contains_int (b off n c:Nat) (zs:List Int) (x:Int) (w:World) (C:n≤zs.length) (h:n≤9223372036854775807) (y:∀j,j<zs.length→w.cell? ⟨b,off+j,none⟩=some (.int .i64 (zs.getD j 0))):
  Calls Tryz.prog 74 #[.slice (some ⟨b,off,none⟩) n c,.int .i64 x] w fun e w'=>e=.returned (.bool ((zs.take n).contains x))∧w'=w:=Any.slices_Contains_int Tryz.lays107 b off n c zs x w C h y
end Go.Proofs
namespace Go.Proofs.YtfcfpoemojjglaaGreatDoor
open Go.RowKit
set_option maxHeartbeats 16000000
set_option maxRecDepth 100000
section
variable {S:Type} [DecidableEq S]
def dd (l:List S):List S:=l.foldl Bs []
end
def CR (n:Nat):Value:=.int .i64 (n:Int)
theorem Ex {w:World} {B:Nat} {A:Option Addr} {l:List Nat} (h:Sl w B 1 Ai A (Ak l)) {i x:Nat} (C:l[i]?=some x):∃b off,A=some ⟨b,off,none⟩∧b<B∧w.cell? ⟨b,off+i,none⟩=some (.int .i64 (x:Int)):=by
 obtain⟨b,off,e,E,F⟩:=h.2 (by
  intro e
  have:=AP C
  have y:(Ak l).length=l.length:=by simp [Ak]
  rw [e] at y
  simp at y
  omega)
 have:=F i (x:Int) (AX C) 0 (by omega)
 exact⟨b,off,e,E,by simpa [Ai] using this⟩
theorem PY (s:Bool) (es:List MapEntry):∀(l:List Bool) (i:Nat),es.map (·.key)=l.map Value.bool→
  Instr.findNow .bool (.bool s) es i=some (if s∈l then some (i+l.idxOf s,((es[l.idxOf s]?).map (·.val)).getD .nilFunc) else none):=by
 induction es with
 | nil=>
  intro l i h
  have:l=[]:=by cases l <;> simp_all
  subst this
  simp [Instr.findNow]
 | cons e es ih=>
  intro l i h
  cases l with
  | nil=>simp at h
  | cons t l=>
   simp only [List.map_cons,List.cons.injEq] at h
   obtain⟨h1,C⟩:=h
   unfold Instr.findNow
   rw [h1]
   simp only [Instr.sameNow]
   by_cases x:s=t
   ·subst x
    simp
   ·have F:(s==t)=false:=by simpa using x
    rw [F]
    dsimp only
    rw [ih l (i+1) C]
    have E:(t::l).idxOf s=l.idxOf s+1:=by
     rw [List.idxOf_cons]
     have:(t==s)=false:=by simpa using fun e=>x e.symm
     rw [this]; rfl
    by_cases y:s∈l
    ·simp only [y,E,List.mem_cons,or_true,if_true,List.getElem?_cons_succ,Option.some.injEq,Prod.mk.injEq,and_true]; omega
    ·simp [y,x]
theorem Gy:El Tryz.prog 4 Value.bool where
 check:=fun x w s=>by
  rw [show(10000:Nat)=9999+1 from rfl]
  unfold Instr.checkKey
  simp [run_underlying Tryz.underlying4]
 find:=fun w s es l h=>by
  unfold Instr.findKey
  simp only [Sem.run_bind,run_underlying Tryz.underlying4,Result.andThen_ok]
  rw [PY s es l 0 h]
  simp
theorem KV {S:Type} [DecidableEq S] {P:Program} {K:TypeId} {enc:S→Value} (hk:El P K enc) {T E:TypeId} (G:P.underlying T=some (.map K E)) {w:World} {g:Nat} {l:List S}
  (h:Bw w g (l.map enc)) {s:S} (x:s∈l):
  (Instr.lookup T (.map (some g)) (enc s) false).run P w=.ok (.int .i64 (Ax l s:Int)) w:=by
 obtain⟨es,y,h1,C,F⟩:=h
 have J:(getObj g).run P w=.ok (.map es y) w:=by simp [getObj,Sem.run,h1]
 have I:=hk.find w s es.toList l C
 unfold Instr.lookup
 simp only [Sem.run_bind,run_underlying G,Result.andThen_ok,J,Sem.run_pure,hk.check,I]
 simp only [x,if_true]
 rw [JE F (by rw [List.length_map]; exact List.idxOf_lt_length_of_mem x)]
 rfl
theorem GS {P:Program} {T K E ty:TypeId} (C:P.underlying T=some (.map K E)) {w:World} {g:Nat} {ks:List Value} (h:Bw w g ks):
  (Builtin.len_ #[T] ty #[.map (some g)]).run P w=.ok (.int .i64 (ks.length:Int)) w:=by
 obtain⟨es,x,h1,y,I⟩:=h
 have F:(getObj g).run P w=.ok (.map es x) w:=by simp [getObj,Sem.run,h1]
 have G:es.size=ks.length:=by rw [←y]; simp
 simp [Builtin.len_,run_underlying C,F,goInt,G]
end Go.Proofs.YtfcfpoemojjglaaGreatDoor
namespace Go.Proofs.YtfcfpoemojjglaaGreatDoor
open Go.RowKit
set_option maxHeartbeats 16000000
set_option maxRecDepth 100000
theorem Im {w:World} {B b off:Nat} {l:List Nat} (h:Sl w B 1 Ai (some ⟨b,off,none⟩) (Ak l)) {i x:Nat} (E:l[i]?=some x):b<B∧w.cell? ⟨b,off+i,none⟩=some (.int .i64 (x:Int)):=by
 obtain⟨F,G,e,y,C⟩:=Ex h E
 cases e
 exact⟨y,C⟩
theorem Rq {w:World} {base n:Nat} {v:Value} {l:List Nat} (h:w.ownsRow base 3 1 v n ((Ak l).map (Value.int .i64))) (G:l.length=n) (h0:0<n) (O:n≤4000000):
  ∃g c,v=.slice (some ⟨g,0,none⟩) n c∧Sl w w.heap.size 1 Ai (some ⟨g,0,none⟩) (Ak l)∧∀j,j<(Ak l).length→w.cell? ⟨g,0+j,none⟩=some (.int .i64 ((Ak l).getD j 0)):=by
 obtain⟨x,I⟩:=An (l:=l) (i:=0) (by omega)
 obtain⟨g,c,rfl,-⟩:=C7 h (AX (f:=Value.int .i64) (AX (f:=fun x:Nat=>(x:Int)) I))
 obtain⟨A,c',e,hS⟩:=B8 h (by simp [Ak,G]) (Nat.le_refl _) (by omega)
 injection e with E F J
 subst E
 refine⟨g,c,rfl,hS,fun j M=>?_⟩
 have F:(Ak l).length=l.length:=by simp [Ak]
 obtain⟨y,C⟩:=An (l:=l) (i:=j) (by omega)
 rw [(Im hS C).2,show(Ak l).getD j 0=(y:Int) from getD_some (AX (f:=fun x:Nat=>(x:Int)) C)]
end Go.Proofs.YtfcfpoemojjglaaGreatDoor
namespace Go.Proofs.YtfcfpoemojjglaaGreatDoor
open Go.RowKit
set_option maxHeartbeats 16000000
set_option maxRecDepth 100000
end Go.Proofs.YtfcfpoemojjglaaGreatDoor
namespace Go.Proofs.YtfcfpoemojjglaaGreatDoor
open Go.RowKit
set_option maxHeartbeats 16000000
set_option maxRecDepth 100000
theorem Fj:El Tryz.prog 3 CR:=QK .i64 Tryz.underlying3 (fun n:Nat=>(n:Int)) (fun a b h=>by omega)
end Go.Proofs.YtfcfpoemojjglaaGreatDoor
namespace Go.Proofs.YtfcfpoemojjglaaGreatDoor
open Go.RowKit
set_option maxHeartbeats 16000000
set_option maxRecDepth 100000
end Go.Proofs.YtfcfpoemojjglaaGreatDoor
namespace Go.Proofs.YtfcfpoemojjglaaGreatDoor
open Go.RowKit
set_option maxHeartbeats 4000000
end Go.Proofs.YtfcfpoemojjglaaGreatDoor
namespace Go.Proofs.YtfcfpoemojjglaaGreatDoor
open Go.RowKit
set_option maxHeartbeats 16000000
set_option maxRecDepth 100000
theorem Jy {E:Type} {p:Nat→E→Bool} (G:∀s x e,p s e=true→p x e=true→s=x) (ls:List Nat) (C:ls.Nodup):∀es:List E,(ls.flatMap fun s=>es.filter (p s)).length≤es.length
 | []=>by
  have:(ls.flatMap fun s=>([]:List E).filter (p s))=[]:=List.flatMap_eq_nil_iff.2 fun _ _=>rfl
  rw [this]
  exact Nat.le_refl _
 | e::es=>by
  have J:=Jy G ls C es
  have h1:∀ls:List Nat,ls.Nodup→(ls.flatMap fun s=>(e::es).filter (p s)).length≤(ls.flatMap fun s=>es.filter (p s)).length+1∧((∀s∈ls,p s e=false)→(ls.flatMap fun s=>(e::es).filter (p s)).length≤(ls.flatMap fun s=>es.filter (p s)).length):=by
   intro ls
   induction ls with
   | nil=>simp
   | cons s ls J=>
    intro C
    obtain⟨U,M⟩:=List.nodup_cons.1 C
    obtain⟨V,I⟩:=J M
    rw [List.flatMap_cons,List.flatMap_cons,List.length_append,List.length_append,List.filter_cons]
    by_cases y:p s e=true
    ·have O:∀x∈ls,p x e=false:=fun x F=>by
      rw [Bool.eq_false_iff]
      intro h
      exact U (by rw [G s x e y h]; exact F)
     have:=I O
     rw [if_pos y,List.length_cons]
     refine⟨by omega,fun h=>?_⟩
     rw [h s List.mem_cons_self] at y
     cases y
    ·rw [if_neg y]
     refine⟨by omega,fun h=>?_⟩
     have:=I fun x F=>h x (List.mem_cons_of_mem _ F)
     omega
  have:=(h1 ls C).1
  rw [List.length_cons]
  omega
theorem SZ (m:List Bool):(Bc m).Nodup:=List.nodup_range.filter _
theorem WA.cat_len {a:WA} {m:List Bool} {x:Nat} (h:m.length=a.n) (C:x<a.L):(a.nf.cat (AJ m) x).length≤a.edges.length:=by
 have e:a.nf.cat (AJ m) x=((Bc m).flatMap fun s:Nat=>a.edges.filter fun e=>decide (e.frm=(s:Int))&&decide (e.letter=(x:Int))).map (·.to):=by
  unfold NF.cat
  rw [Fx,List.map_flatMap]
  unfold Ak
  rw [List.flatMap_map]
  simp only [List.flatMap]
  congr 1
  refine List.map_congr_left fun s y=>?_
  rw [Int.toNat_natCast,WA.nf_to a (GW h s y) C]
  rfl
 rw [e,List.length_map]
 refine Jy (fun(s E:Nat) e h1 h2=>?_) _ (SZ m) _
 simp only [Bool.and_eq_true,decide_eq_true_eq] at h1 h2
 omega
end Go.Proofs.YtfcfpoemojjglaaGreatDoor
namespace Go.Proofs.YtfcfpoemojjglaaGreatDoor
open Go.RowKit
set_option maxHeartbeats 16000000
set_option maxRecDepth 100000
theorem Qj:(Tryz.prog.info? 83).map (fun i=>(i.zero,i.size,i.bytes))=some (some (.agg #[.int .i64 0,.int .i64 0,.int .i64 0]),3,24):=by kernel_rfl
theorem Ga:Dd Tryz.prog 33 83 3:=EX Tryz.underlying33 Qj rfl (by omega) (by omega)
end Go.Proofs.YtfcfpoemojjglaaGreatDoor
namespace Go.Proofs.YtfcfpoemojjglaaGreatDoor
open Go.RowKit
set_option maxHeartbeats 16000000
set_option maxRecDepth 100000
def CK (w:World) (g:Nat) (v0 v1 v2 v3 v4:Value):World:=((((w.setCell ⟨g,0,none⟩ v0).setCell ⟨g,1,none⟩ v1).setCell ⟨g,2,none⟩ v2).setCell ⟨g,3,none⟩ v3).setCell ⟨g,4,none⟩ v4
theorem Dn {w:World} {g:Nat} {e:TypeId} {a0 a1 I J M:Value} (h:Blk w g e #[a0,a1,I,J,M]) (x y C E F:Value):∃G,CK w g x y C E F=G∧Blk G g e #[x,y,C,E,F]∧Ac w G (fun k=>k=g):=
 ⟨_,rfl,((((h.set_ 0 x).set_ 1 y).set_ 2 C).set_ 3 E).set_ 4 F,(((((Ac.refl w (fun k=>k=g)).setCell (p:=⟨g,0,none⟩) (fun _=>rfl) _).setCell (p:=⟨g,1,none⟩) (fun _=>rfl) _).setCell (p:=⟨g,2,none⟩) (fun _=>rfl) _).setCell (p:=⟨g,3,none⟩) (fun _=>rfl) _).setCell (p:=⟨g,4,none⟩) (fun _=>rfl) _⟩
end Go.Proofs.YtfcfpoemojjglaaGreatDoor
namespace Go.Proofs.YtfcfpoemojjglaaGreatDoor
open Go.RowKit
set_option maxHeartbeats 16000000
set_option maxRecDepth 100000
end Go.Proofs.YtfcfpoemojjglaaGreatDoor
namespace Go.Proofs.YtfcfpoemojjglaaGreatDoor
open Go.RowKit
set_option maxHeartbeats 16000000
set_option maxRecDepth 100000
theorem EZ {w:World} {B:Nat} {A:Option Addr} {l:List Int} (h:Sl w B 1 Ai A l) {i:Nat} {x:Int} (y:l[i]?=some x):∃b off,A=some ⟨b,off,none⟩∧b<B∧w.cell? ⟨b,off+i,none⟩=some (.int .i64 x):=by
 obtain⟨b,off,e,C,E⟩:=h.2 (by
  intro e
  rw [e] at y
  simp at y)
 have:=E i x y 0 (by omega)
 exact⟨b,off,e,C,by simpa [Ai] using this⟩
end Go.Proofs.YtfcfpoemojjglaaGreatDoor
namespace Go.Proofs.YtfcfpoemojjglaaGreatDoor
open Go.RowKit
set_option maxHeartbeats 16000000
set_option maxRecDepth 100000
theorem Cu {w:World} {l:List Nat} {A:Option Addr} {c F B g4 M:Nat} {p:Nat→Bool} (h:Sl w B 1 Ai A (Ak l)) (hB:B≤w.heap.size) (hl:l.length≤4000000) (hF:F=115∨F=116)
  (hp:∀q∈l,∀w',Below w.heap.size w w'→Calls Tryz.prog F #[.int .i64 (q:Int),.pointer (some ⟨g4,0,none⟩),.pointer (some ⟨M,0,none⟩)] w' (Ret fun r w''=>r=.bool (p q)∧Below w'.heap.size w' w'')):
  Calls Tryz.prog 107 #[.slice A l.length c,.func (.func F) #[] #[.pointer (some ⟨g4,0,none⟩),.pointer (some ⟨M,0,none⟩)]] w (Ret fun r w'=>Below w.heap.size w w'∧((∃k q:Nat,l[k]?=some q∧r=.int .i64 (k:Int)∧(∀q∈l.take k,p q=false)∧p q=true)∨(r=.int .i64 (-1)∧∀q∈l,p q=false))):=by
 have hH:=hide h
 have a9:=hide hp
 obtain⟨n,G⟩:∃n,n=l.length:=⟨_,rfl⟩
 have Z:=hide G
 rw [←G] at hl ⊢
 clear h hp G
 rcases hF with rfl | rfl
 all_goals
  go_enter Tryz.func107,Tryz.ntmps107
  go_wp2_with fail
  go_loopw [8] (fun J wr=>∃k:Nat,J=.int .i64 (k:Int)∧k≤n∧Below w.heap.size w wr∧Hid (∀q∈l.take k,p q=false)) (fun J _=>n - (intOf J).toNat)
  case atStart=>exact⟨0,rfl,Nat.zero_le _,Below.refl _ _,hide (by simp)⟩
  case round=>
   obtain⟨k,rfl,hk,y,I⟩:=hrel
   by_cases a6:k<n
   ·obtain⟨q,E⟩:=An (l:=l) (i:=k) (by rw [←Z.out]; exact a6)
    obtain⟨b,off,rfl,hb,V⟩:=Ex hH.out E
    have hc:wr.cell? ⟨b,off+k,none⟩=some (.int .i64 (q:Int)):=(y.cell (by show b<_; omega)).trans V
    have W:=a9.out q (List.mem_of_getElem? E) wr y
    have a3:=hide E
    clear E V
    go_wp2_with fail
    refine Calls.ret W ?_
    rintro r w2 ⟨rfl,U⟩
    have O:=y.trans (U.mono y.size)
    clear W U
    rcases C:p q with _ | _
    ·have a8:=hide (show ∀s∈l.take (k+1),p s=false from fun s x=>by
      rw [B5 a3.out] at x
      rcases List.mem_append.1 x with x | x
      ·exact I.out s x
      ·rw [List.mem_singleton.1 x]; exact C)
     clear C
     go_wp2_with fail
     exact⟨⟨k+1,by go_num,by omega,O,a8⟩,by simp [intOf]; omega⟩
    ·have aa:=hide C
     clear C
     go_wp2_with fail
     go_ret
     exact⟨O,.inl ⟨k,q,a3.out,rfl,I.out,aa.out⟩⟩
   ·obtain rfl:k=n:=by omega
    go_wp2_with fail
    go_ret
    refine⟨y,.inr ⟨rfl,?_⟩⟩
    have:=I.out
    rwa [Z.out,List.take_length] at this
end Go.Proofs.YtfcfpoemojjglaaGreatDoor
namespace Go.Proofs.YtfcfpoemojjglaaGreatDoor
open Go.RowKit
set_option maxHeartbeats 16000000
set_option maxRecDepth 100000
theorem S0 {w:World} {g k:Nat} {x:Array Value} {e:TypeId} {u:Value} (h:w.heap[g]?=some (.cells x e (0,0))):(w.setCell ⟨g,k,none⟩ u).heap[g]?=some (.cells (x.setIfInBounds k u) e (0,0)):=
 Blk.set_ (t:=e) h k u
theorem Kd {w:World} {base n g cap k:Nat} {e:TypeId} {xs:List Value} (h:w.ownsRow base e 1 (.slice (some ⟨g,0,none⟩) n cap) n xs) (M:k<n) (u:Value):
  (w.setCell ⟨g,k,none⟩ u).ownsRow base e 1 (.slice (some ⟨g,0,none⟩) n cap) n (xs.set k u):=by
 refine⟨by simpa using h.1,.inr ?_⟩
 rcases h.2 with⟨y,_⟩ | ⟨V,O,U,y,G,J,h1,E,F,C⟩
 ·cases y
 ·injection y with x _ I
  injection x with x
  injection x with x
  subst x I
  exact⟨g,cap,_,rfl,G,S0 J,h1,E,by simpa using F,by rw [Nat.mul_one] at C ⊢; simp [List.take_set,C]⟩
theorem HQ {w:World} {base n g cap k:Nat} {e:TypeId} {xs:List Value} {u:Value} (h:w.ownsRow base e 1 (.slice (some ⟨g,0,none⟩) n cap) n xs) (hk:xs[k]?=some u):w.cell? ⟨g,k,none⟩=some u:=by
 obtain⟨E,C,y,x⟩:=C7 h hk
 cases y
 exact x
theorem Ka {w:World} {base n g cap size:Nat} {e:TypeId} {xs:List Value} (h:w.ownsRow base e size (.slice (some ⟨g,0,none⟩) n cap) n xs) (k:Nat):w.frozen? ⟨g,k,none⟩=false:=by
 rcases h.2 with⟨y,_⟩ | ⟨G,E,F,y,I,C,_⟩
 ·cases y
 ·injection y with x _ _
  injection x with x
  injection x with x
  subst x
  exact Blk.frozen (t:=e) C k
end Go.Proofs.YtfcfpoemojjglaaGreatDoor
namespace Go.Proofs.YtfcfpoemojjglaaGreatDoor
open Go.RowKit
set_option maxHeartbeats 16000000
set_option maxRecDepth 100000
end Go.Proofs.YtfcfpoemojjglaaGreatDoor
namespace Go.Proofs.YtfcfpoemojjglaaGreatDoor
open Go.RowKit
set_option maxHeartbeats 4000000
def Es:Code→List Code
 | .loop c=>c::Es c
 | .seq a b=>Es a++Es b
 | .block _ c=>Es c
 | .scope c=>Es c
 | .cond _ a b=>Es a++Es b
 | _=>[]
def CG (f:Func) (k:Nat):Code:=match f.body with
 | some c=>(Es c).getD k .skip
 | none=>.skip
end Go.Proofs.YtfcfpoemojjglaaGreatDoor
namespace Go.Proofs.YtfcfpoemojjglaaGreatDoor
open Go.RowKit
set_option maxHeartbeats 16000000
set_option maxRecDepth 100000
end Go.Proofs.YtfcfpoemojjglaaGreatDoor
namespace Go.Proofs.YtfcfpoemojjglaaGreatDoor
open Go.RowKit
set_option maxHeartbeats 16000000
set_option maxRecDepth 100000
end Go.Proofs.YtfcfpoemojjglaaGreatDoor
namespace Go.Proofs.YtfcfpoemojjglaaGreatDoor
open Go.RowKit
set_option maxHeartbeats 16000000
set_option maxRecDepth 100000
end Go.Proofs.YtfcfpoemojjglaaGreatDoor
namespace Go.Proofs.YtfcfpoemojjglaaGreatDoor
open Go.RowKit
set_option maxHeartbeats 16000000
set_option maxRecDepth 100000
end Go.Proofs.YtfcfpoemojjglaaGreatDoor
namespace Go.Proofs.YtfcfpoemojjglaaGreatDoor
open Go.RowKit
set_option maxHeartbeats 16000000
set_option maxRecDepth 100000
def WA.big (a:WA):Bool:=decide (600<a.start.length)||decide (600<a.accept.length)||decide (1000<a.edges.length)
def a0:WA:=⟨1,0,[],[],[]⟩
def a1:WA:=⟨1,1,[0],[0],[]⟩
end Go.Proofs.YtfcfpoemojjglaaGreatDoor
namespace Go.Proofs.YtfcfpoemojjglaaGreatDoor
open Go.RowKit
set_option maxHeartbeats 16000000
set_option maxRecDepth 100000
end Go.Proofs.YtfcfpoemojjglaaGreatDoor
