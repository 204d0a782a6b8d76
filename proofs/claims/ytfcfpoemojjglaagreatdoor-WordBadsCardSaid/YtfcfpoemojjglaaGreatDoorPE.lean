/-
  Part PE of a proof.
-/
import Derived.WalkMore
import Derived.ScopeJumps
import Derived.Test.YtfcfpoemojjglaaGreatDoorPS
import Derived.Test.YtfcfpoemojjglaaGreatDoorPA
set_option maxHeartbeats 16000000
set_option maxRecDepth 100000
set_option linter.unusedVariables false
set_option linter.unusedSimpArgs false
namespace Go.Proofs.YtfcfpoemojjglaaGreatDoor
open Go.RowKit
set_option maxHeartbeats 16000000
set_option maxRecDepth 100000
def CW:Code->List Code
 | .region i o d=>[.region i o d]
 | .loop c=>CW c
 | .seq a b=>CW a++CW b
 | .block _ c=>CW c
 | .scope c=>CW c
 | .cond _ a b=>CW a++CW b
 | _=>[]
def Eu (f:Func) (k:Nat):Code:=match f.body with
 | some c=>(CW c).getD k .skip
 | none=>.skip
structure CP (w0 w:World) (l:List (Nat×TypeId×Array Value)):Prop where
 below:Below w0.heap.size w0 w
 blk:∀x∈l,Blk w x.1 x.2.1 x.2.2/\w0.heap.size<=x.1
 nodup:(l.map (·.1)).Nodup
theorem CP.nil (w:World):CP w w []:=⟨Below.refl _ _,fun _ h=>by simp at h,by simp⟩
theorem CP.add {w0 w w1:World} {l:List (Nat×TypeId×Array Value)} (h:CP w0 w l) (j:Below w.heap.size w w1) {g:Nat} {e:TypeId} {cs:Array Value} (y:Blk w1 g e cs) (C:w.heap.size<=g):CP w0 w1 ((g,e,cs)::l):=by
 refine⟨h.below.trans (j.mono h.below.size),fun x d=>?_,?_⟩
 ·rcases List.mem_cons.1 d with rfl | d
  ·exact⟨y,Nat.le_trans h.below.size C⟩
  ·exact⟨(h.blk x d).1.below j,(h.blk x d).2⟩
 ·rw [List.map_cons,List.nodup_cons];refine⟨fun d=>?_,h.nodup⟩;obtain⟨x,d,e⟩:=List.mem_map.1 d;have:=(h.blk x d).1.lt;dsimp only at e;omega
theorem CP.drew {w0 w:World} {l:List (Nat×TypeId×Array Value)} (h:CP w0 w l):CP w0 w.drew l:=
 ⟨h.below.trans ((Ap w).mono h.below.size),h.blk,h.nodup⟩
def set4t (w:World) (g:Nat) (v0 v1 v2 v3:Value):World:=(((w.setCell ⟨g,0,none⟩ v0).setCell ⟨g,1,none⟩ v1).setCell ⟨g,2,none⟩ v2).setCell ⟨g,3,none⟩ v3
theorem Lg {w:World} {g:Nat} {e:TypeId} {a0 a1 d j:Value} (h:Blk w g e #[a0,a1,d,j]) (v0 v1 v2 v3:Value):∃wF,set4t w g v0 v1 v2 v3=wF/\Blk wF g e #[v0,v1,v2,v3]/\Ac w wF (fun k=>k=g):=
 ⟨_,rfl,(((h.set_ 0 v0).set_ 1 v1).set_ 2 v2).set_ 3 v3,
  ((((Ac.refl w (fun k=>k=g)).setCell (p:=⟨g,0,none⟩) (fun _=>rfl) v0).setCell (p:=⟨g,1,none⟩) (fun _=>rfl) v1).setCell (p:=⟨g,2,none⟩) (fun _=>rfl) v2).setCell (p:=⟨g,3,none⟩) (fun _=>rfl) v3⟩
theorem CP.set4t {w0 w:World} {l:List (Nat×TypeId×Array Value)} {g:Nat} {e:TypeId} {a b c d:Value} (h:CP w0 w ((g,e,#[a,b,c,d])::l)) (v0 v1 v2 v3:Value):CP w0 (set4t w g v0 v1 v2 v3) ((g,e,#[v0,v1,v2,v3])::l):=by
 have y:=(h.blk _ List.mem_cons_self);obtain⟨wF,J,G,I⟩:=Lg y.1 v0 v1 v2 v3;rw [J];refine⟨h.below.trans (I.below h.below.size fun b G e=>by have:=y.2; dsimp only at this; omega),fun x j=>?_,h.nodup⟩;rcases List.mem_cons.1 j with rfl | j
 ·exact⟨G,y.2⟩
 ·have C:=h.blk x (List.mem_cons_of_mem _ j);refine⟨Blk.kept C.1 I fun e=>?_,C.2⟩;have E:=h.nodup;rw [List.map_cons,List.nodup_cons] at E;exact E.1 (List.mem_map.2 ⟨x,j,e⟩)
section
variable {P:Program} {ops:Array Oper} {rest:List Oper} {o:Oper} {a:Act} {Q:Exit->Act->World->Prop}
theorem Ul {w:World} {t bytes sz:Nat} {z:Value} (C:(P.info? t).map (fun i=>(i.zero,i.size,i.bytes))=some (some z,sz,bytes))
  (y:o.guard=none) (E:o.op=.alloc t)
  (h:∀g w1,Blk w1 g t z.cells->Below w.heap.size w w1->w.heap.size<=g->wpList P ops Q rest (a.put o.dst (.pointer (some ⟨g,0,none⟩))) w1):wpList P ops Q (o::rest) a w:=by
 refine wpList_plain y fun K l=>?_;obtain⟨i,d,j,I,J⟩:=info_parts C;have G:(Instr.alloc t true (.tuple #[])).run P w=.ok (.pointer (some ⟨w.heap.size,0,none⟩)) (w.alloc (.cells z.cells t)):=by
  simp [Instr.alloc,zeroValue,typeInfo,go_sem,d,j]
 unfold Oper.wp execOp;simp only [E,Sem.run_bind,Sem.run_pure,Result.andThen_ok,G];exact l _ _ (h _ _ (Blk.new _ _ _) ((Below.refl _ _).alloc (Nat.le_refl _) _) (Nat.le_refl _))
end
namespace Reg
theorem rest_walkE {P:Program} {Q:Bo} {a:Act} {w:World} {l l1:List Oper} {tab D T:List Nat} (d j:List Nat) (C:d++j=T) (G:pick l.toArray d=l1)
  (E:(d.all (fun i=>decide (i<l.length))&&DS P false l.toArray tab d&&D.all (fun r=>d.all fun y=>match l.toArray[r]?,l.toArray[y]? with
   | some q,some oy=>!Bq q.op||!eff P false oy||Bl tab r y
   | _,_=>true))=true)
  (h:∀Qf:Bo,(∀a w,CB P l.toArray tab Q (d++D) j a w->Qf .normal a w)->wpList P l.toArray Qf l1 a w):CB P l.toArray tab Q D T a w:=by
 subst C;exact rest_walk' d j G E h
end Reg
theorem Qo:(Tryz.prog.info? 88).map (fun i=>(i.zero,i.size,i.bytes))=some (some (.agg #[.int .i64 0,.slice none 0 0,.slice none 0 0,.slice none 0 0]),4,80):=by kernel_rfl
theorem QT (z:Value) (n:Nat):madeCells #[z] (n*1)=(List.replicate n z).toArray:=by rw [HA,KH]
theorem Rg {w:World} {g1 n c1 c2 k1 k2 B:Nat} {L:Int} {v4:Value} {A1 A2:Option Addr} {acc:List Int} (hn:n<=200000) (aP:Blk w g1 35 #[.int .i64 L,.int .i64 (n:Int),.slice A1 k1 c1,.slice A2 k2 c2,v4])
    (h2:Sl w B 1 Ai A2 acc) (J:k2=acc.length) (h:B<=w.heap.size) (I:∀x∈acc,inN n x=true) {v2:Value}
    {M u3 u4 u5 u6 u7 u8 u9 aX aY aZ b0 b4 b5 b6 b7 b8 b9 O U V W Z a2 a3 a4 a5 a6 a7 a8 a9 aa ab ad ae af ag ah aj ak al am an ao ap aq ar au aw ax ay az aA aB aC aD aE aF aH aJ aK aL u64 aM:Value}
    {Q:Exit->Act->World->Prop} (hN:Reg.NoQ Q)
    (hQ:∀(x7 x8 x9 bg bh bi bj bk bl bm bn bo bp:Value) (w':World) (g3 gn gm:Nat),CP w w' [(g3,88,#[.int .i64 L,.slice (some ⟨gn,0,none⟩) n n,.slice A1 k1 c1,.slice (some ⟨gm,0,none⟩) n n]),(gn,75,(List.replicate n (Value.slice none 0 0)).toArray),(gm,4,((BN n acc).map Value.bool).toArray)]->
      Q .normal ⟨List.toArray (M::(.pointer (some ⟨g1,0,none⟩))::v2::(.pointer (some ⟨g3,0,none⟩))::u4::u5::u6::x7::x8::x9::bg::bh::bi::bj::bk::bl::bm::bn::bo::bp::O::U::V::W::Z::a2::a3::a4::a5::a6::
      a7::a8::a9::aa::ab::ad::ae::af::ag::ah::aj::ak::al::am::an::ao::ap::aq::ar::au::aw::ax::ay::az::aA::aB::aC::aD::aE::aF::aH::aJ::aK::aL::u64::aM::[]),[]⟩ w'):
    (Eu Tryz.f41 1).wp Tryz.prog Q ⟨List.toArray (M::(.pointer (some ⟨g1,0,none⟩))::v2::u3::u4::u5::u6::u7::u8::u9::aX::aY::aZ::b0::b4::b5::b6::b7::b8::b9::O::U::V::W::Z::a2::a3::a4::a5::a6::a7::a8::a9::aa::ab::
      ad::ae::af::ag::ah::aj::ak::al::am::an::ao::ap::aq::ar::au::aw::ax::ay::az::aA::aB::aC::aD::aE::aF::aH::aJ::aK::aL::u64::aM::[]),[]⟩ w:=by
  conv=>arg 2; whnf
  have bt:=aP.cell;have aU:=hide J;have aT:=hide I;clear J I;refine Reg.region_spl [0,1,0,4,12,0,32,0,128,0,512,1920,4095,0,16383] (.node 4 11 (.node 4 13 (.node 11 13 (.node 12 13 (.leaf [0,1,2,3,5,6,7,8,9,10,4,11,12,13,14]) (.leaf [0,1,2,3,5,6,7,8,9,10,4,11,13,12,14])) (.leaf [0,1,2,3,5,6,7,8,9,10,4,13,11,12,14])) (.leaf [0,1,2,3,5,6,7,8,9,10,13,4,11,12,14])) (.node 4 13 (.node 12 13 (.leaf [0,1,2,3,5,6,7,8,9,10,11,4,12,13,14]) (.leaf [0,1,2,3,5,6,7,8,9,10,11,4,13,12,14])) (.node 11 13 (.leaf [0,1,2,3,5,6,7,8,9,10,11,13,4,12,14]) (.leaf [0,1,2,3,5,6,7,8,9,10,13,11,4,12,14])))) (by kernel_rfl) hN ?_;dsimp only [Reg.Spl.goal];have j:=(CP.nil w).drew
  repeat' (with_reducible refine And.intro ?_ ?_)
  all_goals
    refine Reg.rest_walkE [0,1,2,3,5,6,7,8,9,10] _ rfl rfl (by kernel_rfl) ?_;intro Qf d;go_wp2_with fail;refine d _ _ ?_;clear d
    iterate 5
      first
      | (refine Reg.rest_act' 4 _ [1,6,8,10] rfl (by kernel_rfl) ?_
         intro Qf d;simp only [gT,gS,gZ];refine LG Tryz.underlying86 Qk (by omega) (by omega) n (by omega) rfl _ _ rfl rfl rfl ?_;intro gn w1 l h y;first | refine d _ _ ⟨Reg.same_below h _ rfl,?_⟩ | refine⟨Reg.same_below h _ rfl,?_⟩
         replace j:=j.add h l y;(try clear d);clear l h y)
      | (refine Reg.rest_act' 11 _ [1,3,6] rfl (by kernel_rfl) ?_
         intro Qf d;simp only [gT,gS,gZ];go_wp2_with fail;rw [aU.out];refine Calls.ret (Q3 (h2.keep (B':=B) (fun p hp=>j.below.cell (by omega)) (Nat.le_refl _)) (by have:=j.below.size; omega) hn aT.out) ?_;rintro v w1 ⟨h,⟨gm,-,rfl,l⟩,G⟩;have y:=G gm rfl;rw [Dh];go_wp2_with fail;first | refine d _ _ ⟨Reg.same_below h _ rfl,?_⟩ | refine⟨Reg.same_below h _ rfl,?_⟩
         replace j:=j.add h l y;(try clear d);clear l h y G)
      | (refine Reg.rest_walkE [13] _ rfl rfl (by kernel_rfl) ?_
         intro Qf d;refine Ul Qo rfl rfl ?_;intro g3 w1 l h y;refine d _ _ ?_;replace j:=j.add h l y;(try clear d);clear l h y)
      | (refine Reg.rest_walkE [12] _ rfl rfl (by kernel_rfl) ?_
         intro Qf d;go_wp2_with fail;first | refine d _ _ ?_ | skip
         try clear d)
      | (refine Reg.rest_walkE [14] _ rfl rfl (by kernel_rfl) ?_
         intro Qf d;have C:=(j.blk (g3,88,#[.int .i64 0,.slice none 0 0,.slice none 0 0,.slice none 0 0]) (by simp [Value.cells])).1;have bu:=C.cell;have bv:=C.frozen;have bw:=C.lt;clear C;go_wp2_with fail;first | refine d _ _ ?_ | skip
         try clear d)
    refine Reg.rest_end ?_;obtain⟨aR,aS,aW⟩:=j;simp only [List.map_cons,List.map_nil,List.nodup_cons,List.mem_cons,List.not_mem_nil,not_or,or_false,List.nodup_nil,not_false_eq_true,and_true] at aW;refine hQ _ _ _ _ _ _ _ _ _ _ _ _ _ _ g3 gn gm ?_;have aO:CP w w1 [(g3,88,#[.int .i64 0,.slice none 0 0,.slice none 0 0,.slice none 0 0]),(gn,75,(List.replicate n (Value.slice none 0 0)).toArray),(gm,4,((BN n acc).map Value.bool).toArray)]:=by
      refine⟨aR,?_,?_⟩
      · intro x E
        rw [<-QT] at E;refine aS x ?_;simp only [List.mem_cons,List.not_mem_nil,or_false] at E ⊢;rcases E with rfl | rfl | rfl
        · first | exact .inl rfl | exact .inr (.inl rfl) | exact .inr (.inr rfl)
        · first | exact .inl rfl | exact .inr (.inl rfl) | exact .inr (.inr rfl)
        · first | exact .inl rfl | exact .inr (.inl rfl) | exact .inr (.inr rfl)
      · simp only [List.map_cons,List.map_nil,List.nodup_cons,List.mem_cons,List.not_mem_nil,not_or,or_false,List.nodup_nil,not_false_eq_true,and_true]
        omega
    exact aO.set4t _ _ _ _
end Go.Proofs.YtfcfpoemojjglaaGreatDoor
namespace Go.Proofs.YtfcfpoemojjglaaGreatDoor
open Go.RowKit
set_option maxHeartbeats 16000000
set_option maxRecDepth 100000
def Bi (n:Nat) (f:Nat->Value):Array Value:=((List.range n).map f).toArray
theorem CV {n i:Nat} (f:Nat->Value) (h:i<n):(Bi n f)[i]?=some (f i):=by simp [Bi,h]
theorem Fp (n:Nat) (f:Nat->Value):(Bi n f).size=n:=by simp [Bi]
theorem F7 (n i:Nat) (f:Nat->Value) (v:Value):(Bi n f).setIfInBounds i v=Bi n (fun x=>if x=i then v else f x):=by
 apply Array.ext_getElem?;intro j;rw [Array.getElem?_setIfInBounds];by_cases d:j<n
 ·by_cases e:i=j
  ·subst e;rw [if_pos rfl,if_pos (by rw [Fp]; exact d),CV _ d,if_pos rfl]
  ·rw [if_neg e,CV _ d,CV _ d,if_neg (fun h=>e h.symm)]
 ·have l:∀g:Nat->Value,(Bi n g)[j]?=none:=fun g=>Array.getElem?_eq_none (by rw [Fp]; omega);rw [l,l];split
  ·rw [if_neg (by rw [Fp]; omega)]
  ·rfl
theorem D4 {n:Nat} {f g:Nat->Value} (h:∀i,i<n->f i=g i):Bi n f=Bi n g:=by
 unfold Bi;rw [List.map_congr_left fun i d=>h i (List.mem_range.1 d)]
theorem Fo (n:Nat) (z:Value):Array.replicate n z=Bi n fun _=>z:=by
 apply Array.ext';simp [Bi,List.map_const']
def up1 {D:Type} (f:Nat->D) (i:Nat) (v:D):Nat->D:=fun x=>if x=i then v else f x
def up2 {D:Type} (f:Nat->Nat->D) (i x:Nat) (v:D):Nat->Nat->D:=fun a b=>if a=i/\b=x then v else f a b
theorem G7 {D:Type} (f:Nat->Nat->D) (i x:Nat) (v:D):up2 f i x v i x=v:=by simp [up2]
theorem E0 {D:Type} {f:Nat->Nat->D} {i x a b:Nat} {v:D} (h:¬(a=i/\b=x)):up2 f i x v a b=f a b:=if_neg h
end Go.Proofs.YtfcfpoemojjglaaGreatDoor
namespace Go.Proofs.YtfcfpoemojjglaaGreatDoor
open Go.RowKit
set_option maxHeartbeats 16000000
set_option maxRecDepth 100000
theorem QU (z:Value) (n:Nat):madeCells #[z] (n*1)=Bi n fun _=>z:=by rw [HA,Fo]
end Go.Proofs.YtfcfpoemojjglaaGreatDoor
namespace Go.Proofs.YtfcfpoemojjglaaGreatDoor
open Go.RowKit
set_option maxHeartbeats 16000000
set_option maxRecDepth 100000
def DA (l:List Nat):ByteArray:=⟨(Cw l).toArray⟩
theorem QE (a b:List Nat) (h:DA a=DA b):a=b:=by
 unfold DA at h;injection h with h
 exact JM (by simpa using congrArg Array.toList h)
def Dq (l:List Nat):Value:=.string (DA l)
theorem FV:El Tryz.prog 9 Dq:=QL Tryz.underlying9 DA QE
theorem Fa (w:World):(zeroValue 3).run Tryz.prog w=.ok (.int .i64 0) w:=by kernel_rfl
def Ax {S:Type} [DecidableEq S] (l:List S) (a:S):Nat:=l.idxOf a
end Go.Proofs.YtfcfpoemojjglaaGreatDoor
namespace Go.Proofs.YtfcfpoemojjglaaGreatDoor
open Go.RowKit
set_option maxHeartbeats 16000000
set_option maxRecDepth 100000
section
variable {w0 wr:World} {a:NF} {g2 g4 g6 g7 gm:Nat} {v0 v1 v2 v3 vN vA vS:Value} {all:List (List Bool)} {t:List (List Nat)} {us ws:List Value} {N:Nat->Prop} {m:List Bool} {r:Value}
theorem F0 {S:Type} [DecidableEq S] {l:List S} {s:S} (h:s∈l):Bs l s=l:=if_pos h
theorem FZ {S:Type} [DecidableEq S] {l:List S} {s:S} (h:s∉l):Bs l s=l++[s]:=if_neg h
theorem ES {S:Type} [DecidableEq S] {l:List S} {s:S} (h:s∉l):Ax (l++[s]) s=l.length:=by
 unfold Ax;rw [List.idxOf_append,if_neg h];simp
end
end Go.Proofs.YtfcfpoemojjglaaGreatDoor
namespace Go.Proofs.YtfcfpoemojjglaaGreatDoor
open Go.RowKit
set_option maxHeartbeats 16000000
set_option maxRecDepth 100000
theorem ET {S:Type} [DecidableEq S] {l k:List S} (h:l<+:k) {s:S} (d:s∈l):Ax k s=Ax l s:=P7 h d
section
variable {w0 wr w':World} {a:NF} {g2 g4 g6 g7 gm:Nat} {cs:Array Value} {vN vA vS:Value} {all:List (List Bool)} {t:List (List Nat)} {us ws:List Value} {N:Nat->Prop}
theorem LD {w:World} {B:Nat} {A:Option Addr} {t:List (List Nat)} (h:VSl R1 w B A (t.map Ak)):VSl R1n w B A t:=by
 refine⟨by simpa using h.1,fun C=>?_⟩;obtain⟨b,E,e,j,l⟩:=h.2 (by simpa using C);exact⟨b,E,e,j,fun k d y=>l k (Ak d) (AX y)⟩
end
end Go.Proofs.YtfcfpoemojjglaaGreatDoor
namespace Go.Proofs.YtfcfpoemojjglaaGreatDoor
open Go.RowKit
set_option maxHeartbeats 16000000
set_option maxRecDepth 100000
def Ih:Code->Code
 | .scope c=>c
 | .seq a b=>match Ih a with
  | .skip=>Ih b
  | c=>c
 | _=>.skip
def CY (w:World) (g:Nat) (v0 v1:Value):World:=(w.setCell ⟨g,0,none⟩ v0).setCell ⟨g,1,none⟩ v1
theorem Dm {w:World} {g:Nat} {e:TypeId} {a0 a1:Value} (h:Blk w g e #[a0,a1]) (v0 v1:Value):∃wF,CY w g v0 v1=wF/\Blk wF g e #[v0,v1]/\Ac w wF (fun k=>k=g):=
 ⟨_,rfl,(h.set_ 0 v0).set_ 1 v1,((Ac.refl w (fun k=>k=g)).setCell (p:=⟨g,0,none⟩) (fun _=>rfl) _).setCell (p:=⟨g,1,none⟩) (fun _=>rfl) _⟩
end Go.Proofs.YtfcfpoemojjglaaGreatDoor
namespace Go.Proofs.YtfcfpoemojjglaaGreatDoor
open Go.RowKit
set_option maxHeartbeats 16000000
set_option maxRecDepth 100000
abbrev sn0:Value:=.slice none 0 0
theorem F1 (t:TypeId) (w:World):∃gm w1,(Instr.makeMap t none).run Tryz.prog w=.ok (.map (some gm)) w1/\Bw w1 gm []/\Below w.heap.size w w1/\w.heap.size<=gm:=
 ⟨_,_,run_makeMap t w,Bw.made w,(Below.refl _ _).alloc (Nat.le_refl _) _,Nat.le_refl _⟩
theorem IB {l:Nat} {J:Act->World->Prop} {Q:Exit->Act->World->Prop} (h:Reg.NoQ Q):Reg.NoQ (Exit.jump l J Q):=⟨fun c a w x=>h.1 c a w x,fun a w x=>h.2 a w x⟩
end Go.Proofs.YtfcfpoemojjglaaGreatDoor
