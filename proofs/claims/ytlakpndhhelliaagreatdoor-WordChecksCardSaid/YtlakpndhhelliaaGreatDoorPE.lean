/-
  Part PE of a proof.
-/
import Derived.Test.YtlakpndhhelliaaGreatDoorPS
import Derived.Test.YtlakpndhhelliaaGreatDoorPA
set_option maxHeartbeats 16000000
set_option maxRecDepth 100000
set_option linter.unusedVariables false
set_option linter.unusedSimpArgs false
namespace Go.Proofs.YtlakpndhhelliaaGreatDoor
open Go.RowKit
set_option maxHeartbeats 16000000
set_option maxRecDepth 100000
def Cz:Code→List Code
 | .region i o d=>[.region i o d]
 | .loop c=>Cz c
 | .seq a b=>Cz a++Cz b
 | .block _ c=>Cz c
 | .scope c=>Cz c
 | .cond _ a b=>Cz a++Cz b
 | _=>[]
def D0 (f:Func) (k:Nat):Code:=match f.body with
 | some c=>(Cz c).getD k .skip
 | none=>.skip
structure Cy (w0 w:World) (l:List (Nat×TypeId×Array Value)):Prop where
 below:Below w0.heap.size w0 w
 blk:∀x∈l,Blk w x.1 x.2.1 x.2.2∧w0.heap.size≤x.1
 nodup:(l.map (·.1)).Nodup
theorem Cy.nil (w:World):Cy w w []:=⟨Below.refl _ _,fun _ h=>by simp at h,by simp⟩
theorem Cy.add {w0 w w1:World} {l:List (Nat×TypeId×Array Value)} (h:Cy w0 w l) (y:Below w.heap.size w w1) {g:Nat} {e:TypeId} {cs:Array Value} (z:Blk w1 g e cs) (C:w.heap.size≤g):Cy w0 w1 ((g,e,cs)::l):=by
 refine⟨h.below.trans (y.mono h.below.size),fun x f=>?_,?_⟩
 ·rcases List.mem_cons.1 f with rfl | f
  ·exact⟨z,Nat.le_trans h.below.size C⟩
  ·exact⟨(h.blk x f).1.below y,(h.blk x f).2⟩
 ·rw [List.map_cons,List.nodup_cons]
  refine⟨fun f=>?_,h.nodup⟩
  obtain⟨x,f,e⟩:=List.mem_map.1 f
  have:=(h.blk x f).1.lt
  dsimp only at e
  omega
theorem Cy.drew {w0 w:World} {l:List (Nat×TypeId×Array Value)} (h:Cy w0 w l):Cy w0 w.drew l:=
 ⟨h.below.trans ((Ap w).mono h.below.size),h.blk,h.nodup⟩
theorem Cy.pick {w0 w:World} {l:List (Nat×TypeId×Array Value)} (h:Cy w0 w l) (l':List (Nat×TypeId×Array Value)) (f:∀x∈l',x∈l) (y:(l'.map (·.1)).Nodup):Cy w0 w l':=
 ⟨h.below,fun x z=>h.blk x (f x z),y⟩
def set4t (w:World) (g:Nat) (v0 v1 v2 v3:Value):World:=(((w.setCell ⟨g,0,none⟩ v0).setCell ⟨g,1,none⟩ v1).setCell ⟨g,2,none⟩ v2).setCell ⟨g,3,none⟩ v3
theorem JW {w:World} {g:Nat} {e:TypeId} {a0 a1 y z:Value} (h:Blk w g e #[a0,a1,y,z]) (v0 v1 v2 v3:Value):∃f,set4t w g v0 v1 v2 v3=f∧Blk f g e #[v0,v1,v2,v3]∧Ae w f (fun k=>k=g):=
 ⟨_,rfl,(((h.set_ 0 v0).set_ 1 v1).set_ 2 v2).set_ 3 v3,
  ((((Ae.refl w (fun k=>k=g)).setCell (p:=⟨g,0,none⟩) (fun _=>rfl) v0).setCell (p:=⟨g,1,none⟩) (fun _=>rfl) v1).setCell (p:=⟨g,2,none⟩) (fun _=>rfl) v2).setCell (p:=⟨g,3,none⟩) (fun _=>rfl) v3⟩
theorem Cy.set4t {w0 w:World} {l:List (Nat×TypeId×Array Value)} {g:Nat} {e:TypeId} {a b c d:Value} (h:Cy w0 w ((g,e,#[a,b,c,d])::l)) (v0 v1 v2 v3:Value):Cy w0 (set4t w g v0 v1 v2 v3) ((g,e,#[v0,v1,v2,v3])::l):=by
 have y:=(h.blk _ List.mem_cons_self)
 obtain⟨G,F,z,hk⟩:=JW y.1 v0 v1 v2 v3
 rw [F]
 refine⟨h.below.trans (hk.below h.below.size fun b z e=>by have:=y.2; dsimp only at this; omega),fun x f=>?_,h.nodup⟩
 rcases List.mem_cons.1 f with rfl | f
 ·exact⟨z,y.2⟩
 ·have C:=h.blk x (List.mem_cons_of_mem _ f)
  refine⟨Blk.kept C.1 hk fun e=>?_,C.2⟩
  have E:=h.nodup
  rw [List.map_cons,List.nodup_cons] at E
  exact E.1 (List.mem_map.2 ⟨x,f,e⟩)
section
variable {P:Program} {ops:Array Oper} {rest:List Oper} {o:Oper} {a:Act} {Q:Exit→Act→World→Prop}
theorem NW {w:World} {t bytes sz:Nat} {z:Value} (f:(P.info? t).map (fun i=>(i.zero,i.size,i.bytes))=some (some z,sz,bytes))
  (y:o.guard=none) (C:o.op=.alloc t)
  (h:∀g w1,Blk w1 g t z.cells→Below w.heap.size w w1→w.heap.size≤g→wpList P ops Q rest (a.put o.dst (.pointer (some ⟨g,0,none⟩))) w1):wpList P ops Q (o::rest) a w:=by
 refine wpList_plain y fun K E=>?_
 obtain⟨i,F,G,J,M⟩:=info_parts f
 have I:(Instr.alloc t true (.tuple #[])).run P w=.ok (.pointer (some ⟨w.heap.size,0,none⟩)) (w.alloc (.cells z.cells t)):=by
  simp [Instr.alloc,zeroValue,typeInfo,go_sem,F,G]
 unfold Oper.wp execOp
 simp only [C,Sem.run_bind,Sem.run_pure,Result.andThen_ok,I]
 exact E _ _ (h _ _ (Blk.new _ _ _) ((Below.refl _ _).alloc (Nat.le_refl _) _) (Nat.le_refl _))
end
namespace Reg
theorem rest_walkE {P:Program} {Q:Bj} {a:Act} {w:World} {l C:List Oper} {tab D T:List Nat} (f z:List Nat) (E:f++z=T) (F:pick l.toArray f=C)
  (G:(f.all (fun i=>decide (i<l.length))&&Du P false l.toArray tab f&&D.all (fun r=>f.all fun y=>match l.toArray[r]?,l.toArray[y]? with
   | some q,some oy=>!Bl q.op||!eff P false oy||Bg tab r y
   | _,_=>true))=true)
  (h:∀Qf:Bj,(∀a w,Cp P l.toArray tab Q (f++D) z a w→Qf .normal a w)→wpList P l.toArray Qf C a w):Cp P l.toArray tab Q D T a w:=by
 subst E
 exact rest_walk' f z F G h
end Reg
theorem LQ:(Tryz.prog.info? 63).map (fun i=>(i.zero,i.size,i.bytes))=some (some (.agg #[.int .i64 0,.slice none 0 0,.slice none 0 0,.slice none 0 0]),4,80):=by kernel_rfl
theorem Lw (z:Value) (n:Nat):madeCells #[z] (n*1)=(List.replicate n z).toArray:=by rw [Gm,IJ]
theorem LF {w:World} {I n M c2 O U B:Nat} {L:Int} {v4:Value} {V W:Option Addr} {acc:List Int} (hn:n≤200000) (aX:Blk w I 39 #[.int .i64 L,.int .i64 (n:Int),.slice V O M,.slice W U c2,v4])
    (h2:Sl w B 1 Ai W acc) (Z:U=acc.length) (h:B≤w.heap.size) (a2:∀x∈acc,inN n x=true) {v2:Value}
    {u0 u3 u4 u5 u6 u7 u8 u9 b2 b3 b4 b5 b6 b7 b8 b9 ba bb a7 a8 a9 aa ab ad ae af ag ah ai aj ak al am an ao ap aq ar au av aw ax ay az aA aB aC aD aE aF aG aH aJ aK aL aM aN aO aP aQ aR aS u64 aT:Value}
    {Q:Exit→Act→World→Prop} (hN:Reg.NoQ Q)
    (hQ:∀(x7 x8 x9 bg bh bi bj bk bl bm bn bo bp:Value) (w':World) (E F gm:Nat),Cy w w' [(E,63,#[.int .i64 L,.slice (some ⟨F,0,none⟩) n n,.slice V O M,.slice (some ⟨gm,0,none⟩) n n]),(F,53,(List.replicate n (Value.slice none 0 0)).toArray),(gm,4,((BF n acc).map Value.bool).toArray)]→
      Q .normal ⟨List.toArray (u0::(.pointer (some ⟨I,0,none⟩))::v2::(.pointer (some ⟨E,0,none⟩))::u4::u5::u6::x7::x8::x9::bg::bh::bi::bj::bk::bl::bm::bn::bo::bp::a7::a8::a9::aa::ab::ad::ae::af::ag::ah::
      ai::aj::ak::al::am::an::ao::ap::aq::ar::au::av::aw::ax::ay::az::aA::aB::aC::aD::aE::aF::aG::aH::aJ::aK::aL::aM::aN::aO::aP::aQ::aR::aS::u64::aT::[]),[]⟩ w'):
    (D0 Tryz.f20 1).wp Tryz.prog Q ⟨List.toArray (u0::(.pointer (some ⟨I,0,none⟩))::v2::u3::u4::u5::u6::u7::u8::u9::b2::b3::b4::b5::b6::b7::b8::b9::ba::bb::a7::a8::a9::aa::ab::ad::ae::af::ag::ah::ai::aj::ak::al::am::
      an::ao::ap::aq::ar::au::av::aw::ax::ay::az::aA::aB::aC::aD::aE::aF::aG::aH::aJ::aK::aL::aM::aN::aO::aP::aQ::aR::aS::u64::aT::[]),[]⟩ w:=by
  conv=>arg 2; whnf
  have bw:=aX.cell
  have bq:=hide Z
  have br:=hide a2
  clear Z a2
  refine Reg.region_spl [0,1,0,4,12,0,32,0,128,0,512,1920,4095,0,16383] (.node 4 11 (.node 4 13 (.node 11 13 (.node 12 13 (.leaf [0,1,2,3,5,6,7,8,9,10,4,11,12,13,14]) (.leaf [0,1,2,3,5,6,7,8,9,10,4,11,13,12,14])) (.leaf [0,1,2,3,5,6,7,8,9,10,4,13,11,12,14])) (.leaf [0,1,2,3,5,6,7,8,9,10,13,4,11,12,14])) (.node 4 13 (.node 12 13 (.leaf [0,1,2,3,5,6,7,8,9,10,11,4,12,13,14]) (.leaf [0,1,2,3,5,6,7,8,9,10,11,4,13,12,14])) (.node 11 13 (.leaf [0,1,2,3,5,6,7,8,9,10,11,13,4,12,14]) (.leaf [0,1,2,3,5,6,7,8,9,10,13,11,4,12,14])))) (by kernel_rfl) hN ?_
  dsimp only [Reg.Spl.goal]
  have y:=(Cy.nil w).drew
  repeat' (with_reducible refine And.intro ?_ ?_)
  all_goals
    refine Reg.rest_walkE [0,1,2,3,5,6,7,8,9,10] _ rfl rfl (by kernel_rfl) ?_
    intro Qf f
    go_wp2_with fail
    refine f _ _ ?_
    clear f
    iterate 5
      first
      | (refine Reg.rest_act' 4 _ [1,6,8,10] rfl (by kernel_rfl) ?_
         intro Qf f
         simp only [gT,gS,gZ]
         refine Jl Tryz.underlying61 HG (by omega) (by omega) n (by omega) rfl _ _ rfl rfl rfl ?_
         intro F w1 z h C
         first | refine f _ _ ⟨Reg.same_below h _ rfl,?_⟩ | refine⟨Reg.same_below h _ rfl,?_⟩
         replace y:=y.add h z C
         try clear f
         clear z h C)
      | (refine Reg.rest_act' 11 _ [1,3,6] rfl (by kernel_rfl) ?_
         intro Qf f
         simp only [gT,gS,gZ]
         go_wp2_with fail
         rw [bq.out]
         refine Calls.ret (MO (h2.keep (B':=B) (fun p hp=>y.below.cell (by omega)) (Nat.le_refl _)) (by have:=y.below.size; omega) hn br.out) ?_
         rintro v w1 ⟨h,⟨gm,-,rfl,z⟩,aU⟩
         have C:=aU gm rfl
         rw [C0]
         go_wp2_with fail
         first | refine f _ _ ⟨Reg.same_below h _ rfl,?_⟩ | refine⟨Reg.same_below h _ rfl,?_⟩
         replace y:=y.add h z C
         try clear f
         clear z h C aU)
      | (refine Reg.rest_walkE [13] _ rfl rfl (by kernel_rfl) ?_
         intro Qf f
         refine NW LQ rfl rfl ?_
         intro E w1 z h C
         refine f _ _ ?_
         replace y:=y.add h z C
         try clear f
         clear z h C)
      | (refine Reg.rest_walkE [12] _ rfl rfl (by kernel_rfl) ?_
         intro Qf f
         go_wp2_with fail
         first | refine f _ _ ?_ | skip
         try clear f)
      | (refine Reg.rest_walkE [14] _ rfl rfl (by kernel_rfl) ?_
         intro Qf f
         have G:=(y.blk (E,63,#[.int .i64 0,.slice none 0 0,.slice none 0 0,.slice none 0 0]) (by simp [Value.cells])).1
         have bA:=G.cell
         have bB:=G.frozen
         have bC:=G.lt
         clear G
         go_wp2_with fail
         first | refine f _ _ ?_ | skip
         try clear f)
    refine Reg.rest_end ?_
    obtain⟨bs,bt,bu⟩:=y
    simp only [List.map_cons,List.map_nil,List.nodup_cons,List.mem_cons,List.not_mem_nil,not_or,or_false,List.nodup_nil,not_false_eq_true,and_true] at bu
    refine hQ _ _ _ _ _ _ _ _ _ _ _ _ _ _ E F gm ?_
    have bv:Cy w w1 [(E,63,#[.int .i64 0,.slice none 0 0,.slice none 0 0,.slice none 0 0]),(F,53,(List.replicate n (Value.slice none 0 0)).toArray),(gm,4,((BF n acc).map Value.bool).toArray)]:=by
      refine⟨bs,?_,?_⟩
      · intro x J
        rw [←Lw] at J
        refine bt x ?_
        simp only [List.mem_cons,List.not_mem_nil,or_false] at J ⊢
        rcases J with rfl | rfl | rfl
        · first | exact .inl rfl | exact .inr (.inl rfl) | exact .inr (.inr rfl)
        · first | exact .inl rfl | exact .inr (.inl rfl) | exact .inr (.inr rfl)
        · first | exact .inl rfl | exact .inr (.inl rfl) | exact .inr (.inr rfl)
      · simp only [List.map_cons,List.map_nil,List.nodup_cons,List.mem_cons,List.not_mem_nil,not_or,or_false,List.nodup_nil,not_false_eq_true,and_true]
        omega
    exact bv.set4t _ _ _ _
end Go.Proofs.YtlakpndhhelliaaGreatDoor
namespace Go.Proofs.YtlakpndhhelliaaGreatDoor
open Go.RowKit
set_option maxHeartbeats 16000000
set_option maxRecDepth 100000
def Bf (n:Nat) (f:Nat→Value):Array Value:=((List.range n).map f).toArray
theorem CP {n i:Nat} (f:Nat→Value) (h:i<n):(Bf n f)[i]?=some (f i):=by simp [Bf,h]
theorem Fi (n:Nat) (f:Nat→Value):(Bf n f).size=n:=by simp [Bf]
theorem Ff (n i:Nat) (f:Nat→Value) (v:Value):(Bf n f).setIfInBounds i v=Bf n (fun x=>if x=i then v else f x):=by
 apply Array.ext_getElem?
 intro j
 rw [Array.getElem?_setIfInBounds]
 by_cases y:j<n
 ·by_cases e:i=j
  ·subst e
   rw [if_pos rfl,if_pos (by rw [Fi]; exact y),CP _ y,if_pos rfl]
  ·rw [if_neg e,CP _ y,CP _ y,if_neg (fun h=>e h.symm)]
 ·have z:∀g:Nat→Value,(Bf n g)[j]?=none:=fun g=>Array.getElem?_eq_none (by rw [Fi]; omega)
  rw [z,z]
  split
  ·rw [if_neg (by rw [Fi]; omega)]
  ·rfl
theorem DM {n:Nat} {f g:Nat→Value} (h:∀i,i<n→f i=g i):Bf n f=Bf n g:=by
 unfold Bf
 rw [List.map_congr_left fun i y=>h i (List.mem_range.1 y)]
theorem EZ (n:Nat) (z:Value):Array.replicate n z=Bf n fun _=>z:=by
 apply Array.ext'
 simp [Bf,List.map_const']
def up1 {D:Type} (f:Nat→D) (i:Nat) (v:D):Nat→D:=fun x=>if x=i then v else f x
def up2 {D:Type} (f:Nat→Nat→D) (i x:Nat) (v:D):Nat→Nat→D:=fun a b=>if a=i∧b=x then v else f a b
theorem FF {D:Type} (f:Nat→Nat→D) (i x:Nat) (v:D):up2 f i x v i x=v:=by simp [up2]
theorem Eh {D:Type} {f:Nat→Nat→D} {i x a b:Nat} {v:D} (h:¬(a=i∧b=x)):up2 f i x v a b=f a b:=if_neg h
structure Ec (w0 wr:World) (n L i gn:Nat) (gi:Nat→Nat):Prop where
 kept:Ae w0 wr (fun k=>k=gn)
 top:Blk wr gn 53 (Bf n fun s=>if s<i then .slice (some ⟨gi s,0,none⟩) L L else .slice none 0 0)
 row:∀s,s<i→Blk wr (gi s) 24 (Bf L fun _=>.slice none 0 0)∧w0.heap.size≤gi s
 inj:∀s,s<i→∀s',s'<i→gi s=gi s'→s=s'
theorem Ec.step {w0 wr w2:World} {n L i f gr:Nat} {y:Nat→Nat} (h:Ec w0 wr n L i f y) (U:i<n) (z:Below wr.heap.size wr w2) (M:Blk w2 gr 24 (Bf L fun _=>.slice none 0 0)) (V:wr.heap.size≤gr):
  Ec w0 (w2.setCell ⟨f,i,none⟩ (.slice (some ⟨gr,0,none⟩) L L)) n L (i+1) f (up1 y i gr):=by
 have E:=h.kept.size
 have W:=h.top.lt
 have hk:=(Ae.refl w2 (fun k=>k=f)).setCell (p:=⟨f,i,none⟩) (fun _=>rfl) (.slice (some ⟨gr,0,none⟩) L L)
 have F:∀s,s<i→y s<wr.heap.size:=fun s E=>(h.row s E).1.lt
 refine⟨(h.kept.trans (Ae.of_below z (fun _=>False)) fun _ _ e=>e.elim).trans hk fun _ _ e=>e,?_,fun s Z=>?_,fun s C G h2 e=>?_⟩
 ·have C:=(h.top.below z).set_ i (.slice (some ⟨gr,0,none⟩) L L)
  rw [Ff] at C
  rw [DM (g:=fun x=>if x=i then Value.slice (some ⟨gr,0,none⟩) L L else if x<i then .slice (some ⟨y x,0,none⟩) L L else .slice none 0 0) (fun s _=>by
   unfold up1
   by_cases e:s=i
   ·subst e; simp
   ·by_cases I:s<i
    ·rw [if_pos (by omega),if_neg e,if_neg e,if_pos I]
    ·rw [if_neg (by omega),if_neg e,if_neg I])]
  exact C
 ·unfold up1
  split
  ·exact⟨M.kept hk (fun e=>by omega),by omega⟩
  ·obtain⟨J,O⟩:=h.row s (by omega)
   exact⟨(J.below z).kept hk (fun e=>J.ne_ h.top (by decide) e),O⟩
 ·unfold up1 at e
  split at e <;> split at e
  ·omega
  ·have:=F G (by omega); omega
  ·have:=F s (by omega); omega
  ·exact h.inj s (by omega) G (by omega) e
structure DP (w0 wr:World) (n L gn:Nat) (gi:Nat→Nat) (u:Nat→Nat→Value) (l:Nat→Nat→List Int):Prop where
 kept:Ae w0 wr (fun k=>k=gn)
 top:Blk wr gn 53 (Bf n fun s=>.slice (some ⟨gi s,0,none⟩) L L)
 row:∀s,s<n→Blk wr (gi s) 24 (Bf L (u s))∧w0.heap.size≤gi s
 inj:∀s,s<n→∀s',s'<n→gi s=gi s'→s=s'
 own:∀s,s<n→∀x,x<L→wr.ownsRow w0.heap.size 3 1 (u s x) (l s x).length ((l s x).map (Value.int .i64))
 sep:∀s,s<n→∀x,x<L→∀s',s'<n→∀x',x'<L→∀g,(u s x).ownBlock=some g→(u s' x').ownBlock=some g→s=s'∧x=x'
theorem Ec.done {w0 wr:World} {n L y:Nat} {f:Nat→Nat} (h:Ec w0 wr n L n y f):DP w0 wr n L y f (fun _ _=>.slice none 0 0) (fun _ _=>[]):=by
 refine⟨h.kept,?_,h.row,h.inj,fun s _ x _=>CT,fun s _ x _ F _ G _ g C=>by simp [Value.ownBlock] at C⟩
 have z:=h.top
 rw [DM (g:=fun s=>Value.slice (some ⟨f s,0,none⟩) L L) (fun s E=>by rw [if_pos E])] at z
 exact z
theorem DP.keep {w0 wr w2:World} {n L z:Nat} {C:Nat→Nat} {u:Nat→Nat→Value} {l:Nat→Nat→List Int} (h:DP w0 wr n L z C u l) (f:Below wr.heap.size wr w2):DP w0 w2 n L z C u l:=
 ⟨h.kept.trans (Ae.of_below f (fun _=>False)) fun _ _ e=>e.elim,h.top.below f,fun s y=>⟨(h.row s y).1.below f,(h.row s y).2⟩,h.inj,fun s y x E=>B5 (h.own s y x E) f,h.sep⟩
theorem DP.step {w0 wr w2:World} {n L gn f y:Nat} {I:Nat→Nat} {u:Nat→Nat→Value} {l:Nat→Nat→List Int} (h:DP w0 wr n L gn I u l) (J:f<n) (hy:y<L) {E:Value} {to:Int}
  (hk:Ae wr w2 (fun k=>(u f y).ownBlock=some k)) (ho:w2.ownsRow w0.heap.size 3 1 E ((l f y).length+1) ((l f y).map (Value.int .i64)++[.int .i64 to])) (ag:BX wr (u f y) E):
  DP w0 (w2.setCell ⟨I f,y,none⟩ E) n L gn I (up2 u f y E) (up2 l f y (l f y++[to])):=by
 have a4:=h.own f J y hy
 have F:=h.kept.size
 have W:=(Ae.refl w2 (fun k=>k=I f)).setCell (p:=⟨I f,y,none⟩) (fun _=>rfl) E
 have Z:∀s,s<n→Blk w2 (I s) 24 (Bf L (u s)):=fun s F=>(h.row s F).1.kept hk (AK a4 (h.row s F).1 (by decide))
 have aa:Blk w2 gn 53 (Bf n fun s=>.slice (some ⟨I s,0,none⟩) L L):=h.top.kept hk (AK a4 h.top (by decide))
 have ah:∀s,s<n→∀x,x<L→∀g,(u s x).ownBlock=some g→g<wr.heap.size:=fun s F x M g z=>Cm (h.own s F x M) z
 have ab:∀s,s<n→∀x,x<L→¬(s=f∧x=y)→∀g,E.ownBlock=some g→(u s x).ownBlock≠some g:=fun s F x M ai g z e=>by
  rcases ag with C | ⟨g',C,h2⟩
  ·exact ai (h.sep s F x M f J y hy g e (by rw [←C]; exact z))
  ·rw [z] at C
   have:=ah s F x M g e
   injection C with C
   omega
 refine⟨(h.kept.trans hk fun b hb e=>by have:=Bm a4 e; omega).trans W fun b hb e=>by have:=(h.row f J).2; omega,aa.kept W (fun e=>(Z f J).ne_ aa (by decide) e.symm),fun s G=>⟨?_,(h.row s G).2⟩,h.inj,fun s G x M=>?_,fun s C x h2 s' h3 x' h4 g z V=>?_⟩
 ·by_cases e:s=f
  ·subst e
   have C:=(Z s G).set_ y E
   rw [Ff] at C
   rw [DM (g:=fun x=>if x=y then E else u s x) (fun x _=>by simp [up2])]
   exact C
  ·rw [DM (g:=u s) (fun x _=>Eh fun hh=>e hh.1)]
   exact(Z s G).kept W fun hh=>e (h.inj s G f J hh)
 ·by_cases e:s=f∧x=y
  ·obtain⟨rfl,rfl⟩:=e
   rw [FF,FF,List.length_append,List.map_append]
   exact AX W ho (fun g cs z hB=>by subst z; exact hB.ne_ (Z s G) (by decide) rfl)
  ·rw [Eh e,Eh e]
   refine AX W (hk.ownsRow (h.own s G x M) fun g z ak=>e (h.sep s G x M f J y hy g z ak)) (fun g cs z hB=>by subst z; exact hB.ne_ (Z f J) (by decide) rfl)
 ·by_cases O:s=f∧x=y <;> by_cases U:s'=f∧x'=y
  ·exact⟨O.1.trans U.1.symm,O.2.trans U.2.symm⟩
  ·rw [O.1,O.2,FF] at z
   rw [Eh U] at V
   exact absurd V (ab s' h3 x' h4 U g z)
  ·rw [U.1,U.2,FF] at V
   rw [Eh O] at z
   exact absurd z (ab s C x h2 O g V)
  ·rw [Eh O] at z
   rw [Eh U] at V
   exact h.sep s C x h2 s' h3 x' h4 g z V
theorem Mn {wr:World} {n L z B base:Nat} {h:Nat→Nat} {u:Nat→Nat→Value} {l:Nat→Nat→List Int} (top:Blk wr z 53 (Bf n fun s=>.slice (some ⟨h s,0,none⟩) L L)) (row:∀s,s<n→Blk wr (h s) 24 (Bf L (u s))) (own:∀s,s<n→∀x,x<L→wr.ownsRow base 3 1 (u s x) (l s x).length ((l s x).map (Value.int .i64))) (C:wr.heap.size≤B) (F:n≤4000000) (G:L≤4000000) (E:∀s,s<n→∀x,x<L→(l s x).length≤4000000):
  VSl R2 wr B (some ⟨z,0,none⟩) ((List.range n).map fun s=>(List.range L).map fun x=>l s x):=by
 refine⟨by simp; omega,fun _=>⟨z,0,rfl,by have:=top.lt; omega,fun s d hd=>?_⟩⟩
 have f:s<n:=by simpa using AO hd
 rw [Bq (List.getElem?_range f)] at hd
 have hd:=Option.some.inj hd
 subst hd
 refine⟨.slice (some ⟨h s,0,none⟩) L L,by rw [top.cell,Nat.zero_add,CP _ f],_,L,by rw [List.length_map,List.length_range],by simp; omega,fun _=>⟨h s,0,rfl,by have:=(row s f).lt; omega,fun x d hd=>?_⟩⟩
 have y:x<L:=by simpa using AO hd
 rw [Bq (List.getElem?_range y)] at hd
 have hd:=Option.some.inj hd
 subst hd
 exact⟨u s x,by rw [(row s f).cell,Nat.zero_add,CP _ y],C2 (own s f x y) rfl C (by have:=E s f x y; omega)⟩
end Go.Proofs.YtlakpndhhelliaaGreatDoor
