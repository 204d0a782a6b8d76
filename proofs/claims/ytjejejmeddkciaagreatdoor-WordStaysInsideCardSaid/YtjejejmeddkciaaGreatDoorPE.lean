/-
  Part PE of a proof.
-/
import Derived.WalkMore
import Derived.ScopeJumps
import Derived.Shelf.LaysM
import Derived.Shelf.Sort.Plain
import Derived.Ground.NamesProg
import Derived.Ground.Names2Prog
import Derived.Shelf.Slices.Equal
import Derived.Shelf.Slices.Turned
import Derived.Shelf.Slices.Empties2
import Derived.Test.YtjejejmeddkciaaGreatDoorProg
import Derived.ArgAppend
import Derived.Deep.LoopGhost
import Derived.Test.YtjejejmeddkciaaGreatDoorPS
import Derived.Test.YtjejejmeddkciaaGreatDoorPA
import Derived.Test.YtjejejmeddkciaaGreatDoorPB
set_option maxHeartbeats 16000000
set_option maxRecDepth 100000
set_option linter.unusedVariables false
set_option linter.unusedSimpArgs false
namespace Go.Proofs.YtjejejmeddkciaaGreatDoor
open Go.RowKit
set_option maxHeartbeats 16000000
set_option maxRecDepth 100000
def CW:Code->List Code
 | .region i o d=>[.region i o d]
 | .loop c=>CW c
 | .seq a b=>CW a++CW b
 | .block _ c=>CW c
 | .scope c=>CW c
 | .cond _ a b=>CW a++CW b
 | _=>[]
def Eu (f:Func) (k:Nat):Code:=match f.body with
 | some c=>(CW c).getD k .skip
 | none=>.skip
structure CP (w0 w:World) (l:List (Nat×TypeId×Array Value)):Prop where
 below:Below w0.heap.size w0 w
 blk:∀x∈l,Blk w x.1 x.2.1 x.2.2/\w0.heap.size<=x.1
 nodup:(l.map (·.1)).Nodup
theorem CP.nil (w:World):CP w w []:=⟨Below.refl _ _,fun _ h=>by simp at h,by simp⟩
theorem CP.add {w0 w E:World} {l:List (Nat×TypeId×Array Value)} (h:CP w0 w l) (F:Below w.heap.size w E) {g:Nat} {e:TypeId} {cs:Array Value} (G:Blk E g e cs) (I:w.heap.size<=g):CP w0 E ((g,e,cs)::l):=by
 refine⟨h.below.trans (F.mono h.below.size),fun x C=>?_,?_⟩
 ·rcases List.mem_cons.1 C with rfl|C
  ·exact⟨G,Nat.le_trans h.below.size I⟩
  ·exact⟨(h.blk x C).1.below F,(h.blk x C).2⟩
 ·rw [List.map_cons,List.nodup_cons];refine⟨fun C=>?_,h.nodup⟩;obtain⟨x,C,e⟩:=List.mem_map.1 C;have:=(h.blk x C).1.lt;dsimp only at e;omega
theorem CP.drew {w0 w:World} {l:List (Nat×TypeId×Array Value)} (h:CP w0 w l):CP w0 w.drew l:=
 ⟨h.below.trans ((Ap w).mono h.below.size),h.blk,h.nodup⟩
def set4t (w:World) (g:Nat) (v0 v1 v2 v3:Value):World:=(((w.setCell ⟨g,0,none⟩ v0).setCell ⟨g,1,none⟩ v1).setCell ⟨g,2,none⟩ v2).setCell ⟨g,3,none⟩ v3
theorem Lg {w:World} {g:Nat} {e:TypeId} {a0 a1 E F:Value} (h:Blk w g e #[a0,a1,E,F]) (v0 v1 v2 v3:Value):∃C,set4t w g v0 v1 v2 v3=C/\Blk C g e #[v0,v1,v2,v3]/\Ac w C (fun k=>k=g):=
 ⟨_,rfl,(((h.set_ 0 v0).set_ 1 v1).set_ 2 v2).set_ 3 v3,
  ((((Ac.refl w (fun k=>k=g)).setCell (p:=⟨g,0,none⟩) (fun _=>rfl) v0).setCell (p:=⟨g,1,none⟩) (fun _=>rfl) v1).setCell (p:=⟨g,2,none⟩) (fun _=>rfl) v2).setCell (p:=⟨g,3,none⟩) (fun _=>rfl) v3⟩
theorem CP.set4t {w0 w:World} {l:List (Nat×TypeId×Array Value)} {g:Nat} {e:TypeId} {a b c d:Value} (h:CP w0 w ((g,e,#[a,b,c,d])::l)) (v0 v1 v2 v3:Value):CP w0 (set4t w g v0 v1 v2 v3) ((g,e,#[v0,v1,v2,v3])::l):=by
 have E:=(h.blk _ List.mem_cons_self);obtain⟨M,J,G,I⟩:=Lg E.1 v0 v1 v2 v3;rw [J];refine⟨h.below.trans (I.below h.below.size fun b G e=>by have:=E.2;dsimp only at this;omega),fun x C=>?_,h.nodup⟩;rcases List.mem_cons.1 C with rfl|C
 ·exact⟨G,E.2⟩
 ·have h1:=h.blk x (List.mem_cons_of_mem _ C);refine⟨Blk.kept h1.1 I fun e=>?_,h1.2⟩;have F:=h.nodup;rw [List.map_cons,List.nodup_cons] at F;exact F.1 (List.mem_map.2 ⟨x,C,e⟩)
section
variable {P:Program} {ops:Array Oper} {rest:List Oper} {o:Oper} {a:Act} {Q:Exit->Act->World->Prop}
theorem Ul {w:World} {t bytes sz:Nat} {z:Value} (I:(P.info? t).map (fun i=>(i.zero,i.size,i.bytes))=some (some z,sz,bytes))
  (G:o.guard=none) (ho:o.op=.alloc t)
  (h:∀g C,Blk C g t z.cells->Below w.heap.size w C->w.heap.size<=g->wpList P ops Q rest (a.put o.dst (.pointer (some ⟨g,0,none⟩))) C):wpList P ops Q (o::rest) a w:=by
 refine wpList_plain G fun K F=>?_;obtain⟨i,h1,E,M,O⟩:=info_parts I;have J:(Instr.alloc t true (.tuple #[])).run P w=.ok (.pointer (some ⟨w.heap.size,0,none⟩)) (w.alloc (.cells z.cells t)):=by
  simp [Instr.alloc,zeroValue,typeInfo,go_sem,h1,E]
 unfold Oper.wp execOp;simp only [ho,Sem.run_bind,Sem.run_pure,Result.andThen_ok,J];exact F _ _ (h _ _ (Blk.new _ _ _) ((Below.refl _ _).alloc (Nat.le_refl _) _) (Nat.le_refl _))
end
namespace Reg
theorem rest_walkE {P:Program} {Q:Bo} {a:Act} {w:World} {l l1:List Oper} {tab D T:List Nat} (C E:List Nat) (F:C++E=T) (I:pick l.toArray C=l1)
  (G:(C.all (fun i=>decide (i<l.length))&&DS P false l.toArray tab C&&D.all (fun r=>C.all fun y=>match l.toArray[r]?,l.toArray[y]? with
   | some q,some oy=>!Bq q.op||!eff P false oy||Bl tab r y
   | _,_=>true))=true)
  (h:∀Qf:Bo,(∀a w,CB P l.toArray tab Q (C++D) E a w->Qf .normal a w)->wpList P l.toArray Qf l1 a w):CB P l.toArray tab Q D T a w:=by
 subst F;exact rest_walk' C E I G h
end Reg
theorem Qo:(Tryz.prog.info? 86).map (fun i=>(i.zero,i.size,i.bytes))=some (some (.agg #[.int .i64 0,.slice none 0 0,.slice none 0 0,.slice none 0 0]),4,80):=by kernel_rfl
theorem QT (z:Value) (n:Nat):madeCells #[z] (n*1)=(List.replicate n z).toArray:=by rw [HA,KH]
theorem Rg {w:World} {J n c1 c2 k1 k2 B:Nat} {L:Int} {v4:Value} {U V:Option Addr} {acc:List Int} (hn:n<=200000) (aY:Blk w J 33 #[.int .i64 L,.int .i64 (n:Int),.slice U k1 c1,.slice V k2 c2,v4])
    (h2:Sl w B 1 Ai V acc) (a2:k2=acc.length) (C:B<=w.heap.size) (Z:∀x∈acc,inN n x=true) {v2:Value}
    {u0 u3 u4 u5 u6 u7 u8 u9 b9 ba bb bc bd be bf bg bh bi a6 a7 a8 a9 aa ab ad ae af ag ah ai aj ak al am an ao ap aq au av aw ax ay az aA aB aC aD aF aG aH aJ aK aL aM aN aO aP aR aS aT aU u64 aV:Value}
    {Q:Exit->Act->World->Prop} (hN:Reg.NoQ Q)
    (hQ:∀(x7 x8 x9 bn bo bp bq br bs bt bu bv bw:Value) (w':World) (g3 gn gm:Nat),CP w w' [(g3,86,#[.int .i64 L,.slice (some ⟨gn,0,none⟩) n n,.slice U k1 c1,.slice (some ⟨gm,0,none⟩) n n]),(gn,67,(List.replicate n (Value.slice none 0 0)).toArray),(gm,4,((BN n acc).map Value.bool).toArray)]->
      Q .normal ⟨List.toArray (u0::(.pointer (some ⟨J,0,none⟩))::v2::(.pointer (some ⟨g3,0,none⟩))::u4::u5::u6::x7::x8::x9::bn::bo::bp::bq::br::bs::bt::bu::bv::bw::a6::a7::a8::a9::aa::ab::ad::ae::af::ag::
      ah::ai::aj::ak::al::am::an::ao::ap::aq::au::av::aw::ax::ay::az::aA::aB::aC::aD::aF::aG::aH::aJ::aK::aL::aM::aN::aO::aP::aR::aS::aT::aU::u64::aV::[]),[]⟩ w'):
    (Eu Tryz.f26 1).wp Tryz.prog Q ⟨List.toArray (u0::(.pointer (some ⟨J,0,none⟩))::v2::u3::u4::u5::u6::u7::u8::u9::b9::ba::bb::bc::bd::be::bf::bg::bh::bi::a6::a7::a8::a9::aa::ab::ad::ae::af::ag::ah::ai::aj::ak::al::
      am::an::ao::ap::aq::au::av::aw::ax::ay::az::aA::aB::aC::aD::aF::aG::aH::aJ::aK::aL::aM::aN::aO::aP::aR::aS::aT::aU::u64::aV::[]),[]⟩ w:=by
  conv=>arg 2;whnf
  have bB:=aY.cell;have b6:=hide a2;have b5:=hide Z;clear a2 Z;refine Reg.region_spl [0,1,0,4,12,0,32,0,128,0,512,1920,4095,0,16383] (.node 4 11 (.node 4 13 (.node 11 13 (.node 12 13 (.leaf [0,1,2,3,5,6,7,8,9,10,4,11,12,13,14]) (.leaf [0,1,2,3,5,6,7,8,9,10,4,11,13,12,14])) (.leaf [0,1,2,3,5,6,7,8,9,10,4,13,11,12,14])) (.leaf [0,1,2,3,5,6,7,8,9,10,13,4,11,12,14])) (.node 4 13 (.node 12 13 (.leaf [0,1,2,3,5,6,7,8,9,10,11,4,12,13,14]) (.leaf [0,1,2,3,5,6,7,8,9,10,11,4,13,12,14])) (.node 11 13 (.leaf [0,1,2,3,5,6,7,8,9,10,11,13,4,12,14]) (.leaf [0,1,2,3,5,6,7,8,9,10,13,11,4,12,14])))) (by kernel_rfl) hN ?_;dsimp only [Reg.Spl.goal];have E:=(CP.nil w).drew
  repeat' (with_reducible refine And.intro ?_ ?_)
  all_goals
    refine Reg.rest_walkE [0,1,2,3,5,6,7,8,9,10] _ rfl rfl (by kernel_rfl) ?_;intro Qf h;go_wp2_with fail;refine h _ _ ?_;clear h
    iterate 5
      first
      | (refine Reg.rest_act' 4 _ [1,6,8,10] rfl (by kernel_rfl) ?_
         intro Qf h;simp only [gT,gS,gZ];refine LG Tryz.underlying84 Qk (by omega) (by omega) n (by omega) rfl _ _ rfl rfl rfl ?_;intro gn O F C G;first|refine h _ _ ⟨Reg.same_below C _ rfl,?_⟩|refine⟨Reg.same_below C _ rfl,?_⟩
         replace E:=E.add C F G;(try clear h);clear F C G)
      | (refine Reg.rest_act' 11 _ [1,3,6] rfl (by kernel_rfl) ?_
         intro Qf h;simp only [gT,gS,gZ];go_wp2_with fail;rw [b6.out];refine Calls.ret (Q3 (h2.keep (B':=B) (fun p hp=>E.below.cell (by omega)) (Nat.le_refl _)) (by have:=E.below.size;omega) hn b5.out) ?_;rintro v O ⟨C,⟨gm,-,rfl,F⟩,W⟩;have G:=W gm rfl;rw [Dh];go_wp2_with fail;first|refine h _ _ ⟨Reg.same_below C _ rfl,?_⟩|refine⟨Reg.same_below C _ rfl,?_⟩
         replace E:=E.add C F G;(try clear h);clear F C G W)
      | (refine Reg.rest_walkE [13] _ rfl rfl (by kernel_rfl) ?_
         intro Qf h;refine Ul Qo rfl rfl ?_;intro g3 O F C G;refine h _ _ ?_;replace E:=E.add C F G;(try clear h);clear F C G)
      | (refine Reg.rest_walkE [12] _ rfl rfl (by kernel_rfl) ?_
         intro Qf h;go_wp2_with fail;first|refine h _ _ ?_|skip
         try clear h)
      | (refine Reg.rest_walkE [14] _ rfl rfl (by kernel_rfl) ?_
         intro Qf h;have I:=(E.blk (g3,86,#[.int .i64 0,.slice none 0 0,.slice none 0 0,.slice none 0 0]) (by simp [Value.cells])).1;have bC:=I.cell;have bD:=I.frozen;have bE:=I.lt;clear I;go_wp2_with fail;first|refine h _ _ ?_|skip
         try clear h)
    refine Reg.rest_end ?_;obtain⟨b0,b4,b8⟩:=E;simp only [List.map_cons,List.map_nil,List.nodup_cons,List.mem_cons,List.not_mem_nil,not_or,or_false,List.nodup_nil,not_false_eq_true,and_true] at b8;refine hQ _ _ _ _ _ _ _ _ _ _ _ _ _ _ g3 gn gm ?_;have aX:CP w O [(g3,86,#[.int .i64 0,.slice none 0 0,.slice none 0 0,.slice none 0 0]),(gn,67,(List.replicate n (Value.slice none 0 0)).toArray),(gm,4,((BN n acc).map Value.bool).toArray)]:=by
      refine⟨b0,?_,?_⟩
      · intro x M
        rw [<-QT] at M;refine b4 x ?_;simp only [List.mem_cons,List.not_mem_nil,or_false] at M ⊢;rcases M with rfl|rfl|rfl
        · first|exact .inl rfl|exact .inr (.inl rfl)|exact .inr (.inr rfl)
        · first|exact .inl rfl|exact .inr (.inl rfl)|exact .inr (.inr rfl)
        · first|exact .inl rfl|exact .inr (.inl rfl)|exact .inr (.inr rfl)
      · simp only [List.map_cons,List.map_nil,List.nodup_cons,List.mem_cons,List.not_mem_nil,not_or,or_false,List.nodup_nil,not_false_eq_true,and_true]
        omega
    exact aX.set4t _ _ _ _
end Go.Proofs.YtjejejmeddkciaaGreatDoor
namespace Go.Proofs.YtjejejmeddkciaaGreatDoor
open Go.RowKit
set_option maxHeartbeats 16000000
set_option maxRecDepth 100000
def Bi (n:Nat) (f:Nat->Value):Array Value:=((List.range n).map f).toArray
theorem CV {n i:Nat} (f:Nat->Value) (h:i<n):(Bi n f)[i]?=some (f i):=by simp [Bi,h]
theorem Fp (n:Nat) (f:Nat->Value):(Bi n f).size=n:=by simp [Bi]
theorem F7 (n i:Nat) (f:Nat->Value) (v:Value):(Bi n f).setIfInBounds i v=Bi n (fun x=>if x=i then v else f x):=by
 apply Array.ext_getElem?;intro j;rw [Array.getElem?_setIfInBounds];by_cases C:j<n
 ·by_cases e:i=j
  ·subst e;rw [if_pos rfl,if_pos (by rw [Fp];exact C),CV _ C,if_pos rfl]
  ·rw [if_neg e,CV _ C,CV _ C,if_neg (fun h=>e h.symm)]
 ·have E:∀g:Nat->Value,(Bi n g)[j]?=none:=fun g=>Array.getElem?_eq_none (by rw [Fp];omega);rw [E,E];split
  ·rw [if_neg (by rw [Fp];omega)]
  ·rfl
theorem D4 {n:Nat} {f g:Nat->Value} (h:∀i,i<n->f i=g i):Bi n f=Bi n g:=by
 unfold Bi;rw [List.map_congr_left fun i C=>h i (List.mem_range.1 C)]
theorem Fo (n:Nat) (z:Value):Array.replicate n z=Bi n fun _=>z:=by
 apply Array.ext';simp [Bi,List.map_const']
def up1 {D:Type} (f:Nat->D) (i:Nat) (v:D):Nat->D:=fun x=>if x=i then v else f x
def up2 {D:Type} (f:Nat->Nat->D) (i x:Nat) (v:D):Nat->Nat->D:=fun a b=>if a=i/\b=x then v else f a b
theorem G7 {D:Type} (f:Nat->Nat->D) (i x:Nat) (v:D):up2 f i x v i x=v:=by simp [up2]
theorem E0 {D:Type} {f:Nat->Nat->D} {i x a b:Nat} {v:D} (h:¬(a=i/\b=x)):up2 f i x v a b=f a b:=if_neg h
structure EC (w0 wr:World) (n L i gn:Nat) (gi:Nat->Nat):Prop where
 kept:Ac w0 wr (fun k=>k=gn)
 top:Blk wr gn 67 (Bi n fun s=>if s<i then .slice (some ⟨gi s,0,none⟩) L L else .slice none 0 0)
 row:∀s,s<i->Blk wr (gi s) 24 (Bi L fun _=>.slice none 0 0)/\w0.heap.size<=gi s
 inj:∀s,s<i->∀s',s'<i->gi s=gi s'->s=s'
theorem EC.step {w0 wr w2:World} {n L i gn gr:Nat} {C:Nat->Nat} (h:EC w0 wr n L i gn C) (a3:i<n) (E:Below wr.heap.size wr w2) (V:Blk w2 gr 24 (Bi L fun _=>.slice none 0 0)) (Z:wr.heap.size<=gr):
  EC w0 (w2.setCell ⟨gn,i,none⟩ (.slice (some ⟨gr,0,none⟩) L L)) n L (i+1) gn (up1 C i gr):=by
 have M:=h.kept.size;have a2:=h.top.lt;have F:=(Ac.refl w2 (fun k=>k=gn)).setCell (p:=⟨gn,i,none⟩) (fun _=>rfl) (.slice (some ⟨gr,0,none⟩) L L);have J:∀s,s<i->C s<wr.heap.size:=fun s M=>(h.row s M).1.lt;refine⟨(h.kept.trans (Ac.of_below E (fun _=>False)) fun _ _ e=>e.elim).trans F fun _ _ e=>e,?_,fun s a4=>?_,fun s h1 O W e=>?_⟩
 ·have h1:=(h.top.below E).set_ i (.slice (some ⟨gr,0,none⟩) L L);rw [F7] at h1;rw [D4 (g:=fun x=>if x=i then Value.slice (some ⟨gr,0,none⟩) L L else if x<i then .slice (some ⟨C x,0,none⟩) L L else .slice none 0 0) (fun s _=>by
   unfold up1;by_cases e:s=i
   ·subst e;simp
   ·by_cases G:s<i
    ·rw [if_pos (by omega),if_neg e,if_neg e,if_pos G]
    ·rw [if_neg (by omega),if_neg e,if_neg G])]
  exact h1
 ·unfold up1;split
  ·exact⟨V.kept F (fun e=>by omega),by omega⟩
  ·obtain⟨I,U⟩:=h.row s (by omega);exact⟨(I.below E).kept F (fun e=>I.ne_ h.top (by decide) e),U⟩
 ·unfold up1 at e;split at e <;> split at e
  ·omega
  ·have:=J O (by omega);omega
  ·have:=J s (by omega);omega
  ·exact h.inj s (by omega) O (by omega) e
structure Ea (w0 wr:World) (n L gn:Nat) (gi:Nat->Nat) (u:Nat->Nat->Value) (l:Nat->Nat->List Int):Prop where
 kept:Ac w0 wr (fun k=>k=gn)
 top:Blk wr gn 67 (Bi n fun s=>.slice (some ⟨gi s,0,none⟩) L L)
 row:∀s,s<n->Blk wr (gi s) 24 (Bi L (u s))/\w0.heap.size<=gi s
 inj:∀s,s<n->∀s',s'<n->gi s=gi s'->s=s'
 own:∀s,s<n->∀x,x<L->wr.ownsRow w0.heap.size 3 1 (u s x) (l s x).length ((l s x).map (Value.int .i64))
 sep:∀s,s<n->∀x,x<L->∀s',s'<n->∀x',x'<L->∀g,(u s x).ownBlock=some g->(u s' x').ownBlock=some g->s=s'/\x=x'
theorem EC.done {w0 wr:World} {n L gn:Nat} {C:Nat->Nat} (h:EC w0 wr n L n gn C):Ea w0 wr n L gn C (fun _ _=>.slice none 0 0) (fun _ _=>[]):=by
 refine⟨h.kept,?_,h.row,h.inj,fun s _ x _=>Cb,fun s _ x _ G _ I _ g E=>by simp [Value.ownBlock] at E⟩;have h1:=h.top;rw [D4 (g:=fun s=>Value.slice (some ⟨C s,0,none⟩) L L) (fun s F=>by rw [if_pos F])] at h1;exact h1
theorem Ea.keep {w0 wr w2:World} {n L gn:Nat} {F:Nat->Nat} {u:Nat->Nat->Value} {l:Nat->Nat->List Int} (h:Ea w0 wr n L gn F u l) (C:Below wr.heap.size wr w2):Ea w0 w2 n L gn F u l:=
 ⟨h.kept.trans (Ac.of_below C (fun _=>False)) fun _ _ e=>e.elim,h.top.below C,fun s E=>⟨(h.row s E).1.below C,(h.row s E).2⟩,h.inj,fun s E x G=>Bt (h.own s E x G) C,h.sep⟩
theorem Ea.step {w0 wr w2:World} {n L gn f y:Nat} {M:Nat->Nat} {u:Nat->Nat->Value} {l:Nat->Nat->List Int} (h:Ea w0 wr n L gn M u l) (O:f<n) (hy:y<L) {G:Value} {to:Int}
  (hk:Ac wr w2 (fun k=>(u f y).ownBlock=some k)) (ho:w2.ownsRow w0.heap.size 3 1 G ((l f y).length+1) ((l f y).map (Value.int .i64)++[.int .i64 to])) (ah:BJ wr (u f y) G):
  Ea w0 (w2.setCell ⟨M f,y,none⟩ G) n L gn M (up2 u f y G) (up2 l f y (l f y++[to])):=by
 have a6:=h.own f O y hy;have E:=h.kept.size;have W:=(Ac.refl w2 (fun k=>k=M f)).setCell (p:=⟨M f,y,none⟩) (fun _=>rfl) G;have Z:∀s,s<n->Blk w2 (M s) 24 (Bi L (u s)):=fun s E=>(h.row s E).1.kept hk (Aw a6 (h.row s E).1 (by decide));have ae:Blk w2 gn 67 (Bi n fun s=>.slice (some ⟨M s,0,none⟩) L L):=h.top.kept hk (Aw a6 h.top (by decide));have ag:∀s,s<n->∀x,x<L->∀g,(u s x).ownBlock=some g->g<wr.heap.size:=fun s E x U g C=>Cj (h.own s E x U) C;have ad:∀s,s<n->∀x,x<L->¬(s=f/\x=y)->∀g,G.ownBlock=some g->(u s x).ownBlock≠some g:=fun s E x U ai g C e=>by
  rcases ah with h1|⟨g',h1,h2⟩
  ·exact ai (h.sep s E x U f O y hy g e (by rw [<-h1];exact C))
  ·rw [C] at h1;have:=ag s E x U g e;injection h1 with h1
   omega
 refine⟨(h.kept.trans hk fun b hb e=>by have:=Bb a6 e;omega).trans W fun b hb e=>by have:=(h.row f O).2;omega,ae.kept W (fun e=>(Z f O).ne_ ae (by decide) e.symm),fun s F=>⟨?_,(h.row s F).2⟩,h.inj,fun s F x U=>?_,fun s h1 x h2 s' h3 x' h4 g C V=>?_⟩
 ·by_cases e:s=f
  ·subst e;have h1:=(Z s F).set_ y G;rw [F7] at h1;rw [D4 (g:=fun x=>if x=y then G else u s x) (fun x _=>by simp [up2])];exact h1
  ·rw [D4 (g:=u s) (fun x _=>E0 fun hh=>e hh.1)];exact(Z s F).kept W fun hh=>e (h.inj s F f O hh)
 ·by_cases e:s=f/\x=y
  ·obtain⟨rfl,rfl⟩:=e;rw [G7,G7,List.length_append,List.map_append];exact AK W ho (fun g cs C hB=>by subst C;exact hB.ne_ (Z s F) (by decide) rfl)
  ·rw [E0 e,E0 e];refine AK W (hk.ownsRow (h.own s F x U) fun g C aj=>e (h.sep s F x U f O y hy g C aj)) (fun g cs C hB=>by subst C;exact hB.ne_ (Z f O) (by decide) rfl)
 ·by_cases I:s=f/\x=y <;> by_cases J:s'=f/\x'=y
  ·exact⟨I.1.trans J.1.symm,I.2.trans J.2.symm⟩
  ·rw [I.1,I.2,G7] at C;rw [E0 J] at V;exact absurd V (ad s' h3 x' h4 J g C)
  ·rw [J.1,J.2,G7] at V;rw [E0 I] at C;exact absurd C (ad s h1 x h2 I g V)
  ·rw [E0 I] at C;rw [E0 J] at V;exact h.sep s h1 x h2 s' h3 x' h4 g C V
theorem Rf {wr:World} {n L gn B base:Nat} {E:Nat->Nat} {u:Nat->Nat->Value} {l:Nat->Nat->List Int} (top:Blk wr gn 67 (Bi n fun s=>.slice (some ⟨E s,0,none⟩) L L)) (row:∀s,s<n->Blk wr (E s) 24 (Bi L (u s))) (own:∀s,s<n->∀x,x<L->wr.ownsRow base 3 1 (u s x) (l s x).length ((l s x).map (Value.int .i64))) (G:wr.heap.size<=B) (M:n<=4000000) (J:L<=4000000) (I:∀s,s<n->∀x,x<L->(l s x).length<=4000000):
  VSl R2 wr B (some ⟨gn,0,none⟩) ((List.range n).map fun s=>(List.range L).map fun x=>l s x):=by
 refine⟨by simp;omega,fun _=>⟨gn,0,rfl,by have:=top.lt;omega,fun s d h=>?_⟩⟩;have C:s<n:=by simpa using AP h
 rw [AX (List.getElem?_range C)] at h;have h:=Option.some.inj h;subst h;refine⟨.slice (some ⟨E s,0,none⟩) L L,by rw [top.cell,Nat.zero_add,CV _ C],_,L,by rw [List.length_map,List.length_range],by simp;omega,fun _=>⟨E s,0,rfl,by have:=(row s C).lt;omega,fun x d h=>?_⟩⟩;have F:x<L:=by simpa using AP h
 rw [AX (List.getElem?_range F)] at h;have h:=Option.some.inj h;subst h;exact⟨u s x,by rw [(row s C).cell,Nat.zero_add,CV _ F],B8 (own s C x F) rfl G (by have:=I s C x F;omega)⟩
end Go.Proofs.YtjejejmeddkciaaGreatDoor
namespace Go.Proofs.YtjejejmeddkciaaGreatDoor
open Go.RowKit
set_option maxHeartbeats 16000000
set_option maxRecDepth 100000
theorem QU (z:Value) (n:Nat):madeCells #[z] (n*1)=Bi n fun _=>z:=by rw [HA,Fo]
theorem R5 (n:Nat) (z:Value):(List.replicate n z).toArray=Bi n fun _=>z:=by rw [<-KH,Fo]
def WA.toK (a:WA) (k s x:Nat):List Int:=((a.edges.take k).filter fun e=>decide (e.frm=(s:Int))&&decide (e.letter=(x:Int))).map (·.to)
theorem WA.toK_zero (a:WA):a.toK 0=fun _ _=>[]:=by funext s x;simp [WA.toK]
theorem WA.toK_all (a:WA) {k:Nat} (h:a.edges.length<=k):a.toK k=a.to:=by funext s x;unfold WA.toK WA.to;rw [List.take_of_length_le h]
theorem WA.toK_succ (a:WA) {k f y:Nat} {to:Int} (h:a.edges[k]?=some ⟨(f:Int),(y:Int),to⟩):a.toK (k+1)=up2 (a.toK k) f y (a.toK k f y++[to]):=by
 funext s x;unfold WA.toK;rw [B5 h,List.filter_append,List.map_append];unfold up2;by_cases e:s=f/\x=y
 ·rw [if_pos e,e.1,e.2];simp
 ·rw [if_neg e];have:(decide ((f:Int)=(s:Int))&&decide ((y:Int)=(x:Int)))=false:=by
   rw [Bool.and_eq_false_iff];rcases Classical.not_and_iff_not_or_not.1 e with e|e
   ·exact .inl (by simp;omega)
   ·exact .inr (by simp;omega)
  simp [this]
theorem WA.toK_len (a:WA) (k s x:Nat):(a.toK k s x).length<=k:=by
 unfold WA.toK;rw [List.length_map];exact Nat.le_trans (List.length_filter_le _ _) (List.length_take_le _ _)
theorem WA.to_len (a:WA) (s x:Nat):(a.to s x).length<=a.edges.length:=by
 rw [<-WA.toK_all a (Nat.le_refl _)];exact WA.toK_len a _ s x
theorem Fe {w0 wr:World} {g C:Nat} {t E:TypeId} {cs F:Array Value} (h:Blk w0 g t cs) (G:Blk w0 C E F) (I:Ac w0 wr (fun k=>k=C)) (J:t≠E):Blk wr g t cs:=h.kept I (h.ne_ G J)
theorem HM {v:Value} {a:WA} {w:World} (h:Bj w w.heap.size v a) (aH:a.In) (hS:0<=a.states/\a.states<=200000) (hL:0<=a.letters/\a.letters<=8) (he:a.edges.length<=3000000):
  Calls Tryz.prog 26 #[v] w (Ret fun r w'=>Cn w' w'.heap.size r a.nf/\Below w.heap.size w w'):=by
 obtain⟨A1,c1,A2,c2,A3,c3,rfl,h1,h2,h3,h4⟩:=h;obtain⟨n,hn⟩:=Int.eq_ofNat_of_zero_le hS.1;obtain⟨L,aA⟩:=Int.eq_ofNat_of_zero_le hL.1;have c9:n<=200000:=by omega
 have cr:L<=8:=by omega
 obtain⟨w1,cO,aC,bC,c0⟩:=Ae w #[.int .i64 (L:Int),.int .i64 (n:Int),.slice A1 a.start.length c1,.slice A2 a.accept.length c2,.slice A3 a.edges.length c3] 33;obtain⟨w2,cQ,aY,bE,c4⟩:=Ae w1 #[.int .i64 0,.slice none 0 0,.slice none 0 0,.slice none 0 0] 86;have aR:=bC.below aY;have ag:=aC.trans (aY.mono aC.size);have bK:∀x∈a.accept,inN n x=true:=fun x hx=>by have:=aH.accept x hx;rwa [hn] at this
 rw [hn,aA];have be:=hide hn;have aW:=hide aA;have bY:=hide aH;clear hS hL hn aA aH c0 c4;go_enter Tryz.func26,Tryz.ntmps26;go_wp2_with fail;refine Rg c9 aR (h2.keep (B':=w.heap.size) (fun p hp=>ag.cell (by omega)) (Nat.le_refl _)) rfl (by have:=ag.size;omega) bK (by repeat (first|exact Reg.NoQ.body (fun _ _ h=>h) (fun _ h=>h)|refine Reg.NoQ.then ?_|refine Reg.NoQ.inBlock ?_)) ?_;iterate 13 (intro _)
 intro w3 g3 gn gm hA;have b3:=hA.blk _ (List.mem_cons_self);have bn:=hA.blk _ (List.mem_cons_of_mem _ List.mem_cons_self);have bm:=hA.blk _ (List.mem_cons_of_mem _ (List.mem_cons_of_mem _ List.mem_cons_self));have al:=hA.below;dsimp only at b3 bn bm;rw [R5] at bn;have bH:Hid (EC w3 w3 n L 0 gn (fun _=>0)):=by
  refine⟨Ac.refl _ _,?_,fun s J=>absurd J (by omega),fun s J=>absurd J (by omega)⟩;rw [D4 (g:=fun _=>Value.slice none 0 0) (fun s _=>by simp)];exact bn.1
 have aZ:=hide b3;have W:=hide bn;have bO:=hide bm;have aX:=hide (ag.trans (al.mono ag.size));have aS:=hide (aR.below al);have bF:=hide (bE.below al);have bR:=b3.1.cell;clear b3 bn bm hA al;go_wp2_with fail;go_loopw [23] (fun Z wr=>∃(i:Nat) (G:Nat->Nat),Z=.int .i64 (i:Int)/\i<=n/\Hid (EC w3 wr n L i gn G)) (fun Z _=>n - (intOf Z).toNat)
 case atStart=>exact⟨0,_,rfl,Nat.zero_le _,bH⟩
 case round=>
  obtain⟨i,G,rfl,hi,I⟩:=hrel;have hK:=I.out.kept;have aF:=Fe aZ.out.1 W.out.1 hK (by decide);have aT:=Fe aS.out W.out.1 hK (by decide);have bV:=aF.cell;have bP:=aT.cell;by_cases bb:i<n
  ·have cH:=hide hK;have ct:=hide aF;clear hK aF aT;go_wp2_with fail;refine Reg.cC [0,1,0,0,8,24,63,127] [0,1,2,3,4,5,6,7] ?_;refine Reg.rest_walk' [0,1,2,3,4] [5,6,7] rfl (by kernel_rfl) ?_;intro Qf C;go_wp2_with fail;first|refine C _ _ ?_|skip
   (try clear C);refine Reg.rest_act' 5 [6,7] [1] rfl (by kernel_rfl) ?_;intro Qf C;simp only [gT,gS,gZ];refine LG Tryz.underlying67 Hu (by omega) (by omega) L (by omega) rfl _ _ rfl rfl rfl ?_;intro gr F V az bX;first|refine C _ _ ⟨Reg.same_below az _ rfl,?_⟩|refine⟨Reg.same_below az _ rfl,?_⟩
   (try clear C);have aU:Below wr.heap.size wr F:=(Ap wr).trans az;rw [show(Value.slice none 0 0).cells=#[Value.slice none 0 0] from rfl,QU] at V;have aL:=hide (I.out.step bb aU V bX);have ap:=(I.out.top.below aU);have cA:=ap.frozen i;have cx:F.cell? ⟨gn,i,none⟩=some (.slice none 0 0):=by rw [ap.cell,CV _ bb,if_neg (by omega)]
   have cL:=ap.lt;clear ap;refine Reg.rest_walk' [6,7] [] rfl (by kernel_rfl) ?_;intro Qf C;go_wp2_with fail;first|refine C _ _ ?_|skip
   (try clear C);refine Reg.rest_end ?_;go_wp2_with fail;exact⟨⟨i+1,up1 G i gr,by go_num,by omega,aL⟩,by simp [intOf];omega⟩
  ·have cc:i=n:=by omega
   subst cc;have bI:=hide I.out.done;clear I;obtain⟨w4,ci⟩:∃w4:World,w4=wr:=⟨_,rfl⟩;subst ci;go_wp2_with fail;go_loopw [37] (fun Z wr=>∃(k:Nat) (u:Nat->Nat->Value),Z=.int .i64 (k:Int)/\k<=a.edges.length/\Hid (Ea w3 wr i L gn G u (a.toK k))) (fun Z _=>a.edges.length - (intOf Z).toNat)
   case atStart=>exact⟨0,_,rfl,Nat.zero_le _,by rw [a.toK_zero];exact bI⟩
   case round=>
    obtain⟨k,u,rfl,hk,I⟩:=hrel;have af:=I.out.kept;have b0:=Fe aZ.out.1 W.out.1 af (by decide);have bD:=Fe aS.out W.out.1 af (by decide);have bW:=b0.cell;have bQ:=bD.cell;have aB:Below w.heap.size w wr:=aX.out.trans (af.below (by have:=aX.out.size;omega) fun b hb e=>by have:=W.out.2;have:=ag.size;omega);by_cases c7:k<a.edges.length
    ·obtain⟨bl,off,⟨f0,y0,to⟩,rfl,bN,aM,hc⟩:=h3.at c7;have am:=fun j hj=>(aB.cell (by exact bN)).trans (hc j hj);have e0:=am 0 (by omega);have e1:=am 1 (by omega);have e2:=am 2 (by omega);simp only [Nat.add_zero,DP] at e0 e1 e2;obtain⟨i1,i2,i3⟩:=bY.out.edge _ (List.mem_of_getElem? aM);obtain⟨f,ba,M⟩:=CT i1;obtain⟨y,bi,hy⟩:=CT i2;dsimp only at ba bi M hy;subst ba bi;rw [be.out,Int.toNat_natCast] at M;rw [aW.out,Int.toNat_natCast] at hy;have ch:=hide (WA.toK_succ a aM);have c6:=hide (WA.toK_len a k f y);obtain⟨F,cR,V,ax,c5⟩:=Ae wr #[.int .i64 (f:Int),.int .i64 (y:Int),.int .i64 to] 137;have a4:=I.out.keep V;have aD:=b0.below V;have bS:=aD.cell;have bT:=ax.cell;have b7:F.cell? ⟨gn,f,none⟩=some (.slice (some ⟨G f,0,none⟩) L L):=by rw [a4.top.cell,CV _ M]
     have O:=a4.own f M y hy;obtain⟨Au,cu,hu⟩:=AH O;have b9:F.cell? ⟨G f,y,none⟩=some (.slice Au (a.toK k f y).length cu):=by rw [(a4.row f M).1.cell,CV _ hy,hu]
     rw [hu] at O;have a5:=hide a4;have aE:=hide aD;have ay:=hide ax;have b8:=hide b7;have c8:(a.toK k f y).length<=3000000:=by have:=c6.out;omega
     obtain⟨m,hm⟩:∃m,m=(a.toK k f y).length:=⟨_,rfl⟩;rw [<-hm] at b9 O c8;have aK:=hide hm;have cg:=hide a4.kept.size;have bh:=hide hu;have cG:=hide V;clear hm hc am aM i1 i2 i3 a4 aD ax c5 hu bV bP bW bQ bR V;go_wp2_with fail;refine Reg.cC [0,1,0,4,15,31,0,64,0,256,0,1024,3840,7936,0,16384,65280,130816,0,262144,786432,2096896,4194303,8388607] [0,1,2,3,4,5,6,7,8,9,10,11,12,13,14,15,16,17,18,19,20,21,22,23] ?_;refine Reg.rest_walk' [0,1,2,3,4,5,6,7,8,9,10,11,12,13,14,15,16,17,18,19,20] [21,22,23] rfl (by kernel_rfl) ?_;intro Qf C;go_wp2_with fail;first|refine C _ _ ?_|skip
     (try clear C);refine Reg.rest_act' 21 [22,23] [1,3,5,7] rfl (by kernel_rfl) ?_;intro Qf C;simp only [gT,gS,gZ];refine BP (w:=F.drew) C9 rfl _ _ rfl w3.heap.size (.slice Au m cu) m _ rfl O [.int .i64 to] 1 rfl rfl (by simp [Value.oneCell']) (by omega) cg.out ?_;intro g cap w6 bf a7 bc cD;have a8:Ac F w6 (fun k=>(Value.slice Au m cu).ownBlock=some k):=⟨a7.os,a7.tape,a7.output,a7.size,a7.block⟩;have bd:BJ F (.slice Au m cu) (.slice (some ⟨g,0,none⟩) (m+1) cap):=bc;have aL:=hide (show Ea w3 (w6.setCell ⟨G f,y,none⟩ (.slice (some ⟨g,0,none⟩) (m+1) cap)) i L gn G (up2 u f y (.slice (some ⟨g,0,none⟩) (m+1) cap)) (a.toK (k+1)) from by
      rw [ch.out];refine a5.out.step M hy ?_ ?_ ?_
      ·rw [bh.out,<-aK.out];exact a8
      ·rw [<-aK.out];exact bf
      ·rw [bh.out,<-aK.out];exact bd)
     have q3:=(aE.out.kept a8 (Aw O aE.out (by decide))).cell;have q6:=(ay.out.kept a8 (Aw O ay.out (by decide))).cell;have qn:w6.cell? ⟨gn,f,none⟩=some (.slice (some ⟨G f,0,none⟩) L L):=(a8.cell a5.out.top.lt (Aw O a5.out.top (by decide))).trans b8.out;have r3:=((aE.out.kept ((Ac.refl F (fun _=>False)).alloc (.cells #[.int .i64 to] 3)).drew id)).cell;have r6:=((ay.out.kept ((Ac.refl F (fun _=>False)).alloc (.cells #[.int .i64 to] 3)).drew id)).cell;have rn:((F.alloc (.cells #[.int .i64 to] 3)).drew).cell? ⟨gn,f,none⟩=some (.slice (some ⟨G f,0,none⟩) L L):=(((Ac.refl F (fun _=>False)).alloc (.cells #[.int .i64 to] 3)).drew.cell a5.out.top.lt id).trans b8.out;have ao:=(a5.out.row f M).1.kept a8 (Aw O (a5.out.row f M).1 (by decide));have cB:=ao.frozen y;have cw:w6.cell? ⟨G f,y,none⟩=some (u f y):=by rw [ao.cell,CV _ hy]
     have cK:=ao.lt;refine C _ _ ⟨?_,?_⟩
     ·intro z hz q E;simp only [List.mem_cons,List.not_mem_nil,or_false] at hz;rcases hz with rfl|rfl|rfl|rfl
      ·injection E with E
       subst E;exact Reg.same_load1 rfl rfl (r3 1) (q3 1) Tryz.underlying84 rfl
      ·injection E with E
       subst E;exact Reg.same_load1 rfl rfl (r6 0) (q6 0) Tryz.underlying3 rfl
      ·injection E with E
       subst E;exact Reg.same_load1 rfl rfl rn qn Tryz.underlying67 rfl
      ·injection E with E
       subst E;exact Reg.same_load1 rfl rfl (r6 1) (q6 1) Tryz.underlying3 rfl
     ·clear C q3 q6 qn r3 r6 rn ao bf a7 a8 bc bd bS bT b7 b9;refine Reg.rest_walk' [22,23] [] rfl (by kernel_rfl) ?_;intro Qf C;go_wp2_with fail;first|refine C _ _ ?_|skip
      (try clear C);refine Reg.rest_end ?_;go_wp2_with fail;exact⟨⟨k+1,_,by go_num,by omega,aL⟩,by simp [intOf];omega⟩
    ·have U:=Fe bF.out W.out.1 af (by decide);have b5:=Fe bO.out.1 W.out.1 af (by decide);have cv:=U.cell;have cz:=U.frozen;have cJ:=U.lt;obtain⟨wF,cj,bG,a3⟩:=Lg U (.int .i64 (L:Int)) (.slice (some ⟨gn,0,none⟩) i i) (.slice A1 a.start.length c1) (.slice (some ⟨gm,0,none⟩) i i);have ce:Hid (Cn wF wF.heap.size (.agg #[.int .i64 (L:Int),.slice (some ⟨gn,0,none⟩) i i,.slice A1 a.start.length c1,.slice (some ⟨gm,0,none⟩) i i]) a.nf/\Below w.heap.size w wF):=by
      have aG:Below w.heap.size w wF:=aB.trans (a3.below aB.size fun b hb e=>by have:=aC.size;omega);have cM:=a3.size;have bL:a.n=i:=by unfold WA.n;rw [be.out];rfl
      have bJ:a.L=L:=by unfold WA.L;rw [aW.out];rfl
      have a6:=I.out;rw [a.toK_all (by omega)] at a6;have aQ:∀g t cs,Blk wr g t cs->t≠86->g≠w1.heap.size:=fun g t cs hB ca=>hB.ne_ U ca;have cd:=Rf (B:=wF.heap.size) (a6.top.kept a3 (aQ _ _ _ a6.top (by decide))) (fun s J=>(a6.row s J).1.kept a3 (aQ _ _ _ (a6.row s J).1 (by decide))) (fun s J x hx=>AK a3 (a6.own s J x hx) (fun g cs e hB=>by subst e;exact hB.ne_ U (by decide) rfl)) (Nat.le_refl _) (by omega) (by omega) (fun s J x hx=>by have:=a.to_len s x;omega);have cb:a.nf=⟨L,(List.range i).map fun s=>(List.range L).map fun x=>a.to s x,a.start,BN i a.accept⟩:=by unfold WA.nf;rw [bL,bJ]
      refine⟨?_,aG⟩;rw [cb];have b4:=b5.kept a3 (b5.ne_ U (by decide));obtain⟨cm,co,e3,cf⟩:=BX.sl (B:=wF.heap.size) ⟨gm,b4.lt,rfl,b4⟩ (by rw [Dh];omega);rw [Dh] at e3;injection e3 with e3 _ e4
      refine⟨_,i,A1,c1,some ⟨gm,0,none⟩,i,by simp [Dh],cd,h1.keep (fun p hp=>aG.cell hp) aG.size,?_,h4⟩;rw [e3];exact cf
     go_wp2_with fail;change bodyPost _ _ _ _ _ (set4t wr w1.heap.size (.int .i64 (L:Int)) (.slice (some ⟨gn,0,none⟩) i i) (.slice A1 a.start.length c1) (.slice (some ⟨gm,0,none⟩) i i));rw [cj];have bU:=bG.cell;exact bodyPost_ret (v:=.agg #[.int .i64 (L:Int),.slice (some ⟨gn,0,none⟩) i i,.slice A1 a.start.length c1,.slice (some ⟨gm,0,none⟩) i i]) (by simp [results,Tryz.results26,go_sem,bU]) rfl ce.out
end Go.Proofs.YtjejejmeddkciaaGreatDoor
namespace Go.Proofs.YtjejejmeddkciaaGreatDoor
open Go.RowKit
set_option maxHeartbeats 16000000
set_option maxRecDepth 100000
def Bc (m:List Bool):List Nat:=(List.range m.length).filter fun q=>m.getD q false
theorem Fx (m:List Bool):AJ m=Ak (Bc m):=rfl
theorem SY {m k:List Bool} (C:m.length=k.length) (h:Bc m=Bc k):m=k:=SX C (by rw [Fx,Fx,h])
theorem GW {m:List Bool} {n:Nat} (C:m.length=n):∀x∈Bc m,x<n:=fun x h=>by
 have:=List.mem_range.1 (List.mem_filter.1 h).1;omega
def DA (l:List Nat):ByteArray:=⟨(Cw l).toArray⟩
theorem QE (a b:List Nat) (h:DA a=DA b):a=b:=by
 unfold DA at h;injection h with h
 exact JM (by simpa using congrArg Array.toList h)
def Dq (l:List Nat):Value:=.string (DA l)
theorem FV:El Tryz.prog 9 Dq:=QL Tryz.underlying9 DA QE
theorem Fa (w:World):(zeroValue 3).run Tryz.prog w=.ok (.int .i64 0) w:=by kernel_rfl
def Ax {S:Type} [DecidableEq S] (l:List S) (a:S):Nat:=l.idxOf a
theorem JY {S T:Type} [DecidableEq S] [DecidableEq T] {f:S->T}:∀{l:List S} {a:S},(∀b∈l,f b=f a->b=a)->Ax (l.map f) (f a)=Ax l a/\(f a∈l.map f↔a∈l)
 | [],a,_=>⟨rfl,by simp⟩
 | b::l,a,h=>by
  obtain⟨h1,I⟩:=JY (f:=f) (l:=l) (a:=a) fun c J=>h c (List.mem_cons_of_mem _ J);by_cases e:b=a
  ·subst e;simp [Ax]
  ·have E:f b≠f a:=fun M=>e (h b List.mem_cons_self M);have F:(f b==f a)=false:=by simpa using E
   have G:(b==a)=false:=by simpa using e
   unfold Ax at h1 ⊢;rw [List.map_cons,List.idxOf_cons,List.idxOf_cons,F,G];refine⟨by rw [h1],?_⟩;rw [List.mem_cons,List.mem_cons,I];constructor
   ·rintro(C|C)
    ·exact absurd C.symm E
    ·exact .inr C
   ·rintro(C|C)
    ·exact absurd C.symm e
    ·exact .inr C
structure BK (w0 wr:World) (a:NF) (g2 g4 g6 g7 gm:Nat) (cs:Array Value) (vN vA vS:Value) (all:List (List Bool)) (t:List (List Nat)) (us ws:List Value) (N:Nat->Prop):Prop where
 below:Below w0.heap.size w0 wr
 b2:Blk wr g2 86 cs
 b4:Blk wr g4 70 #[vN,vA]
 b6:Blk wr g6 175 #[.map (some gm)]
 b7:Blk wr g7 67 #[vS]
 map:Bw wr gm ((all.map Bc).map Dq)
 sets:wr.ownsRow w0.heap.size 24 1 vS all.length us
 setR:Cl wr w0.heap.size N us (all.map AJ)
 acc:wr.ownsRow w0.heap.size 4 1 vA all.length ((all.map a.has).map Value.bool)
 nxt:wr.ownsRow w0.heap.size 24 1 vN t.length ws
 nxtR:Cl wr w0.heap.size N ws (t.map Ak)
 sep:∀g,vS.ownBlock=some g->vN.ownBlock≠some g
 ge:w0.heap.size<=g2/\w0.heap.size<=g4/\w0.heap.size<=g6/\w0.heap.size<=g7/\w0.heap.size<=gm
 len:∀m∈all,m.length=a.n
section
variable {w0 wr w':World} {a:NF} {g2 g4 g6 g7 gm:Nat} {cs:Array Value} {vN vA vS:Value} {all:List (List Bool)} {t:List (List Nat)} {us ws:List Value} {N:Nat->Prop}
theorem BK.keep (h:BK w0 wr a g2 g4 g6 g7 gm cs vN vA vS all t us ws N) (C:Below wr.heap.size wr w'):BK w0 w' a g2 g4 g6 g7 gm cs vN vA vS all t us ws N:=
 ⟨h.below.trans (C.mono h.below.size),h.b2.below C,h.b4.below C,h.b6.below C,h.b7.below C,h.map.keep (C.block _ h.map.lt),Bt h.sets C,
  h.setR.keep (Ac.of_below C (fun _=>False)) (fun _ _ _ e=>e.elim) (fun _ _ x=>x) (Nat.le_refl _),Bt h.acc C,Bt h.nxt C,h.nxtR.keep (Ac.of_below C (fun _=>False)) (fun _ _ _ e=>e.elim) (fun _ _ x=>x) (Nat.le_refl _),h.sep,h.ge,h.len⟩
theorem BK.weak {N':Nat->Prop} (h:BK w0 wr a g2 g4 g6 g7 gm cs vN vA vS all t us ws N) (C:∀g,g<wr.heap.size->N g->N' g):BK w0 wr a g2 g4 g6 g7 gm cs vN vA vS all t us ws N':=
 ⟨h.below,h.b2,h.b4,h.b6,h.b7,h.map,h.sets,h.setR.keep (Ac.refl wr (fun _=>False)) (fun _ _ _ e=>e.elim) C (Nat.le_refl _),h.acc,h.nxt,h.nxtR.keep (Ac.refl wr (fun _=>False)) (fun _ _ _ e=>e.elim) C (Nat.le_refl _),h.sep,h.ge,h.len⟩
theorem BK.idx (h:BK w0 wr a g2 g4 g6 g7 gm cs vN vA vS all t us ws N) {m:List Bool} (E:m.length=a.n):Ax (all.map Bc) (Bc m)=Ax all m/\(Bc m∈all.map Bc↔m∈all):=
 JY fun b C e=>SY ((h.len b C).trans E.symm) e
theorem BK.add {m:List Bool} {r O vA':Value} {wm w1 w2 w3 w4:World} (h:BK w0 wr a g2 g4 g6 g7 gm cs vN vA vS all t us ws N) (hm:m.length=a.n)
  (hr:wr.ownsRow w0.heap.size 3 1 r (AJ m).length ((AJ m).map (Value.int .i64))) (aA:∀g,r.ownBlock=some g->N g)
  (af:Bw wm gm (((all.map Bc)++[Bc m]).map Dq)) (E:wr.grownBy wm (some gm)) (aM:wm.heap.size=wr.heap.size)
  (U:Ac wm w1 (fun k=>vS.ownBlock=some k)) (ax:w1.ownsRow w0.heap.size 24 1 O (all.length+1) (us++[r])) (aw:BJ wm vS O)
  (aC:w2=w1.setCell ⟨g7,0,none⟩ O) (I:Below w2.heap.size w2 w3)
  (F:Ac w3 w4 (fun k=>vA.ownBlock=some k)) (ay:w4.ownsRow w0.heap.size 4 1 vA' (all.length+1) ((all.map a.has).map Value.bool++[.bool (a.has m)])):
  BK w0 (w4.setCell ⟨g4,1,none⟩ vA') a g2 g4 g6 g7 gm cs vN vA' O (all++[m]) t (us++[r]) ws N/\∀g cs,Blk wr g 3 cs->Blk (w4.setCell ⟨g4,1,none⟩ vA') g 3 cs:=by
 subst aC;have W:Ac wr wm (fun k=>k=gm):=(Ac.of_grown E).mono fun b _ e=>(Option.some.inj e).symm;have J:=(Ac.refl w1 (fun k=>k=g7)).setCell (p:=⟨g7,0,none⟩) (fun _=>rfl) O;have au:Ac (w1.setCell ⟨g7,0,none⟩ O) w3 (fun _=>False):=Ac.of_below I _;have V:=(Ac.refl w4 (fun k=>k=g4)).setCell (p:=⟨g4,1,none⟩) (fun _=>rfl) vA';have nm:∀{g e} {cs:Array Value},Blk wr g e cs->g≠gm:=fun C e=>BT C h.map e;have m2:=h.b2.kept W (nm h.b2);have m4:=h.b4.kept W (nm h.b4);have m6:=h.b6.kept W (nm h.b6);have m7:=h.b7.kept W (nm h.b7);have mS:=W.ownsRow h.sets fun g E e=>Di h.sets h.map (by rw [E,e]);have mA:=W.ownsRow h.acc fun g E e=>Di h.acc h.map (by rw [E,e]);have mN:=W.ownsRow h.nxt fun g E e=>Di h.nxt h.map (by rw [E,e]);have n2:=m2.kept U (Aw mS m2 (by decide));have n4:=m4.kept U (Aw mS m4 (by decide));have n6:=m6.kept U (Aw mS m6 (by decide));have M:=m7.kept U (Aw mS m7 (by decide));have nA:=AK U mA (F4 mS (by decide));have nN:=U.ownsRow mN fun g E e=>h.sep g e E;have aa:=af.kept U (fun e=>Di mS af e);have o2:=(n2.kept J (n2.ne_ M (by decide))).below I;have o4:=(n4.kept J (n4.ne_ M (by decide))).below I;have o6:=(n6.kept J (n6.ne_ M (by decide))).below I;have o7:Blk w3 g7 67 #[O]:=(M.set_ 0 O).below I;have oS:=Bt (AK J ax (fun g cs e C=>by subst e;exact C.ne_ M (by decide) rfl)) I;have G:=Bt (AK J nA (fun g cs e C=>by subst e;exact C.ne_ M (by decide) rfl)) I;have oN:=Bt (AK J nN (fun g cs e C=>by subst e;exact C.ne_ M (by decide) rfl)) I;have om:=(aa.kept J (fun e=>BT M aa e.symm)).keep (I.block _ (aa.kept J (fun e=>BT M aa e.symm)).lt);have Z:=o4.kept F (Aw G o4 (by decide));have pm:=om.kept F (fun e=>Di G om e);have aB:=h.below.size;have a5:Ac wr (w4.setCell ⟨g4,1,none⟩ vA') (fun k=>k=gm\/vS.ownBlock=some k\/k=g7\/vA.ownBlock=some k\/k=g4):=
  ((((W.mono fun _ _ e=>.inl e).trans U fun _ _ e=>.inr (.inl e)).trans J fun _ _ e=>.inr (.inr (.inl e))).trans au fun _ _ e=>e.elim).trans F (fun _ _ e=>.inr (.inr (.inr (.inl e)))) |>.trans V fun _ _ e=>.inr (.inr (.inr (.inr e)))
 have a9:∀g cs,(g=gm\/vS.ownBlock=some g\/g=g7\/vA.ownBlock=some g\/g=g4)->¬Blk wr g 3 cs:=by
  rintro g cs (e|e|e|e|e) C
  ·exact nm C e
  ·exact Aw h.sets C (by decide) e
  ·exact C.ne_ h.b7 (by decide) e
  ·exact Aw h.acc C (by decide) e
  ·exact C.ne_ h.b4 (by decide) e
 have aL:=h.ge;have ar:∀g,O.ownBlock=some g->vN.ownBlock≠some g:=fun g E e=>by
  rcases aw with hh|⟨g',hh,aN⟩
  ·exact h.sep g (by rw [<-hh];exact E) e
  ·rw [E] at hh;injection hh with hh
   have:=Cj mN e;omega
 refine⟨⟨h.below.trans (a5.below aB ?_),?_,?_,?_,?_,?_,?_,?_,?_,?_,?_,ar,h.ge,?_⟩,fun g cs C=>C.kept a5 (fun e=>a9 g cs e C)⟩
 ·rintro b hb (e|e|e|e|e)
  ·omega
  ·have:=Bb h.sets e;omega
  ·omega
  ·have:=Bb h.acc e;omega
  ·omega
 ·exact(o2.kept F (Aw G o2 (by decide))).kept V ((o2.kept F (Aw G o2 (by decide))).ne_ Z (by decide))
 ·have:=Z.set_ 1 vA';exact this
 ·exact(o6.kept F (Aw G o6 (by decide))).kept V ((o6.kept F (Aw G o6 (by decide))).ne_ Z (by decide))
 ·exact(o7.kept F (Aw G o7 (by decide))).kept V ((o7.kept F (Aw G o7 (by decide))).ne_ Z (by decide))
 ·rw [List.map_append];exact pm.kept V (fun e=>BT Z pm e.symm)
 ·rw [List.length_append];exact AK V (AK F oS (F4 G (by decide))) (fun g cs e C=>by subst e;exact C.ne_ Z (by decide) rfl)
 ·rw [List.map_append];refine Cl.snoc (h.setR.keep a5 (fun g cs _ e=>a9 g cs e) (fun _ _ x=>x) (Nat.le_refl _)) ?_ aA;exact AK a5 hr a9
 ·rw [List.length_append,List.map_append,List.map_append];exact AK V ay (fun g cs e C=>by subst e;exact C.ne_ Z (by decide) rfl)
 ·exact AK V (AK F oN (F4 G (by decide))) (fun g cs e C=>by subst e;exact C.ne_ Z (by decide) rfl)
 ·exact h.nxtR.keep a5 (fun g cs _ e=>a9 g cs e) (fun _ _ x=>x) (Nat.le_refl _)
 ·intro x hx;rcases List.mem_append.1 hx with hx|hx
  ·exact h.len x hx
  ·rw [List.mem_singleton.1 hx];exact hm
end
end Go.Proofs.YtjejejmeddkciaaGreatDoor
namespace Go.Proofs.YtjejejmeddkciaaGreatDoor
open Go.RowKit
set_option maxHeartbeats 16000000
set_option maxRecDepth 100000
section
variable {w0 wr:World} {a:NF} {g2 g4 g6 g7 gm:Nat} {v0 v1 v2 v3 vN vA vS:Value} {all:List (List Bool)} {t:List (List Nat)} {us ws:List Value} {N:Nat->Prop} {m:List Bool} {r:Value}
theorem F0 {S:Type} [DecidableEq S] {l:List S} {s:S} (h:s∈l):Bs l s=l:=if_pos h
theorem FZ {S:Type} [DecidableEq S] {l:List S} {s:S} (h:s∉l):Bs l s=l++[s]:=if_neg h
theorem ES {S:Type} [DecidableEq S] {l:List S} {s:S} (h:s∉l):Ax (l++[s]) s=l.length:=by
 unfold Ax;rw [List.idxOf_append,if_neg h];simp
theorem JO {w:World} {B c:Nat} {A:Option Addr} (h:Sl w B 1 Ai A (AJ m)) (C:B<=w.heap.size) (F:m.length=a.n) (I:a.n<=200000) (E:BV w):
  Calls Tryz.prog 96 #[.slice A (AJ m).length c] w (Ret fun r w'=>r=Dq (Bc m)/\Below w.heap.size w w'):=by
 have J:=Fw m;have e:(Bc m).length=(AJ m).length:=by rw [Fx];simp [Ak]
 exact JN (l:=Bc m) h C (fun x G=>by have:=GW F x G;omega) (by omega) E
theorem Ts (h:BK w0 wr a g2 g4 g6 g7 gm #[v0,v1,v2,v3] vN vA vS all t us ws N) (M:m.length=a.n) (U:wr.ownsRow w0.heap.size 3 1 r (AJ m).length ((AJ m).map (Value.int .i64)))
  (hn:a.n<=200000) (E:BV wr) (O:m∈all):
  Calls Tryz.prog 95 #[r,.pointer (some ⟨g6,0,none⟩),.pointer (some ⟨g7,0,none⟩),.pointer (some ⟨g4,0,none⟩),.pointer (some ⟨g2,0,none⟩)] wr (Ret fun v w'=>v=.int .i64 (Ax all m:Int)/\Below wr.heap.size wr w'):=by
 have a5:=Fw m;obtain⟨A,c,rfl,hS⟩:=B8 U rfl (Nat.le_refl _) (by omega);have J:=JO (c:=c) hS (Nat.le_refl _) M hn E;obtain⟨I,G⟩:=h.idx M;have V:=hide h;have W:=hide I;have Z:=hide (G.2 O);clear h hS U I G O E;go_enter Tryz.func95,Tryz.ntmps95;go_wp2_with fail;refine Calls.ret J ?_;rintro v w1 ⟨rfl,F⟩;unfold Dq DA;have h1:=V.out.keep F;have a4:=h1.b6.cell;have a2:=Ft FV Tryz.underlying175 Fa h1.map (Bc m);have C:=Z.out;simp only [C,if_true,decide_true,Dq,DA] at a2;clear C;clear J h1;go_wp2_with fail;go_ret;exact⟨by rw [<-W.out];rfl,F⟩
theorem Tr (h:BK w0 wr a g2 g4 g6 g7 gm #[v0,v1,v2,v3] vN vA vS all t us ws N) (aw:Cn w0 w0.heap.size (.agg #[v0,v1,v2,v3]) a) (ha:a.acc.length=a.n) (hm:m.length=a.n) (hr:wr.ownsRow w0.heap.size 3 1 r (AJ m).length ((AJ m).map (Value.int .i64))) (aF:∀g,r.ownBlock=some g->N g)
  (hn:a.n<=200000) (hl:all.length<=60000) (hT:BV wr) (aD:m∉all):
  Calls Tryz.prog 95 #[r,.pointer (some ⟨g6,0,none⟩),.pointer (some ⟨g7,0,none⟩),.pointer (some ⟨g4,0,none⟩),.pointer (some ⟨g2,0,none⟩)] wr (Ret fun v w'=>v=.int .i64 (all.length:Int)/\∃vA' br bq,BK w0 w' a g2 g4 g6 g7 gm #[v0,v1,v2,v3] vN vA' br (all++[m]) t bq ws N/\∀g cs,Blk wr g 3 cs->Blk w' g 3 cs):=by
 have bI:=Fw m;have bk:=hide hr;have bl:=hide aF;obtain⟨A,c,rfl,hS⟩:=B8 hr rfl (Nat.le_refl _) (by omega);have aB:=JO (c:=c) hS (Nat.le_refl _) hm hn hT;obtain⟨bd,az⟩:=h.idx hm;have hH:=hide h;have hM:=hide (show ¬Bc m∈all.map Bc from fun hh=>aD (az.1 hh));have bv:=hide hS;have ai:=hide hm;have aT:=hide ha;clear h hS hr bd az aD hT aF;go_enter Tryz.func95,Tryz.ntmps95;go_wp2_with fail;refine Calls.ret aB ?_;rintro v w1 ⟨rfl,a8⟩;unfold Dq DA;have h1:=hH.out.keep a8;have aE:=Bt bk.out a8;have aY:=h1.b6.cell;have aZ:=h1.b7.cell;have aC:=Ft FV Tryz.underlying175 Fa h1.map (Bc m);obtain⟨wm,an,aG,hg,ag⟩:=EY FV Tryz.underlying175 h1.map (Bc m) hM.out;have av:=hM.out;rw [List.length_map] at an;simp only [av,if_false,decide_false,Dq,DA] at aC;simp only [Dq,DA] at an;have G:Ac w1 wm (fun k=>k=gm):=(Ac.of_grown hg).mono fun b _ e=>(Option.some.inj e).symm;have ae:=h1.b7.kept G (fun e=>BT h1.b7 h1.map e);have b5:=ae.cell;have I:=G.ownsRow h1.sets fun g W e=>Di h1.sets h1.map (by rw [W,e]);obtain⟨AS,cS,rfl⟩:=AH h1.sets;have bn:=ag;have bm:=h1.below.size;have C:=hide h1;have am:=hide aE;have ba:=hide hg;have bb:=hide ag;have bo:=hide aG;have aW:w0.heap.size<=wm.heap.size:=by omega
 clear av aB h1 aE hg ag aG bn;go_wp2_with (at_builtin;refine BP F9 rfl _ _ rfl w0.heap.size (.slice AS all.length cS) all.length _ rfl I [.slice A (AJ m).length c] 1 rfl rfl (by simp [Value.oneCell']) (by omega) aW ?_;intro g cap w2 bh J bf bB;have O:=ae.kept J (Aw I ae (by decide));have b0:=O.cell;have b8:=O.frozen 0;have be:=O.lt);obtain⟨E,a3⟩:∃E,E=w2.setCell ⟨g7,0,none⟩ (.slice (some ⟨g,0,none⟩) (all.length+1) cap):=⟨_,rfl⟩;rw [<-a3];have Z:Ac w2 E (fun k=>k=g7):=by rw [a3];exact(Ac.refl w2 (fun k=>k=g7)).setCell (p:=⟨g7,0,none⟩) (fun _=>rfl) _
 have aa:Blk E g4 70 #[vN,vA]:=((C.out.b4.kept G (fun e=>BT C.out.b4 C.out.map e)).kept J (Aw I (C.out.b4.kept G (fun e=>BT C.out.b4 C.out.map e)) (by decide))).kept Z (((C.out.b4.kept G (fun e=>BT C.out.b4 C.out.map e)).kept J (Aw I (C.out.b4.kept G (fun e=>BT C.out.b4 C.out.map e)) (by decide))).ne_ O (by decide));have ay:Blk E g2 86 #[v0,v1,v2,v3]:=((C.out.b2.kept G (fun e=>BT C.out.b2 C.out.map e)).kept J (Aw I (C.out.b2.kept G (fun e=>BT C.out.b2 C.out.map e)) (by decide))).kept Z (((C.out.b2.kept G (fun e=>BT C.out.b2 C.out.map e)).kept J (Aw I (C.out.b2.kept G (fun e=>BT C.out.b2 C.out.map e)) (by decide))).ne_ O (by decide));have aq:E.ownsRow w0.heap.size 4 1 vA all.length ((all.map a.has).map Value.bool):=AK Z (AK J (G.ownsRow C.out.acc fun g W e=>Di C.out.acc C.out.map (by rw [W,e])) (F4 I (by decide))) (fun g cs e V=>by subst e;exact V.ne_ O (by decide) rfl);have bj:E.ownsRow w0.heap.size 3 1 (.slice A (AJ m).length c) (AJ m).length ((AJ m).map (Value.int .i64)):=AK Z (AK J (G.ownsRow am.out fun g W e=>Di am.out C.out.map (by rw [W,e])) (F4 I (by decide))) (fun g cs e V=>by subst e;exact V.ne_ O (by decide) rfl);have U:Below w0.heap.size w0 E:=C.out.below.trans ((((G.mono (fun _ _ e=>.inl e)).trans J (fun _ _ e=>.inr (.inl e))).trans Z (fun _ _ e=>.inr (.inr e)):Ac w1 E (fun k=>k=gm\/(Value.slice AS all.length cS).ownBlock=some k\/k=g7)).below bm (by
  rintro b hb (e|e|e)
  ·have:=C.out.ge;omega
  ·have:=Bb I e;omega
  ·have:=C.out.ge;omega))
 have a7:∃A' c',Value.slice A (AJ m).length c=.slice A' (AJ m).length c'/\Sl E E.heap.size 1 Ai A' (AJ m):=B8 bj rfl (Nat.le_refl _) (by omega);obtain⟨A',c',eA,a7⟩:=a7;injection eA with eA _ ec
 subst eA;clear ec;have aU:∀M:World,Below E.heap.size E M->Calls Tryz.prog 29 #[.agg #[v0,v1,v2,v3],.slice A (AJ m).length c] M (Ret fun r w'=>r=.bool (a.has m)/\Below M.heap.size M w'):=fun M hx=>by
  have aR:Cn M M.heap.size (.agg #[v0,v1,v2,v3]) a:=aw.keep (fun p hp=>(hx.cell (by have:=U.size;omega)).trans (U.cell hp)) (by have:=U.size;have:=hx.size;omega);have:=IM (c:=c) aR aT.out (a7.keep (w':=M) (fun p hp=>hx.cell hp) hx.size) (Nat.le_refl _) (Ik ai.out)
  rwa [JD ai.out] at this
 have bz:=aa.cell;have bx:=ay.cell;obtain⟨AA,cA,rfl⟩:=AH aq;have bG:=U.size;have aV:=hide aa;have bu:=hide U;have bp:=hide a3;clear aC an aY aZ b5 b0 b8 be aa ay a3 aw U;refine Reg.cC [0,1,0,0,12,28,63,127,255] [0,1,2,3,4,5,6,7,8] ?_;refine Reg.rest_walk' [0,1,2,3] [4,5,6,7,8] rfl (by kernel_rfl) ?_;intro Qf F;go_wp2_with fail;first|refine F _ _ ?_|skip
 (try clear F);refine Reg.rest_act' 4 [5,6,7,8] [1] rfl (by kernel_rfl) ?_;intro Qf F;simp only [gT,gS,gZ];go_wp2_with fail;refine Calls.ret (aU _ (Ap E)) ?_;rintro v w4 ⟨rfl,a9⟩;have a2:Below E.heap.size E w4:=(Ap E).trans a9;go_wp2_with fail;first|refine F _ _ ⟨Reg.same_below a9 _ rfl,?_⟩|refine⟨Reg.same_below a9 _ rfl,?_⟩
 (try clear F);have ar:=Bt aq a2;have ab:=aV.out.below a2;have bH:=a2.size;refine Reg.rest_walk' [5] [6,7,8] rfl (by kernel_rfl) ?_;intro Qf F;go_wp2_with fail;first|refine F _ _ ?_|skip
 (try clear F);refine Reg.rest_act' 6 [7,8] [1] rfl (by kernel_rfl) ?_;intro Qf F;simp only [gT,gS,gZ];refine BP GM rfl _ _ rfl w0.heap.size (.slice AA all.length cA) all.length _ rfl ar [.bool (a.has m)] 1 rfl rfl (by simp [Value.oneCell']) (by omega) (by omega) ?_;intro g' bs w5 bi aA bF bC;have ad:=ab.kept aA (Aw ar ab (by decide));have aX:=ad.cell;have bA:=ad.frozen 1;have bE:=ad.lt;refine F _ _ ⟨?_,?_⟩
 ·intro z hz q hq;simp only [List.mem_singleton] at hz;subst hz;injection hq with hq
  subst hq;exact Reg.same_load1 rfl rfl ((ab.kept ((Ac.refl w4 (fun _=>False)).alloc (.cells #[.bool (a.has m)] 4)) id).cell 1) (aX 1) Tryz.underlying68 rfl
 clear F;refine Reg.rest_walk' [7,8] [] rfl (by kernel_rfl) ?_;intro Qf F;go_wp2_with fail;first|refine F _ _ ?_|skip
 (try clear F);refine Reg.rest_end ?_;obtain⟨b9,aP⟩:=C.out.add ai.out am.out bl.out bo.out ba.out bb.out J bh bf bp.out a2 aA bi;go_wp2_with fail;go_ret;exact⟨rfl,_,_,_,b9,fun g cs V=>aP g cs (V.below a8)⟩
theorem Lt (h:BK w0 wr a g2 g4 g6 g7 gm #[v0,v1,v2,v3] vN vA vS all t us ws N) (O:Cn w0 w0.heap.size (.agg #[v0,v1,v2,v3]) a) (U:a.acc.length=a.n) (G:m.length=a.n) (J:wr.ownsRow w0.heap.size 3 1 r (AJ m).length ((AJ m).map (Value.int .i64))) (W:∀g,r.ownBlock=some g->N g)
  (I:a.n<=200000) (V:all.length<=60000) (E:BV wr):
  Calls Tryz.prog 95 #[r,.pointer (some ⟨g6,0,none⟩),.pointer (some ⟨g7,0,none⟩),.pointer (some ⟨g4,0,none⟩),.pointer (some ⟨g2,0,none⟩)] wr (Ret fun v w'=>v=.int .i64 (Ax (Bs all m) m:Int)/\∃vA' a2 Z,BK w0 w' a g2 g4 g6 g7 gm #[v0,v1,v2,v3] vN vA' a2 (Bs all m) t Z ws N/\∀g cs,Blk wr g 3 cs->Blk w' g 3 cs):=by
 by_cases C:m∈all
 ·rw [F0 C];refine Calls.ret (Ts h G J I E C) ?_;rintro v w' ⟨rfl,F⟩;exact⟨rfl,vA,vS,us,h.keep F,fun g cs M=>M.below F⟩
 ·rw [FZ C,ES C];exact Tr h O U G J W I V E C
end
end Go.Proofs.YtjejejmeddkciaaGreatDoor
namespace Go.Proofs.YtjejejmeddkciaaGreatDoor
open Go.RowKit
set_option maxHeartbeats 16000000
set_option maxRecDepth 100000
def BG (a:NF) (all:List (List Bool)) (i:Nat):List (List Nat):=(all.take i).map fun s=>(List.range a.L).map fun x=>Ax all (a.after s x)
theorem ET {S:Type} [DecidableEq S] {l k:List S} (h:l<+:k) {s:S} (C:s∈l):Ax k s=Ax l s:=P7 h C
theorem Sv {a:NF} {all E:List (List Bool)} {i:Nat} (h:Exp a.L a.after a.st i all) (G:all<+:E):BG a E i=BG a all i:=by
 have F:=h.inv.le;unfold BG;obtain⟨t,rfl⟩:=G;rw [List.take_append_of_le_length F];refine List.map_congr_left fun s I=>List.map_congr_left fun x J=>?_;obtain⟨j,C⟩:=List.mem_iff_getElem?.1 I;rw [List.getElem?_take] at C;split at C
 ·exact ET (List.prefix_append _ _) (h.inv.closed j s (by assumption) C x (List.mem_range.1 J))
 ·cases C
theorem Sw {a:NF} {all:List (List Bool)} {i:Nat} {s:List Bool} (h:all[i]?=some s):BG a all (i+1)=BG a all i++[(List.range a.L).map fun x=>Ax all (a.after s x)]:=by
 unfold BG;rw [B5 h,List.map_append];rfl
theorem GQ {a:NF} {all:List (List Bool)} {i:Nat} (h:i<=all.length):(BG a all i).length=i:=by simp [BG];omega
section
variable {w0 wr w':World} {a:NF} {g2 g4 g6 g7 gm:Nat} {cs:Array Value} {vN vA vS:Value} {all:List (List Bool)} {t:List (List Nat)} {us ws:List Value} {N:Nat->Prop}
theorem BK.other (h:BK w0 wr a g2 g4 g6 g7 gm cs vN vA vS all t us ws N) {gr:Nat} {c3:Array Value} (I:∀g,N g->g≠gr) (E:Blk wr gr 3 c3) (M:w0.heap.size<=gr) (C:Ac wr w' (fun k=>k=gr)):BK w0 w' a g2 g4 g6 g7 gm cs vN vA vS all t us ws N:=
 ⟨h.below.trans (C.below h.below.size fun b J e=>by omega),h.b2.kept C (h.b2.ne_ E (by decide)),h.b4.kept C (h.b4.ne_ E (by decide)),h.b6.kept C (h.b6.ne_ E (by decide)),h.b7.kept C (h.b7.ne_ E (by decide)),
  h.map.kept C (fun e=>BT E h.map e.symm),AK C h.sets (fun g cs e F=>by subst e;exact F.ne_ E (by decide) rfl),h.setR.keep C (fun g cs G e _=>I g G e) (fun _ _ x=>x) (Nat.le_refl _),
  AK C h.acc (fun g cs e F=>by subst e;exact F.ne_ E (by decide) rfl),AK C h.nxt (fun g cs e F=>by subst e;exact F.ne_ E (by decide) rfl),h.nxtR.keep C (fun g cs G e _=>I g G e) (fun _ _ x=>x) (Nat.le_refl _),h.sep,h.ge,h.len⟩
theorem BK.rowAdd {row:List Nat} {gr c:Nat} {vN':Value} {w2:World} (h:BK w0 wr a g2 g4 g6 g7 gm cs vN vA vS all t us ws N)
  (hr:wr.ownsRow w0.heap.size 3 1 (.slice (some ⟨gr,0,none⟩) row.length c) row.length (row.map fun y:Nat=>Value.int .i64 (y:Int)))
  (U:Ac wr w2 (fun k=>vN.ownBlock=some k)) (ho:w2.ownsRow w0.heap.size 24 1 vN' (t.length+1) (ws++[.slice (some ⟨gr,0,none⟩) row.length c])) (a2:BJ wr vN vN'):
  BK w0 (w2.setCell ⟨g4,0,none⟩ vN') a g2 g4 g6 g7 gm cs vN' vA vS all (t++[row]) us (ws++[.slice (some ⟨gr,0,none⟩) row.length c]) (fun _=>True):=by
 have V:=(Ac.refl w2 (fun k=>k=g4)).setCell (p:=⟨g4,0,none⟩) (fun _=>rfl) vN';have hs:=h.below.size;have W:=h.b4.kept U (Aw h.nxt h.b4 (by decide));have C:Ac wr (w2.setCell ⟨g4,0,none⟩ vN') (fun k=>vN.ownBlock=some k\/k=g4):=(U.mono fun _ _ e=>.inl e).trans V fun _ _ e=>.inr e;have I:∀{e:TypeId},e≠24->e≠70->∀g cs,(vN.ownBlock=some g\/g=g4)->¬Blk wr g e cs:=by
  rintro e h1 M g cs (J|J) E
  ·exact Aw h.nxt E (fun F=>h1 F.symm) J
  ·exact E.ne_ h.b4 M J
 have hS:wr.ownsRow w0.heap.size 24 1 vS all.length us:=h.sets;have O:∀{g:Nat} {e:TypeId} {cs:Array Value},e≠24->e≠70->Blk wr g e cs->Blk (w2.setCell ⟨g4,0,none⟩ vN') g e cs:=fun h1 M E=>E.kept C fun hx=>I h1 M _ _ hx E;have a8:=h.ge;refine⟨h.below.trans (C.below hs ?_),O (by decide) (by decide) h.b2,?_,O (by decide) (by decide) h.b6,O (by decide) (by decide) h.b7,?_,?_,?_,AK C h.acc (I (by decide) (by decide)),?_,?_,?_,h.ge,h.len⟩
 ·rintro b hb (e|e)
  ·have:=Bb h.nxt e;omega
  ·omega
 ·exact W.set_ 0 vN'
 ·exact h.map.kept C (by
   rintro(e|e)
   ·exact Di h.nxt h.map e
   ·exact BT h.b4 h.map e.symm)
 ·refine C.ownsRow h.sets fun g G e=>?_;rcases e with e|e
  ·exact h.sep g G e
  ·exact Aw h.sets h.b4 (by decide) (by rw [G,e])
 ·exact h.setR.keep C (fun g cs _ e=>I (by decide) (by decide) g cs e) (fun _ _ _=>trivial) (Nat.le_refl _)
 ·rw [List.length_append];exact AK V ho (fun g cs e E=>by subst e;exact E.ne_ W (by decide) rfl)
 ·rw [List.map_append];refine Cl.snoc (h.nxtR.keep C (fun g cs _ e=>I (by decide) (by decide) g cs e) (fun _ _ _=>trivial) (Nat.le_refl _)) ?_ (fun _ _=>trivial);have:=AK C hr (I (by decide) (by decide));have e:(Ak row).map (Value.int .i64)=row.map fun y:Nat=>Value.int .i64 (y:Int):=by simp [Ak]
  have Z:(Ak row).length=row.length:=by simp [Ak]
  rw [e,Z];exact this
 ·intro g G e;rcases a2 with F|⟨g',F,a9⟩
  ·exact h.sep g G (by rw [<-F];exact e)
  ·rw [e] at F;injection F with F
   have:=Cj h.sets G;omega
theorem LD {w:World} {B:Nat} {A:Option Addr} {t:List (List Nat)} (h:VSl R1 w B A (t.map Ak)):VSl R1n w B A t:=by
 refine⟨by simpa using h.1,fun G=>?_⟩;obtain⟨b,off,e,C,E⟩:=h.2 (by simpa using G);exact⟨b,off,e,C,fun k d F=>E k (Ak d) (AX F)⟩
theorem BK.fin {E:World} (h:BK w0 wr a g2 g4 g6 g7 gm cs vN vA vS all t us ws N) (F:Ac wr E (fun k=>k=g4)) (hl:∀r∈t,r.length<=4000000) (ht:t.length<=4000000) (ha:all.length<=4000000):
  Br E E.heap.size (.agg #[vN,vA]) t (all.map a.has)/\Below w0.heap.size w0 E:=by
 have a6:=h.ge;have V:=AK F h.nxt (fun g cs e C=>by subst e;exact C.ne_ h.b4 (by decide) rfl);have U:=AK F h.acc (fun g cs e C=>by subst e;exact C.ne_ h.b4 (by decide) rfl);have W:=h.nxtR.keep (N':=N) F (fun g cs _ e C=>by subst e;exact C.ne_ h.b4 (by decide) rfl) (fun _ _ x=>x) (Nat.le_refl _);obtain⟨I,c1,G,h1⟩:=Cl.read W V ht (Nat.le_refl _) (fun d Z=>by
  obtain⟨r,hr,rfl⟩:=List.mem_map.1 Z;have:=hl r hr;simpa [Ak] using this)
 obtain⟨J,c2,M,O⟩:=Kg (B:=E.heap.size) U (by simp) (Nat.le_refl _) (by omega);rw [List.length_map] at G;exact⟨⟨I,c1,J,c2,by rw [G,M],LD h1,O⟩,h.below.trans (F.below h.below.size fun b hb e=>by omega)⟩
end
end Go.Proofs.YtjejejmeddkciaaGreatDoor
namespace Go.Proofs.YtjejejmeddkciaaGreatDoor
open Go.RowKit
set_option maxHeartbeats 16000000
set_option maxRecDepth 100000
def Ih:Code->Code
 | .scope c=>c
 | .seq a b=>match Ih a with
  | .skip=>Ih b
  | c=>c
 | _=>.skip
def JQ (f:Func) (l:Nat):Code:=match f.body with
 | some c=>(findLabel (Ih c) l).getD .skip
 | none=>.skip
def JR (f:Func) (l:Nat):Code:=match JQ f l with
 | .seq .skip c=>c
 | c=>c
def CY (w:World) (g:Nat) (v0 v1:Value):World:=(w.setCell ⟨g,0,none⟩ v0).setCell ⟨g,1,none⟩ v1
theorem Dm {w:World} {g:Nat} {e:TypeId} {a0 a1:Value} (h:Blk w g e #[a0,a1]) (v0 v1:Value):∃C,CY w g v0 v1=C/\Blk C g e #[v0,v1]/\Ac w C (fun k=>k=g):=
 ⟨_,rfl,(h.set_ 0 v0).set_ 1 v1,((Ac.refl w (fun k=>k=g)).setCell (p:=⟨g,0,none⟩) (fun _=>rfl) _).setCell (p:=⟨g,1,none⟩) (fun _=>rfl) _⟩
theorem RA {a:NF} {s:List Bool} {all:List (List Bool)} {x y:Nat} (h:y<x):Ax (AZ a.after s all (x+1)) (a.after s y)=Ax (AZ a.after s all x) (a.after s y):=by
 rw [Cr];exact ET (F6 _ _) (Gb s all h)
theorem Ic {S:Type} [DecidableEq S] {δ:S->Nat->S} (s:S) (l:List S):∀k,(AZ δ s l k).length<=l.length+k
 | 0=>Nat.le_refl _
 | k+1=>by
  rw [Cr];have:=Ic (δ:=δ) s l k;unfold Bs;split
  ·omega
  ·rw [List.length_append,List.length_singleton];omega
theorem Jq {S:Type} [DecidableEq S] {L:Nat} {δ:S->Nat->S} {s0:S} {i:Nat} {l:List S} (h:Exp L δ s0 i l):l.length<=1+i*L:=by
 induction h with
 | start=>simp
 | row _ _ ih=>
  have:=Ic (δ:=δ) (by assumption) (by assumption) L;rw [Nat.succ_mul];omega
theorem Gf (A:Act) (F:(Nat->Value)->Act) (h:A=F (fun n=>A.tmps.getD n undef)):∃u,A=F u:=⟨_,h⟩
structure Gm (w0 wr:World) (a:NF) (g2 g4 g6 g7 gm:Nat) (cs:Array Value) (i:Nat) (all:List (List Bool)) (vN vA vS:Value) (us ws:List Value):Prop where
 mem:BK w0 wr a g2 g4 g6 g7 gm cs vN vA vS all (BG a all i) us ws (fun _=>True)
 exp:Exp a.L a.after a.st i all
theorem Lw {w0 wr:World} {a:NF} {g2 g4 g6 g7 gm i k:Nat} {v1 v2 v3 vN vA vS va:Value} {all:List (List Bool)} {us ws:List Value} (u:Nat->Value)
  (hI:Gm w0 wr a g2 g4 g6 g7 gm #[.int .i64 (a.L:Int),v1,v2,v3] i all vN vA vS us ws) (aS:Cn w0 w0.heap.size (.agg #[.int .i64 (a.L:Int),v1,v2,v3]) a) (be:a.OK) (hn:a.n<=200000) (hL:a.L<=8) (hk:k<=50000) (cd:i<=k) (hT:BV w0)
  (bG:∀m x,m.length=a.n->x<a.L->(a.cat (AJ m) x).length<=4000000)
  {Q:Exit->Act->World->Prop} (hN:Reg.NoQ Q)
  (bJ:∀(ac:Act) (w':World) (br:List (List Bool)) (vN vA vS:Value) (us ws:List Value),i<k->Gm w0 w' a g2 g4 g6 g7 gm #[.int .i64 (a.L:Int),v1,v2,v3] (i+1) br vN vA vS us ws->(∃u:Nat->Value,ac=⟨List.toArray ((va)::(.int .i64 (k:Int))::(.pointer (some ⟨g2,0,none⟩))::u 3::(.pointer (some ⟨g4,0,none⟩))::(.bool false)::(.pointer (some ⟨g6,0,none⟩))::(.pointer (some ⟨g7,0,none⟩))::(.func (.func 95) #[] #[.pointer (some ⟨g6,0,none⟩),.pointer (some ⟨g7,0,none⟩),.pointer (some ⟨g4,0,none⟩),.pointer (some ⟨g2,0,none⟩)])::(.int .i64 ((i+1:Nat):Int))::u 10::u 11::u 12::u 13::u 14::u 15::u 16::u 17::u 18::u 19::u 20::u 21::u 22::u 23::u 24::u 25::u 26::u 27::u 28::u 29::u 30::u 31::u 32::u 33::u 34::u 35::u 36::u 37::u 38::u 39::u 40::u 41::u 42::u 43::u 44::u 45::u 46::u 47::u 48::u 49::u 50::u 51::u 52::u 53::u 54::u 55::u 56::u 57::u 58::u 59::u 60::u 61::u 62::[]),[]⟩)->Q (.goto 0) ac w')
  (aC:∀(ac:Act) (w':World) (vN vA:Value) (b:Bool),Blk w' g4 70 #[vN,vA]->Below w0.heap.size w0 w'->Br w' w'.heap.size (.agg #[vN,vA]) (BG a all i) (all.map a.has)->b=decide (all.length<=k)->(i<all.length->k<all.length)->Exp a.L a.after a.st i all->(∃u:Nat->Value,ac=⟨List.toArray ((va)::(.int .i64 (k:Int))::(.pointer (some ⟨g2,0,none⟩))::u 3::(.pointer (some ⟨g4,0,none⟩))::(.bool b)::(.pointer (some ⟨g6,0,none⟩))::(.pointer (some ⟨g7,0,none⟩))::(.func (.func 95) #[] #[.pointer (some ⟨g6,0,none⟩),.pointer (some ⟨g7,0,none⟩),.pointer (some ⟨g4,0,none⟩),.pointer (some ⟨g2,0,none⟩)])::u 9::u 10::u 11::u 12::u 13::u 14::u 15::u 16::u 17::u 18::u 19::u 20::u 21::u 22::u 23::u 24::u 25::u 26::u 27::u 28::u 29::u 30::u 31::u 32::u 33::u 34::u 35::u 36::u 37::u 38::u 39::u 40::u 41::u 42::u 43::u 44::u 45::u 46::u 47::u 48::u 49::u 50::u 51::u 52::u 53::u 54::u 55::u 56::u 57::u 58::u 59::u 60::u 61::u 62::[]),[]⟩)->Q .ret ac w'):
  (JR Tryz.f49 0).wp Tryz.prog Q ⟨List.toArray ((va)::(.int .i64 (k:Int))::(.pointer (some ⟨g2,0,none⟩))::u 3::(.pointer (some ⟨g4,0,none⟩))::(.bool false)::(.pointer (some ⟨g6,0,none⟩))::(.pointer (some ⟨g7,0,none⟩))::(.func (.func 95) #[] #[.pointer (some ⟨g6,0,none⟩),.pointer (some ⟨g7,0,none⟩),.pointer (some ⟨g4,0,none⟩),.pointer (some ⟨g2,0,none⟩)])::(.int .i64 (i:Int))::u 10::u 11::u 12::u 13::u 14::u 15::u 16::u 17::u 18::u 19::u 20::u 21::u 22::u 23::u 24::u 25::u 26::u 27::u 28::u 29::u 30::u 31::u 32::u 33::u 34::u 35::u 36::u 37::u 38::u 39::u 40::u 41::u 42::u 43::u 44::u 45::u 46::u 47::u 48::u 49::u 50::u 51::u 52::u 53::u 54::u 55::u 56::u 57::u 58::u 59::u 60::u 61::u 62::[]),[]⟩ wr:=by
 conv=>arg 2;whnf
 have aY:=hI.mem.b2.cell;have aZ:=hI.mem.b4.cell;have ah:=hI.mem.b7.cell;obtain⟨AS,cS,rfl⟩:=AH hI.mem.sets;have E:=hide hI;have aT:=hide aS;have ap:=hI.exp.inv.le;clear hI aS;by_cases a9:i<all.length
 ·by_cases a8:all.length<=k
  ·obtain⟨s,hs⟩:=An a9;obtain⟨gr,w1,bb,ax,aw,cb⟩:=Et wr a.L (by omega);rw [Fo] at ax;have aE:=hide hs;have ch:=aw.size;have cg:=E.out.mem.below.size;have bx:Hid (BK w0 w1 a g2 g4 g6 g7 gm #[.int .i64 (a.L:Int),v1,v2,v3] vN vA (.slice AS all.length cS) (AZ a.after s all 0) (BG a all i) us ws (fun g=>g≠gr)):=
    (E.out.mem.weak fun g hg _=>by omega).keep aw
   have bB:Hid (Blk w1 gr 3 (Bi a.L fun y=>if y<0 then Value.int .i64 (Ax (AZ a.after s all 0) (a.after s y):Int) else .int .i64 0)):=by
    show Blk _ _ _ _
    rw [D4 (g:=fun _=>Value.int .i64 0) (fun y _=>by rw [if_neg (by omega)])];exact ax
   clear hs ax aw;go_wp2_with fail;go_loopw [34] (fun ii bo=>∃(x:Nat),ii=.int .i64 (x:Int)/\x<=a.L/\Hid (∃vA vS us,BK w0 bo a g2 g4 g6 g7 gm #[.int .i64 (a.L:Int),v1,v2,v3] vN vA vS (AZ a.after s all x) (BG a all i) us ws (fun g=>g≠gr))/\Hid (Blk bo gr 3 (Bi a.L fun y=>if y<x then Value.int .i64 (Ax (AZ a.after s all x) (a.after s y):Int) else .int .i64 0))) (fun ii _=>a.L - (intOf ii).toNat)
   case atStart=>exact⟨0,rfl,Nat.zero_le _,⟨_,_,_,bx.out⟩,bB⟩
   case round=>
    obtain⟨x,rfl,hx,hM,hB⟩:=hrel;obtain⟨c0,c5,bZ,G⟩:=hM.out;have ab:=hide G;by_cases aH:x<a.L
    ·have bi:=DK (δ:=a.after) s all x;have au:=Ds bi aE.out;have bk:=G.len s (List.mem_of_getElem? au);obtain⟨uv,bm,bf,-⟩:=F2.at G.setR (AX (f:=AJ) au);obtain⟨Au,cu,rfl,aU⟩:=B8 bf rfl (Nat.le_refl _) (by have:=Fw s;omega);obtain⟨gS,c7,rfl,bF⟩:=C7 G.sets bm;have bD:=G.b2.cell;have b5:=G.b7.cell;have bl:=G.below.size;have aO:=hB.out;have bL:i<(AZ a.after s all x).length:=AP au;have aV:(AZ a.after s all x).length<=60000:=by
      have:=Ic (δ:=a.after) s all x;omega
     have bV:∀J:World,Below wr.heap.size wr J->Calls Tryz.prog 28 #[.agg #[.int .i64 (a.L:Int),v1,v2,v3],.slice Au (AJ s).length cu,.int .i64 (x:Int)] J (Ret fun r w'=>w'.ownsRow J.heap.size 3 1 r (AJ (a.after s x)).length ((AJ (a.after s x)).map (Value.int .i64))/\Below J.heap.size J w'):=fun J hb=>by
      have al:=ab.out.below.trans (hb.mono bl);exact Iq (aT.out.keep (fun p hp=>al.cell hp) al.size) be bk (aU.keep (w':=J) (fun p hp=>hb.cell hp) hb.size) (Nat.le_refl _) aH (bG s x bk aH)
     have bW:∀(J:World) (r:Value),Below wr.heap.size wr J->J.ownsRow w0.heap.size 3 1 r (AJ (a.after s x)).length ((AJ (a.after s x)).map (Value.int .i64))->(∀g,r.ownBlock=some g->g≠gr)->Calls Tryz.prog 95 #[r,.pointer (some ⟨g6,0,none⟩),.pointer (some ⟨g7,0,none⟩),.pointer (some ⟨g4,0,none⟩),.pointer (some ⟨g2,0,none⟩)] J (Ret fun v w'=>v=.int .i64 (Ax (AZ a.after s all (x+1)) (a.after s x):Int)/\∃vA' c4 bY,BK w0 w' a g2 g4 g6 g7 gm #[.int .i64 (a.L:Int),v1,v2,v3] vN vA' c4 (AZ a.after s all (x+1)) (BG a all i) bY ws (fun g=>g≠gr)/\∀g cs,Blk J g 3 cs->Blk w' g 3 cs):=fun J r hb hr bR=>by
      have al:=ab.out.below.trans (hb.mono bl);rw [Cr];exact Lt (ab.out.keep hb) aT.out be.acc (a.after_len _ _) hr bR hn aV (hT.below al)
     obtain⟨nS,bd⟩:∃n,n=(AZ a.after s all x).length:=⟨_,rfl⟩;rw [<-bd] at b5 bL;clear hM G bi au bf bm aU hB aV bb aY aZ ah bd;go_wp2_with fail;refine Reg.aCh [0,0,0,0,0,0,48,112,0,504,1020,2047,4095] (by kernel_rfl) (by repeat (first|exact hN|refine Reg.NoQ.then ?_|refine Reg.NoQ.inBlock ?_)) ?_;go_wp2_with fail;refine Calls.ret (bV _ (Ap wr)) ?_;rintro r w2 ⟨aB,aW⟩;have aX:Below wr.heap.size wr w2:=(Ap wr).trans aW;have cc:=aO.lt;have bQ:w2.ownsRow w0.heap.size 3 1 r (AJ (a.after s x)).length ((AJ (a.after s x)).map (Value.int .i64)):=DC aB (by show _<=wr.heap.size;omega);have bS:∀g,r.ownBlock=some g->g≠gr:=fun g hg e=>by
      have:=Bb aB hg;have e2:wr.drew.heap.size=wr.heap.size:=rfl;omega
     have bu:=aO.below aX;clear aB aW bD b5 bF;go_wp2_with fail;refine Calls.ret (bW w2 r aX bQ bS) ?_;rintro v w3 ⟨rfl,cn,co,ck,aQ,aM⟩;have aa:=aM _ _ bu;have c8:w3.cell? ⟨gr,x,none⟩=some (.int .i64 0):=by rw [aa.cell,CV _ aH,if_neg (by omega)]
     have c9:=aa.frozen x;have cf:=aa.lt;have b9:=(Ac.refl w3 (fun k=>k=gr)).setCell (p:=⟨gr,x,none⟩) (fun _=>rfl) (.int .i64 (Ax (AZ a.after s all (x+1)) (a.after s x):Int));have aR:=aQ.other (fun _ h=>h) aa (by omega) b9;have aN:Blk (w3.setCell ⟨gr,x,none⟩ (.int .i64 (Ax (AZ a.after s all (x+1)) (a.after s x):Int))) gr 3 (Bi a.L fun y=>if y<x+1 then Value.int .i64 (Ax (AZ a.after s all (x+1)) (a.after s y):Int) else .int .i64 0):=by
      have h1:=aa.set_ x (.int .i64 (Ax (AZ a.after s all (x+1)) (a.after s x):Int));rw [F7] at h1;rw [D4 (g:=fun y=>if y=x then Value.int .i64 (Ax (AZ a.after s all (x+1)) (a.after s x):Int) else if y<x then .int .i64 (Ax (AZ a.after s all x) (a.after s y):Int) else .int .i64 0) (fun y _=>by
       by_cases e:y=x
       ·subst e;simp
       ·by_cases e2:y<x
        ·rw [if_pos (by omega),if_neg e,if_pos e2,RA e2]
        ·rw [if_neg (by omega),if_neg e,if_neg e2])]
      exact h1
     have bz:=hide aR;have bv:=hide aN;clear aQ aM aa aR aN b9;go_wp2_with fail;exact⟨⟨x+1,by go_num,by omega,⟨_,_,_,bz.out⟩,bv⟩,by simp [intOf];omega⟩
    ·obtain rfl:x=a.L:=by omega
     obtain⟨M,cN,rfl⟩:=AH G.nxt;have b0:=G.b4.cell;have bI:=G.b4.frozen 0;have bN:=G.b4.lt;have bK:w0.heap.size<=gr:=by omega
     obtain⟨row,ar⟩:∃row,row=(List.range a.L).map fun y=>Ax (AZ a.after s all a.L) (a.after s y):=⟨_,rfl⟩;have aD:row.length=a.L:=by rw [ar];simp
     have bh:wr.ownsRow w0.heap.size 3 1 (.slice (some ⟨gr,0,none⟩) row.length row.length) row.length (row.map fun y:Nat=>Value.int .i64 (y:Int)):=by
      have:=DD hB.out bK (Fp _ _) (by omega);rw [aD];have e:(Bi a.L fun y=>if y<a.L then Value.int .i64 (Ax (AZ a.after s all a.L) (a.after s y):Int) else .int .i64 0).toList=row.map fun y:Nat=>Value.int .i64 (y:Int):=by
       rw [ar];simp only [Bi,List.map_map];exact List.map_congr_left fun y hy=>by rw [if_pos (List.mem_range.1 hy)];rfl
      rw [e] at this;exact this
     have aF:=GQ (a:=a) ap;have bU:=hide ar;have bT:=hide aD;have bP:=hide bh;have az:=G.nxt;rw [aF] at az b0;have aG:=hide aF;have bC:=G.below.size;clear hM G hB ar aD bh bb aY aZ ah aF;go_wp2_with (at_builtin;refine BP F9 rfl _ _ rfl w0.heap.size _ i _ rfl az [.slice (some ⟨gr,0,none⟩) a.L a.L] 1 rfl rfl (by simp [Value.oneCell']) (by omega) bC ?_;intro g cap w4 bg ay bc ca;have ao:=ab.out.b4.kept ay (Aw az ab.out.b4 (by decide));have bE:=ao.cell;have bH:=ao.frozen 0;have bM:=ao.lt);have I:=hide (show Gm w0 (w4.setCell ⟨g4,0,none⟩ (.slice (some ⟨g,0,none⟩) (i+1) cap)) a g2 g4 g6 g7 gm #[.int .i64 (a.L:Int),v1,v2,v3] (i+1) (AZ a.after s all a.L) (.slice (some ⟨g,0,none⟩) (i+1) cap) c0 c5 bZ (ws++[.slice (some ⟨gr,0,none⟩) row.length row.length]) from by
      have hE:Exp a.L a.after a.st (i+1) (AZ a.after s all a.L):=.row E.out.exp aE.out;refine⟨?_,hE⟩;rw [Sw (Ds (DK s all a.L) aE.out),Sv E.out.exp (DK s all a.L),<-bU.out];refine ab.out.rowAdd bP.out ?_ ?_ ?_
      ·rw [aG.out];exact ay
      ·rw [aG.out,bT.out];exact bg
      ·rw [aG.out];exact bc)
     clear bg ay bc ao bE bH bM b0 bI bN;go_wp2_with fail;try go_step3
     refine bJ _ _ _ _ _ _ _ _ (by omega) I.out ?_;refine Gf _ _ ?_;rfl
  ·have a2:all.length<=3000000:=by have:=Jq E.out.exp;have:i*a.L<=50000*8:=Nat.mul_le_mul (by omega) hL;omega
   obtain⟨M,cN,rfl⟩:=AH E.out.mem.nxt;obtain⟨O,U,rfl⟩:=AH E.out.mem.acc;have F:=E.out.mem.b4;have W:=E.out.mem.b7;have b6:=F.frozen;have ba:=F.lt;obtain⟨wF,a5,a4,V⟩:=Dm F (.slice M (BG a all i).length cN) (.slice O all.length U);have ai:=(W.kept V (W.ne_ F (by decide))).cell;have I:=hide (E.out.mem.fin V (fun r hr=>by
    unfold BG at hr;obtain⟨s,_,rfl⟩:=List.mem_map.1 hr;simp;omega) (by rw [GQ ap];have:=a2;omega) (by have:=a2;omega))
   have af:=hide a4;have a6:=hide a5;clear F W a4 V a5;go_wp2_with fail;refine Reg.region_cutI [0,0,2,0,14,1,63] [0,1,2,3,4,5,6] (by kernel_rfl) (by repeat (first|exact hN|refine Reg.NoQ.then ?_|refine Reg.NoQ.inBlock ?_)) ?_;refine Reg.wI [0,1,2,3,4] [5,6] rfl fun Qf C=>?_;go_wp2_with fail;try rw [List.filterMap_nil]
   go_wp2_with fail;first|refine C _ _ ⟨rfl,?_⟩|refine⟨rfl,?_⟩|refine C _ _ ⟨by simp [Reg.fineT,Reg.intOp,Region.wanted,yielded,Reg.intFine,Reg.isInt,Act.eval],?_⟩
   (try clear C);have aq:=hide a9;have ae:=hide a8;clear a9 a8 a2;refine Reg.aI 5 [6] [1] rfl fun Qf C=>?_;simp only [gT,gS,gZ];go_wp2_with fail;first|refine C _ _ ⟨?_,?_⟩|refine⟨?_,?_⟩
   ·intro z hz q Z;simp only [List.mem_singleton] at hz;subst hz;injection Z with Z
    subst Z;exact Reg.same_load1 rfl rfl (ah 0) ((congrArg (fun w:World=>w.drew.cell? ⟨g7,0,none⟩) a6.out).trans (ai 0)) Tryz.underlying67 rfl
   (try clear C);refine Reg.wI [6] [] rfl fun Qf C=>?_;go_wp2_with fail;try rw [List.filterMap_nil]
   go_wp2_with fail;first|refine C _ _ ⟨rfl,?_⟩|refine⟨rfl,?_⟩
   (try clear C);refine Reg.restI_end ?_;go_wp2_with fail;have ag:decide (all.length<=k)=false:=decide_eq_false ae.out;change Q .ret _ (CY wr g4 (.slice M (BG a all i).length cN) (.slice O all.length U)).drew;rw [a6.out];refine aC _ _ (.slice M (BG a all i).length cN) (.slice O all.length U) false af.out (I.out.2.trans ((Ap wF).mono I.out.2.size)) I.out.1 ag.symm (fun _=>Nat.lt_of_not_le ae.out) E.out.exp ?_;refine Gf _ _ ?_;rfl
 ·have a2:all.length<=3000000:=by have:=Jq E.out.exp;have:i*a.L<=50000*8:=Nat.mul_le_mul (by omega) hL;omega
  by_cases a8:all.length<=k
  ·obtain⟨M,cN,rfl⟩:=AH E.out.mem.nxt;obtain⟨O,U,rfl⟩:=AH E.out.mem.acc;have F:=E.out.mem.b4;have W:=E.out.mem.b7;have b6:=F.frozen;have ba:=F.lt;obtain⟨wF,a5,a4,V⟩:=Dm F (.slice M (BG a all i).length cN) (.slice O all.length U);have ai:=(W.kept V (W.ne_ F (by decide))).cell;have I:=hide (E.out.mem.fin V (fun r hr=>by
    unfold BG at hr;obtain⟨s,_,rfl⟩:=List.mem_map.1 hr;simp;omega) (by rw [GQ ap];have:=a2;omega) (by have:=a2;omega))
   have af:=hide a4;have a6:=hide a5;clear F W a4 V a5;go_wp2_with fail;refine Reg.region_cutI [0,0,2,0,14,1,63] [0,1,2,3,4,5,6] (by kernel_rfl) (by repeat (first|exact hN|refine Reg.NoQ.then ?_|refine Reg.NoQ.inBlock ?_)) ?_;refine Reg.wI [0,1,2,3,4] [5,6] rfl fun Qf C=>?_;go_wp2_with fail;try rw [List.filterMap_nil]
   go_wp2_with fail;first|refine C _ _ ⟨rfl,?_⟩|refine⟨rfl,?_⟩|refine C _ _ ⟨by simp [Reg.fineT,Reg.intOp,Region.wanted,yielded,Reg.intFine,Reg.isInt,Act.eval],?_⟩
   (try clear C);have aq:=hide a9;have ae:=hide a8;clear a9 a8 a2;refine Reg.aI 5 [6] [1] rfl fun Qf C=>?_;simp only [gT,gS,gZ];go_wp2_with fail;first|refine C _ _ ⟨?_,?_⟩|refine⟨?_,?_⟩
   ·intro z hz q Z;simp only [List.mem_singleton] at hz;subst hz;injection Z with Z
    subst Z;exact Reg.same_load1 rfl rfl (ah 0) ((congrArg (fun w:World=>w.drew.cell? ⟨g7,0,none⟩) a6.out).trans (ai 0)) Tryz.underlying67 rfl
   (try clear C);refine Reg.wI [6] [] rfl fun Qf C=>?_;go_wp2_with fail;try rw [List.filterMap_nil]
   go_wp2_with fail;first|refine C _ _ ⟨rfl,?_⟩|refine⟨rfl,?_⟩
   (try clear C);refine Reg.restI_end ?_;go_wp2_with fail;have ag:decide (all.length<=k)=true:=decide_eq_true ae.out;change Q .ret _ (CY wr g4 (.slice M (BG a all i).length cN) (.slice O all.length U)).drew;rw [a6.out];refine aC _ _ (.slice M (BG a all i).length cN) (.slice O all.length U) true af.out (I.out.2.trans ((Ap wF).mono I.out.2.size)) I.out.1 ag.symm (fun h=>absurd h aq.out) E.out.exp ?_;refine Gf _ _ ?_;rfl
  ·obtain⟨M,cN,rfl⟩:=AH E.out.mem.nxt;obtain⟨O,U,rfl⟩:=AH E.out.mem.acc;have F:=E.out.mem.b4;have W:=E.out.mem.b7;have b6:=F.frozen;have ba:=F.lt;obtain⟨wF,a5,a4,V⟩:=Dm F (.slice M (BG a all i).length cN) (.slice O all.length U);have ai:=(W.kept V (W.ne_ F (by decide))).cell;have I:=hide (E.out.mem.fin V (fun r hr=>by
    unfold BG at hr;obtain⟨s,_,rfl⟩:=List.mem_map.1 hr;simp;omega) (by rw [GQ ap];have:=a2;omega) (by have:=a2;omega))
   have af:=hide a4;have a6:=hide a5;clear F W a4 V a5;go_wp2_with fail;refine Reg.region_cutI [0,0,2,0,14,1,63] [0,1,2,3,4,5,6] (by kernel_rfl) (by repeat (first|exact hN|refine Reg.NoQ.then ?_|refine Reg.NoQ.inBlock ?_)) ?_;refine Reg.wI [0,1,2,3,4] [5,6] rfl fun Qf C=>?_;go_wp2_with fail;try rw [List.filterMap_nil]
   go_wp2_with fail;first|refine C _ _ ⟨rfl,?_⟩|refine⟨rfl,?_⟩|refine C _ _ ⟨by simp [Reg.fineT,Reg.intOp,Region.wanted,yielded,Reg.intFine,Reg.isInt,Act.eval],?_⟩
   (try clear C);have aq:=hide a9;have ae:=hide a8;clear a9 a8 a2;refine Reg.aI 5 [6] [1] rfl fun Qf C=>?_;simp only [gT,gS,gZ];go_wp2_with fail;first|refine C _ _ ⟨?_,?_⟩|refine⟨?_,?_⟩
   ·intro z hz q Z;simp only [List.mem_singleton] at hz;subst hz;injection Z with Z
    subst Z;exact Reg.same_load1 rfl rfl (ah 0) ((congrArg (fun w:World=>w.drew.cell? ⟨g7,0,none⟩) a6.out).trans (ai 0)) Tryz.underlying67 rfl
   (try clear C);refine Reg.wI [6] [] rfl fun Qf C=>?_;go_wp2_with fail;try rw [List.filterMap_nil]
   go_wp2_with fail;first|refine C _ _ ⟨rfl,?_⟩|refine⟨rfl,?_⟩
   (try clear C);refine Reg.restI_end ?_;go_wp2_with fail;have ag:decide (all.length<=k)=false:=decide_eq_false ae.out;change Q .ret _ (CY wr g4 (.slice M (BG a all i).length cN) (.slice O all.length U)).drew;rw [a6.out];refine aC _ _ (.slice M (BG a all i).length cN) (.slice O all.length U) false af.out (I.out.2.trans ((Ap wF).mono I.out.2.size)) I.out.1 ag.symm (fun h=>absurd h aq.out) E.out.exp ?_;refine Gf _ _ ?_;rfl
end Go.Proofs.YtjejejmeddkciaaGreatDoor
namespace Go.Proofs.YtjejejmeddkciaaGreatDoor
open Go.RowKit
set_option maxHeartbeats 16000000
set_option maxRecDepth 100000
abbrev sn0:Value:=.slice none 0 0
theorem F1 (t:TypeId) (w:World):∃gm h,(Instr.makeMap t none).run Tryz.prog w=.ok (.map (some gm)) h/\Bw h gm []/\Below w.heap.size w h/\w.heap.size<=gm:=
 ⟨_,_,run_makeMap t w,Bw.made w,(Below.refl _ _).alloc (Nat.le_refl _) _,Nat.le_refl _⟩
theorem Tu (w:World) (a:NF) (cs:Array Value):∃g2 g4 g6 g7 gm F w2 h E C G,g2=w.heap.size/\g4=F.heap.size/\g6=h.heap.size/\g7=C.heap.size/\w.alloc (.cells cs 86)=F/\F.alloc (.cells #[sn0,sn0] 70)=w2/\(Instr.makeMap 175 none).run Tryz.prog w2=.ok (.map (some gm)) h/\
  h.alloc (.cells #[.map none] 175)=E/\Blk E g6 175 #[.map none]/\E.setCell ⟨g6,0,none⟩ (.map (some gm))=C/\C.alloc (.cells #[sn0] 67)=G/\
  ∀M,Below G.heap.size G M->BK w M a g2 g4 g6 g7 gm cs sn0 sn0 sn0 [] [] [] [] (fun _=>True):=by
 obtain⟨F,h1,a4,W,ak⟩:=Ae w cs 86;obtain⟨w2,h2,U,Z,al⟩:=Ae F #[sn0,sn0] 70;obtain⟨gm,h,h3,a3,J,aj⟩:=F1 175 w2;obtain⟨E,h4,a5,a2,am⟩:=Ae h #[.map none] 175;obtain⟨C,O⟩:∃C,E.setCell ⟨h.heap.size,0,none⟩ (.map (some gm))=C:=⟨_,rfl⟩;have a6:Ac E C (fun k=>k=h.heap.size):=by rw [<-O];exact(Ac.refl E (fun k=>k=h.heap.size)).setCell (p:=⟨h.heap.size,0,none⟩) (fun _=>rfl) _
 have ag:Blk C h.heap.size 175 #[.map (some gm)]:=by rw [<-O];exact a2.set_ 0 _
 obtain⟨G,h6,V,ah,an⟩:=Ae C #[sn0] 67;refine⟨_,_,_,_,gm,F,w2,h,E,C,G,rfl,rfl,rfl,rfl,h1,h2,h3,h4,a2,O,h6,fun M I=>?_⟩;have a7:=a4.size;have ao:=U.size;have ap:=J.size;have ai:=a5.size;have aq:=a6.size;have ar:=V.size;have l1:=W.lt;have l2:=Z.lt;have l3:=a3.lt;have b5:Below h.heap.size E C:=a6.below ai fun b I e=>by omega
 have aa:Below h.heap.size h G:=a5.trans (b5.trans (V.mono (by omega)));have b3:Below h.heap.size h M:=aa.trans (I.mono (by omega));have a8:Below w.heap.size w w2:=a4.trans (U.mono a7);have a9:Below w.heap.size w h:=a8.trans (J.mono (by omega));refine⟨a9.trans (b3.mono (by omega)),((W.below U).below J).below b3,(Z.below J).below b3,(ag.below V).below I,ah.below I,a3.keep (b3.block _ l3),Cb,.nil,Cb,Cb,.nil,by simp [Value.ownBlock],⟨Nat.le_refl _,a7,by omega,by omega,by omega⟩,by simp⟩
theorem Ti {a:NF} (E:a.OK):CL a.start=AJ a.st:=by
 refine Ip fun x=>?_;constructor
 ·intro C;have:=E.start x C;rw [D3] at this;obtain⟨q,rfl⟩:=Int.eq_ofNat_of_zero_le this.1;refine⟨q,rfl,?_⟩;unfold NF.st;rw [Dg (by omega)];simp [C]
 ·rintro⟨q,rfl,h⟩;have F:q<a.n:=by have:=AP h;rwa [a.st_len] at this
  unfold NF.st at h;rw [Dg F] at h;simpa using h
def ID (w:World) (a:NF) (k:Nat) (v:Value) (w':World):Prop:=
 Below w.heap.size w w'/\∃d,(∃t ac,Br w' w'.heap.size d t ac)/\((a.Large k/\v=.tuple #[d,.bool false])\/(∃all,Bf a.L a.after a.st all/\all.length<=k/\Br w' w'.heap.size d (BG a all all.length) (all.map a.has)/\v=.tuple #[d,.bool true]))
theorem IB {l:Nat} {J:Act->World->Prop} {Q:Exit->Act->World->Prop} (h:Reg.NoQ Q):Reg.NoQ (Exit.jump l J Q):=⟨fun c a w x=>h.1 c a w x,fun a w x=>h.2 a w x⟩
theorem Lv {w w':World} {a:NF} {g2 g4 g6 g7 k i:Nat} {vN vA U:Value} {b:Bool} {all:List (List Bool)} (u:Nat->Value) (I:Blk w' g4 70 #[vN,vA]) (J:Below w.heap.size w w') (F:Br w' w'.heap.size (.agg #[vN,vA]) (BG a all i) (all.map a.has)) (M:b=decide (all.length<=k)) (G:i<all.length->k<all.length) (C:Exp a.L a.after a.st i all):
  bodyPost Tryz.prog Tryz.f49 (Ret fun r w'=>ID w a k r w') .ret ⟨List.toArray ((U)::(.int .i64 (k:Int))::(.pointer (some ⟨g2,0,none⟩))::u 3::(.pointer (some ⟨g4,0,none⟩))::(.bool b)::(.pointer (some ⟨g6,0,none⟩))::(.pointer (some ⟨g7,0,none⟩))::(.func (.func 95) #[] #[.pointer (some ⟨g6,0,none⟩),.pointer (some ⟨g7,0,none⟩),.pointer (some ⟨g4,0,none⟩),.pointer (some ⟨g2,0,none⟩)])::u 9::u 10::u 11::u 12::u 13::u 14::u 15::u 16::u 17::u 18::u 19::u 20::u 21::u 22::u 23::u 24::u 25::u 26::u 27::u 28::u 29::u 30::u 31::u 32::u 33::u 34::u 35::u 36::u 37::u 38::u 39::u 40::u 41::u 42::u 43::u 44::u 45::u 46::u 47::u 48::u 49::u 50::u 51::u 52::u 53::u 54::u 55::u 56::u 57::u 58::u 59::u 60::u 61::u 62::[]),[]⟩ w':=by
 have O:=I.cell;refine bodyPost_ret (v:=.tuple #[.agg #[vN,vA],.bool b]) (by simp [results,Tryz.results49,go_sem,O]) rfl ⟨J,_,⟨_,_,F⟩,?_⟩;subst M;by_cases E:all.length<=k
 ·refine .inr ⟨all,?_,E,?_,by rw [decide_eq_true E]⟩
  ·have:=C.inv.le;have:i=all.length:=by
    rcases Nat.lt_or_ge i all.length with h|h
    ·have:=G h;omega
    ·omega
   subst this;exact C
  ·have:=C.inv.le;have:i=all.length:=by
    rcases Nat.lt_or_ge i all.length with h|h
    ·have:=G h;omega
    ·omega
   subst this;exact F
 ·exact .inl ⟨⟨i,all,C,by omega⟩,by rw [decide_eq_false E]⟩
theorem Uo {c rest:Code} {P:Program} {Q:Exit->Act->World->Prop} {A:Act} {w:World} (F:(Nat->Value)->Act) (E:∃u,A=F u) (h:∀u,rest.wp P Q (F u) w) (C:c=rest):c.wp P Q A w:=by
 obtain⟨u,rfl⟩:=E;subst C;exact h u
theorem Tv {w:World} {v:Value} {a:NF} {k:Nat} (h:Cn w w.heap.size v a) (a3:a.OK) (hn:a.n<=200000) (hL:a.L<=8) (hk:k<=50000) (hT:BV w) (hs:a.start.length<=4000000)
  (an:∀m x,m.length=a.n->x<a.L->(a.cat (AJ m) x).length<=4000000):
  Calls Tryz.prog 49 #[v,.int .i64 (k:Int)] w (Ret fun r w'=>ID w a k r w'):=by
 have a9:=hide h;obtain⟨V,c1,W,c2,Z,c3,rfl,h1,h2,h3,h4⟩:=h;obtain⟨g2,g4,g6,g7,gm,I,w2,J,w4,M,w6,aw,ax,ay,az,aO,aP,aQ,aR,C,aS,aT,hM⟩:=Tu w a #[.int .i64 (a.L:Int),.slice V a.nx.length c1,.slice W a.start.length c2,.slice Z a.acc.length c3];subst aw ax ay az;have al:=hide hM;have aL:=C.frozen;have aN:=C.lt;have aK:=C.cell;have a2:=hM w6 (Below.refl _ _);have aJ:=a2.b2.cell;have ab:=a2.below;have aq:=GY (c:=c2) (h2.keep (B':=w.heap.size) (fun p hp=>ab.cell hp) (Nat.le_refl _)) hs;rw [Ti a3] at aq;have aG:∀U:World,Below w6.heap.size w6 U->∀r,U.ownsRow w.heap.size 3 1 r (AJ a.st).length ((AJ a.st).map (Value.int .i64))->Calls Tryz.prog 95 #[r,.pointer (some ⟨J.heap.size,0,none⟩),.pointer (some ⟨M.heap.size,0,none⟩),.pointer (some ⟨I.heap.size,0,none⟩),.pointer (some ⟨w.heap.size,0,none⟩)] U (Ret fun v w'=>∃vA' F E,BK w w' a w.heap.size I.heap.size J.heap.size M.heap.size gm #[.int .i64 (a.L:Int),.slice V a.nx.length c1,.slice W a.start.length c2,.slice Z a.acc.length c3] sn0 vA' F [a.st] [] E [] (fun _=>True)):=fun U O r hr=>by
  refine Calls.ret (Lt (al.out U O) a9.out a3.acc a.st_len hr (fun _ _=>trivial) hn (by simp) (hT.below (al.out U O).below)) ?_;rintro v w' ⟨-,vA',F,E,hS,-⟩;exact⟨vA',F,E,hS⟩
 have aF:=ab.size;have aM:=a2.b2.lt;have am:=hide hT;clear hM a2 h1 h2 h3 h4 hs C ab hT;go_enter Tryz.func49,Tryz.ntmps49;go_wp2_with fail;refine wp_scope_jumps (rest:=JQ Tryz.f49 0) 0 (fun a' w'=>∃(u:Nat->Value) (va:Value) (i:Nat) (all:List (List Bool)) (vN vA vS:Value) (us ws:List Value),i<=k/\Gm w w' a w.heap.size I.heap.size J.heap.size M.heap.size gm #[.int .i64 (a.L:Int),.slice V a.nx.length c1,.slice W a.start.length c2,.slice Z a.acc.length c3] i all vN vA vS us ws/\a'=⟨List.toArray ((va)::(.int .i64 (k:Int))::(.pointer (some ⟨w.heap.size,0,none⟩))::u 3::(.pointer (some ⟨I.heap.size,0,none⟩))::(.bool false)::(.pointer (some ⟨J.heap.size,0,none⟩))::(.pointer (some ⟨M.heap.size,0,none⟩))::(.func (.func 95) #[] #[.pointer (some ⟨J.heap.size,0,none⟩),.pointer (some ⟨M.heap.size,0,none⟩),.pointer (some ⟨I.heap.size,0,none⟩),.pointer (some ⟨w.heap.size,0,none⟩)])::(.int .i64 (i:Int))::u 10::u 11::u 12::u 13::u 14::u 15::u 16::u 17::u 18::u 19::u 20::u 21::u 22::u 23::u 24::u 25::u 26::u 27::u 28::u 29::u 30::u 31::u 32::u 33::u 34::u 35::u 36::u 37::u 38::u 39::u 40::u 41::u 42::u 43::u 44::u 45::u 46::u 47::u 48::u 49::u 50::u 51::u 52::u 53::u 54::u 55::u 56::u 57::u 58::u 59::u 60::u 61::u 62::[]),[]⟩) (fun a' _=>k+1 - (intOf (a'.tmps.getD 9 undef)).toNat) (by kernel_rfl) ?_ ?_
 ·go_wp2_with fail;refine Calls.ret aq ?_;rintro r w7 ⟨aE,av⟩;go_wp2_with fail;refine Calls.ret (aG w7 av r (DC aE aF)) ?_;rintro v w8 ⟨vA',F,E,hS⟩;go_wp2_with fail;go_step3;rename_i hK;refine hK _ _ ?_;refine Uo (rest:=JR Tryz.f49 0) (fun u=>⟨List.toArray ((.agg #[.int .i64 (a.L:Int),.slice V a.nx.length c1,.slice W a.start.length c2,.slice Z a.acc.length c3])::(.int .i64 (k:Int))::(.pointer (some ⟨w.heap.size,0,none⟩))::u 3::(.pointer (some ⟨I.heap.size,0,none⟩))::(.bool false)::(.pointer (some ⟨J.heap.size,0,none⟩))::(.pointer (some ⟨M.heap.size,0,none⟩))::(.func (.func 95) #[] #[.pointer (some ⟨J.heap.size,0,none⟩),.pointer (some ⟨M.heap.size,0,none⟩),.pointer (some ⟨I.heap.size,0,none⟩),.pointer (some ⟨w.heap.size,0,none⟩)])::(.int .i64 ((0:Nat):Int))::u 10::u 11::u 12::u 13::u 14::u 15::u 16::u 17::u 18::u 19::u 20::u 21::u 22::u 23::u 24::u 25::u 26::u 27::u 28::u 29::u 30::u 31::u 32::u 33::u 34::u 35::u 36::u 37::u 38::u 39::u 40::u 41::u 42::u 43::u 44::u 45::u 46::u 47::u 48::u 49::u 50::u 51::u 52::u 53::u 54::u 55::u 56::u 57::u 58::u 59::u 60::u 61::u 62::[]),[]⟩) (Gf _ _ rfl) ?_ (by kernel_rfl);intro u;refine Lw (i:=0) (all:=[a.st]) u (hI:=⟨hS,.start⟩) a9.out a3 hn hL hk (Nat.zero_le _) am.out an ?_ ?_ ?_
  ·exact IB (Reg.NoQ.body (fun _ _ h=>h) (fun _ h=>h))
  ·rintro ac w2 a4 vN' vA' F E ai aB a7 ⟨G,rfl⟩;exact⟨rfl,G,_,1,a4,vN',vA',F,E,ai,by omega,a7,rfl⟩
  ·rintro ac w2 vN' vA' b C O a5 ad ae hE ⟨G,rfl⟩;exact Lv G C O a5 ad ae hE
 ·rintro a' w' ⟨u,va,i,all,vN,vA,vS,us,ws,aA,hI,rfl⟩;refine wp_seq (wp_skip (show Exit.then _ _ .normal _ _ from ?_));refine Lw u hI a9.out a3 hn hL hk aA am.out an ?_ ?_ ?_
  ·exact IB (Reg.NoQ.body (fun _ _ h=>h) (fun _ h=>h))
  ·rintro ac w2 a4 vN' vA' F E ai aB a7 ⟨G,rfl⟩;exact⟨rfl,⟨G,va,i+1,a4,vN',vA',F,E,ai,by omega,a7,rfl⟩,by simp [intOf];omega⟩
  ·rintro ac w2 vN' vA' b C O a5 ad ae hE ⟨G,rfl⟩;exact Lv G C O a5 ad ae hE
end Go.Proofs.YtjejejmeddkciaaGreatDoor
namespace Go.Proofs
open Go.Shelf
def Tryz.lays107_ren:Go.Shelf.Ren:=⟨fun|107=>75|108=>134|n=>n,fun|28=>24|3=>3|4=>4|0=>0|n=>n,fun|n=>n⟩
theorem Tryz.lays107:Go.Proofs.Lays.n107 Tryz.prog Tryz.lays107_ren:={
 mixed:=by kernel_rfl
 f107:=Tryz.func75.trans (congrArg some (by kernel_rfl))
 f108:=Tryz.func134.trans (congrArg some (by kernel_rfl))
 t0:=Tryz.underlying0
 a0:=Tryz.isAgg0
 z0:=Tryz.sizeOf0
 v0:=Tryz.zeroValue0
 t3:=Tryz.underlying3
 a3:=Tryz.isAgg3
 z3:=Tryz.sizeOf3
 v3:=Tryz.zeroValue3
 t4:=Tryz.underlying4
 a4:=Tryz.isAgg4
 z4:=Tryz.sizeOf4
 v4:=Tryz.zeroValue4
 t28:=Tryz.underlying24
 a28:=Tryz.isAgg24
 z28:=Tryz.sizeOf24
 v28:=Tryz.zeroValue24 }
open Go.Lib in
theorem Tryz.slices_Contains_int (b off n c:Nat) (h:List Int) (x:Int) (w:World) (F:n<=h.length) (C:n<=9223372036854775807) (E:∀j,j<h.length->w.cell? ⟨b,off+j,none⟩=some (.int .i64 (h.getD j 0))):
  Calls Tryz.prog 75 #[.slice (some ⟨b,off,none⟩) n c,.int .i64 x] w fun e w'=>e=.returned (.bool ((h.take n).contains x))/\w'=w:=Any.slices_Contains_int Tryz.lays107 b off n c h x w F C E
end Go.Proofs
namespace Go.Proofs.YtjejejmeddkciaaGreatDoor
open Go.RowKit
set_option maxHeartbeats 16000000
set_option maxRecDepth 100000
section
variable {S:Type} [DecidableEq S]
def dd (l:List S):List S:=l.foldl Bs []
theorem Eo (l:List S) (a:S):dd (l++[a])=Bs (dd l) a:=by simp [dd,List.foldl_append]
theorem Q7 {l:List S} {a b:S}:a∈Bs l b↔a∈l\/a=b:=by
 unfold Bs;split
 ·constructor
  ·exact .inl
  ·rintro(h|rfl)
   ·exact h
   ·assumption
 ·simp
theorem Ri {l:List S} (h:l.Nodup) (a:S):(Bs l a).Nodup:=by
 unfold Bs;split
 ·exact h
 ·rename_i hn;exact List.nodup_append.2 ⟨h,by simp,fun x E y C e=>hn (by rw [List.mem_singleton] at C;rw [<-C,<-e];exact E)⟩
theorem Nh (p:List S->Prop) (h0:p []) (C:∀l a,p l->p (Bs l a)) (l:List S):p (dd l):=by
 have:∀(l k:List S),p k->p (l.foldl Bs k):=by
  intro l
  induction l with
  | nil=>exact fun _ h=>h
  | cons a l ih=>exact fun k h=>ih _ (C _ _ h)
 exact this l [] h0
theorem Rh (l:List S):(dd l).Nodup:=Nh List.Nodup List.nodup_nil (fun _ a h=>Ri h a) l
theorem EJ {l:List S} {a:S}:a∈dd l↔a∈l:=by
 have:∀(l k:List S),a∈l.foldl Bs k↔a∈k\/a∈l:=by
  intro l
  induction l with
  | nil=>simp
  | cons b l ih=>
   intro k;rw [List.foldl_cons,ih,Q7,List.mem_cons,or_assoc]
 exact(this l []).trans (by simp)
theorem Kr {l:List S} {a:S} (h:a∈l):Ax l a<l.length:=List.idxOf_lt_length_of_mem h
theorem Kq {l:List S} {a:S} (h:a∈l):l[Ax l a]?=some a:=FS h
theorem Rz {l:List S} {a b:S} (C:a∈l) (E:b∈l) (h:Ax l a=Ax l b):a=b:=by
 have h1:=Kq C;rw [h,Kq E] at h1;exact(Option.some.inj h1).symm
theorem Ry {l:List S} (h:l.Nodup) {i:Nat} {a:S} (C:l[i]?=some a):Ax l a=i:=HO h C
def BD (l:List S):List Nat:=l.map (Ax (dd l))
theorem DN (l:List S):(BD l).length=l.length:=by simp [BD]
theorem I2 (l:List S) (a:S):BD (l++[a])=BD l++[Ax (Bs (dd l) a) a]:=by
 unfold BD;rw [List.map_append,Eo];congr 1;exact List.map_congr_left fun x h=>ET (F6 _ _) (EJ.2 h)
theorem I0 {l:List S} {i:Nat} {a:S} (h:l[i]?=some a):(BD l).getD i 0=Ax (dd l) a:=getD_some (AX h)
theorem IZ {l:List S} {i j:Nat} {a b:S} (C:l[i]?=some a) (E:l[j]?=some b):(BD l).getD i 0=(BD l).getD j 0↔a=b:=by
 rw [I0 C,I0 E];exact⟨Rz (EJ.2 (List.mem_of_getElem? C)) (EJ.2 (List.mem_of_getElem? E)),fun h=>by rw [h]⟩
theorem I1 {l:List S} {v:Nat}:v∈BD l↔v<(dd l).length:=by
 unfold BD;rw [List.mem_map];constructor
 ·rintro⟨a,C,rfl⟩;exact Kr (EJ.2 C)
 ·intro h;obtain⟨a,C⟩:=An h;exact⟨a,EJ.1 (List.mem_of_getElem? C),Ry (Rh l) C⟩
theorem BU.of_keys {L n r:Nat} {nx:Nat->Nat->Nat} {acc:Nat->Bool} {ks:List S} (F:ks.length=n) (h:∀i j x y,ks[i]?=some x->ks[j]?=some y->(x=y↔EqW L nx acc r i j)):BU L n nx acc r (BD ks) (dd ks).length:=by
 refine⟨by rw [DN,F],fun i j G I=>?_,fun v=>I1⟩;obtain⟨x,C⟩:=An (l:=ks) (i:=i) (by omega);obtain⟨y,E⟩:=An (l:=ks) (i:=j) (by omega);rw [IZ C E];exact h i j x y C E
end
theorem Rp (L:Nat) (nx:Nat->Nat->Nat) (ac:List Bool):BU L ac.length nx (dac ac) 0 (BD ac) (dd ac).length:=by
 refine BU.of_keys rfl fun i j x y h C=>?_;show x=y↔dac ac i=dac ac j
 unfold dac;rw [getD_some h,getD_some C]
def Ep (L:Nat) (nx:Nat->Nat->Nat) (cl:List Nat) (q:Nat):List Nat:=cl.getD q 0::(List.range L).map fun x=>cl.getD (nx q x) 0
theorem Th {L n r cnt:Nat} {nx:Nat->Nat->Nat} {acc:Nat->Bool} {cl:List Nat} (I:∀q x,q<n->x<L->nx q x<n) (h:BU L n nx acc r cl cnt):BU L n nx acc (r+1) (BD ((List.range n).map (Ep L nx cl))) (dd ((List.range n).map (Ep L nx cl))).length:=by
 refine BU.of_keys (by simp) fun i j x y F G=>?_;have C:i<n:=by simpa using AP F
 have E:j<n:=by simpa using AP G
 rw [AX (List.getElem?_range C)] at F;rw [AX (List.getElem?_range E)] at G;have ex:=Option.some.inj F;have M:=Option.some.inj G;subst ex M;unfold Ep;rw [List.cons.injEq,h.iff i j C E];show _↔EqW L nx acc r i j/\∀z,z<L->EqW L nx acc r (nx i z) (nx j z)
 refine and_congr_right fun _=>?_;rw [List.map_inj_left];simp only [List.mem_range];exact forall_congr' fun z=>forall_congr' fun J=>h.iff _ _ (I i z C J) (I j z E J)
def CR (n:Nat):Value:=.int .i64 (n:Int)
def Bm (L:Nat) (row:List Nat):Array Value:=(row.map CR++List.replicate (L - row.length) (Value.int .i64 0)).toArray
theorem Fi {L:Nat} {row:List Nat} (h:row.length<L) (e:Nat):(Bm L row).setIfInBounds row.length (.int .i64 e)=Bm L (row++[e]):=by
 have C:List.replicate (L - row.length) (Value.int .i64 0)=.int .i64 0::List.replicate (L - (row.length+1)) (.int .i64 0):=by
  rw [<-List.replicate_succ];congr 1;omega
 unfold Bm;rw [C];simp [CR]
theorem Fh {L:Nat} {row:List Nat} (h:row.length<L):(Bm L row)[row.length]?=some (.int .i64 0):=by
 unfold Bm;simp;rw [List.getElem?_append_right (by simp),List.getElem?_replicate];simp;omega
theorem Gw (L:Nat):Array.replicate L (Value.int .i64 0)=Bm L []:=by
 apply Array.ext';simp [Bm]
theorem PW {w:World} {base g L:Nat} {row:List Nat} (h:Blk w g 3 (Bm L row)) (G:row.length=L) (F:base<=g) (E:L<=4000000):w.ownsRow base 3 1 (.slice (some ⟨g,0,none⟩) L L) L ((Ak row).map (Value.int .i64)):=by
 have h1:=DD (n:=L) h F (by simp [Bm];omega) E;have C:(Bm L row).toList=(Ak row).map (Value.int .i64):=by simp [Bm,G,Ak,CR]
 rwa [C] at h1
theorem Jr {w:World} {g L:Nat} {row:List Nat} (h:Blk w g 3 (Bm L row)) (C:row.length=L) (F:L<=4000000):Sl w w.heap.size 1 Ai (some ⟨g,0,none⟩) (Ak row):=by
 have ho:=PW (base:=0) h C (Nat.zero_le _) F;obtain⟨A,c,e,hS⟩:=B8 ho (by simp [Ak,C]) (Nat.le_refl _) (by omega);injection e with E G I
 subst E;exact hS
theorem Ex {w:World} {B:Nat} {A:Option Addr} {l:List Nat} (h:Sl w B 1 Ai A (Ak l)) {i x:Nat} (E:l[i]?=some x):∃b off,A=some ⟨b,off,none⟩/\b<B/\w.cell? ⟨b,off+i,none⟩=some (.int .i64 (x:Int)):=by
 obtain⟨b,off,e,F,G⟩:=h.2 (by
  intro e;have:=AP E;have C:(Ak l).length=l.length:=by simp [Ak]
  rw [e] at C;simp at C;omega)
 have:=G i (x:Int) (AX E) 0 (by omega);exact⟨b,off,e,F,by simpa [Ai] using this⟩
theorem Fy {w:World} {B:Nat} {A:Option Addr} {l:List Bool} (h:Sl w B 1 DH A l) {i:Nat} {x:Bool} (C:l[i]?=some x):∃b off,A=some ⟨b,off,none⟩/\b<B/\w.cell? ⟨b,off+i,none⟩=some (.bool x):=by
 obtain⟨b,off,e,E,F⟩:=h.2 (by
  intro e;have:=AP C;rw [e] at this;simp at this)
 have:=F i x C 0 (by omega);exact⟨b,off,e,E,by simpa [DH] using this⟩
theorem PY (s:Bool) (es:List MapEntry):∀(l:List Bool) (i:Nat),es.map (·.key)=l.map Value.bool->
  Instr.findNow .bool (.bool s) es i=some (if s∈l then some (i+l.idxOf s,((es[l.idxOf s]?).map (·.val)).getD .nilFunc) else none):=by
 induction es with
 | nil=>
  intro l i h;have:l=[]:=by cases l <;> simp_all
  subst this;simp [Instr.findNow]
 | cons e es ih=>
  intro l i h;cases l with
  | nil=>simp at h
  | cons t l=>
   simp only [List.map_cons,List.cons.injEq] at h;obtain⟨h1,F⟩:=h;unfold Instr.findNow;rw [h1];simp only [Instr.sameNow];by_cases C:s=t
   ·subst C;simp
   ·have I:(s==t)=false:=by simpa using C
    rw [I];dsimp only;rw [ih l (i+1) F];have G:(t::l).idxOf s=l.idxOf s+1:=by
     rw [List.idxOf_cons];have:(t==s)=false:=by simpa using fun e=>C e.symm
     rw [this];rfl
    by_cases E:s∈l
    ·simp only [E,G,List.mem_cons,or_true,if_true,List.getElem?_cons_succ,Option.some.injEq,Prod.mk.injEq,and_true];omega
    ·simp [E,C]
theorem Gy:El Tryz.prog 4 Value.bool where
 check:=fun C w s=>by
  rw [show(10000:Nat)=9999+1 from rfl];unfold Instr.checkKey;simp [run_underlying Tryz.underlying4]
 find:=fun w s es l h=>by
  unfold Instr.findKey;simp only [Sem.run_bind,run_underlying Tryz.underlying4,Result.andThen_ok];rw [PY s es l 0 h];simp
theorem KV {S:Type} [DecidableEq S] {P:Program} {K:TypeId} {enc:S->Value} (C:El P K enc) {T E:TypeId} (M:P.underlying T=some (.map K E)) {w:World} {g:Nat} {l:List S}
  (h:Bw w g (l.map enc)) {s:S} (F:s∈l):
  (Instr.lookup T (.map (some g)) (enc s) false).run P w=.ok (.int .i64 (Ax l s:Int)) w:=by
 obtain⟨es,G,h1,I,J⟩:=h;have U:(getObj g).run P w=.ok (.map es G) w:=by simp [getObj,Sem.run,h1]
 have O:=C.find w s es.toList l I;unfold Instr.lookup;simp only [Sem.run_bind,run_underlying M,Result.andThen_ok,U,Sem.run_pure,C.check,O];simp only [F,if_true];rw [JE J (by rw [List.length_map];exact List.idxOf_lt_length_of_mem F)];rfl
theorem GS {P:Program} {T K E ty:TypeId} (G:P.underlying T=some (.map K E)) {w:World} {g:Nat} {ks:List Value} (h:Bw w g ks):
  (Builtin.len_ #[T] ty #[.map (some g)]).run P w=.ok (.int .i64 (ks.length:Int)) w:=by
 obtain⟨es,C,h1,F,M⟩:=h;have I:(getObj g).run P w=.ok (.map es C) w:=by simp [getObj,Sem.run,h1]
 have J:es.size=ks.length:=by rw [<-F];simp
 simp [Builtin.len_,run_underlying G,I,goInt,J]
theorem I9 {S:Type} [DecidableEq S] {enc:S->Value} {w:World} {gm gr n k:Nat} {l:List S} {a:S} {d:List S} (E:dd (l++[a])=d) (h:Bw w gm (d.map enc)) (C:Blk w gr 3 (Bm n (BD l))) (J:l.length=k) (M:k<n):
  Bw (w.setCell ⟨gr,k,none⟩ (.int .i64 (Ax d a:Int))) gm ((dd (l++[a])).map enc)/\Blk (w.setCell ⟨gr,k,none⟩ (.int .i64 (Ax d a:Int))) gr 3 (Bm n (BD (l++[a])))/\Ac w (w.setCell ⟨gr,k,none⟩ (.int .i64 (Ax d a:Int))) (fun b=>b=gr):=by
 have F:=(Ac.refl w (fun b=>b=gr)).setCell (p:=⟨gr,k,none⟩) (fun _=>rfl) (.int .i64 (Ax d a:Int));refine⟨?_,?_,F⟩
 ·rw [E];exact h.kept F fun e=>BT C h e.symm
 ·have h1:=C.set_ k (.int .i64 (Ax d a:Int));have G:(BD l).length=k:=by rw [DN,J]
  have I:Ax (Bs (dd l) a) a=Ax d a:=by rw [<-E,Eo]
  rw [I2,I,<-Fi (by omega),G];exact h1
theorem Ro {w:World} {v:Value} {t:List (List Nat)} {ac:List Bool} (h:Br w w.heap.size v t ac) (hl:ac.length<=250000):
  Calls Tryz.prog 97 #[v] w (Ret fun r w'=>Below w.heap.size w w'/\∃A c,r=.tuple #[.slice A ac.length c,.int .i64 ((dd ac).length:Int)]/\Sl w' w'.heap.size 1 Ai A (Ak (BD ac))):=by
 obtain⟨A1,c1,A2,c2,rfl,h1,h2⟩:=h;obtain⟨w1,aO,a6,aj,aG⟩:=Ae w #[.slice A1 t.length c1,.slice A2 ac.length c2] 70;obtain⟨gr,w2,aK,a7,a2,aF⟩:=Et w1 ac.length (by omega);obtain⟨gm,w3,b4,aq,a3,aE⟩:=F1 237 w2;rw [Gw] at a7;have aB:=aj.cell;have aC:=((aj.below a2).below a3).cell;have aL:=a6.size;have b6:=a2.size;have az:Below w.heap.size w w3:=a6.trans ((a2.mono aL).trans (a3.mono (by omega)));have ay:=hide (show Bw w3 gm ((dd (ac.take 0)).map Value.bool) from aq);have am:=hide (show Blk w3 gr 3 (Bm ac.length (BD (ac.take 0))) from a7.below a3);obtain⟨n,hn⟩:∃n,n=ac.length:=⟨_,rfl⟩;have ar:=hide hn;have b5:n<=250000:=by omega
 have ax:=hide h2;rw [<-hn] at aK aB aC aO am ⊢;have aW:w.heap.size<=gr:=by omega
 have aV:w.heap.size<=gm:=by omega
 clear aq a7 aG h1 h2 hn aF aE a6 a2 a3;go_enter Tryz.func97,Tryz.ntmps97;go_wp2_with fail;go_loopw [18] (fun ii wr=>∃k:Nat,ii=.int .i64 (k:Int)/\k<=n/\Below w.heap.size w wr/\Hid (Bw wr gm ((dd (ac.take k)).map Value.bool))/\Hid (Blk wr gr 3 (Bm n (BD (ac.take k))))) (fun ii _=>n - (intOf ii).toNat)
 case atStart=>exact⟨0,rfl,Nat.zero_le _,az,ay,am⟩
 case round=>
  obtain⟨k,rfl,hk,M,hM,hR⟩:=hrel;by_cases aa:k<n
  ·have W:=ar.out;obtain⟨b,G⟩:=An (l:=ac) (i:=k) (by omega);obtain⟨blk,off,rfl,aA,a8⟩:=Fy ax.out G;have aR:wr.cell? ⟨blk,off+k,none⟩=some (.bool b):=(M.cell aA).trans a8;have au:=hide (B5 G);have O:(ac.take k).length=k:=by rw [List.length_take];omega
   have ap:((dd (ac.take k)).map Value.bool).length=(dd (ac.take k)).length:=by simp
   have E:=hM.out;have C:=hR.out;have ao:=Ft Gy Tryz.underlying237 Fa E b;have aD:wr.cell? ⟨gr,k,none⟩=some (.int .i64 0):=by
    rw [C.cell];have:=Fh (L:=n) (row:=BD (ac.take k)) (by rw [DN,O];exact aa)
    rwa [DN,O] at this
   have aT:=C.frozen k;have aZ:=C.lt;by_cases F:b∈dd (ac.take k)
   ·have U:dd (ac.take k++[b])=dd (ac.take k):=by rw [Eo];exact F0 F
    have aJ:=KV Gy Tryz.underlying237 E F;simp only [F,if_true,decide_true] at ao;obtain⟨I,J,V⟩:=I9 U E C O aa;rw [<-au.out] at I J;have ab:=hide I;have af:=hide J;have a4:=M.trans (V.below M.size fun b G e=>by omega);clear I J F E C U G a8 W O ap V;go_wp2_with fail;exact⟨⟨k+1,by go_num,by omega,a4,ab,af⟩,by simp [intOf];omega⟩
   ·have U:dd (ac.take k++[b])=dd (ac.take k)++[b]:=by rw [Eo];exact FZ F
    simp only [F,if_false,decide_false] at ao;obtain⟨w4,b7,ad,an,aM⟩:=EY Gy Tryz.underlying237 E b F;have aH:∀ty,(Builtin.len_ #[237] ty #[.map (some gm)]).run Tryz.prog wr=.ok (.int .i64 ((dd (ac.take k)).length:Int)) wr:=fun ty=>by
     have:=GS (ty:=ty) Tryz.underlying237 E;simpa using this
    have a9:=Ac.of_grown an;have Z:=C.kept a9 (fun e=>BT C E (Option.some.inj e).symm);have aJ:=KV Gy Tryz.underlying237 ad (s:=b) (by simp);have aS:w4.cell? ⟨gr,k,none⟩=some (.int .i64 0):=by rw [Z.cell,<-C.cell,aD]
    have aU:=Z.frozen k;have b0:=Z.lt;obtain⟨I,J,V⟩:=I9 U ad Z O aa;rw [<-au.out] at I J;have ab:=hide I;have af:=hide J;have ak:=M.trans (a9.below M.size fun b G e=>by have:=Option.some.inj e;omega);have a4:=ak.trans (V.below ak.size fun b G e=>by omega);clear I J F E C U G a8 W O ap ad an aM a9 Z V;go_wp2_with fail;exact⟨⟨k+1,by go_num,by omega,a4,ab,af⟩,by simp [intOf];omega⟩
  ·obtain rfl:k=n:=by omega
   have E:=hM.out;have C:=hR.out;have aH:∀ty,(Builtin.len_ #[237] ty #[.map (some gm)]).run Tryz.prog wr=.ok (.int .i64 ((dd (ac.take k)).length:Int)) wr:=fun ty=>by
    have:=GS (ty:=ty) Tryz.underlying237 E;simpa using this
   clear E C;go_wp2_with fail
   go_ret2
   have W:=ar.out;have aN:ac.take k=ac:=by rw [W,List.take_length]
   have C:=hR.out;rw [aN] at C ⊢;exact⟨M,_,_,rfl,Jr C (by rw [DN,W]) (by omega)⟩
end Go.Proofs.YtjejejmeddkciaaGreatDoor
namespace Go.Proofs.YtjejejmeddkciaaGreatDoor
open Go.RowKit
set_option maxHeartbeats 16000000
set_option maxRecDepth 100000
theorem Ja {S:Type} [DecidableEq S] {enc:S->Value} {w:World} {gm gr n k:Nat} {l:List S} {a:S} {d:List S} {u:Value} (E:dd (l++[a])=d) (h:Bw w gm (d.map enc)) (C:Blk w gr 3 ((Bm n (BD l)).setIfInBounds k u)) (J:l.length=k) (M:k<n):
  Bw (w.setCell ⟨gr,k,none⟩ (.int .i64 (Ax d a:Int))) gm ((dd (l++[a])).map enc)/\Blk (w.setCell ⟨gr,k,none⟩ (.int .i64 (Ax d a:Int))) gr 3 (Bm n (BD (l++[a])))/\Ac w (w.setCell ⟨gr,k,none⟩ (.int .i64 (Ax d a:Int))) (fun b=>b=gr):=by
 have F:=(Ac.refl w (fun b=>b=gr)).setCell (p:=⟨gr,k,none⟩) (fun _=>rfl) (.int .i64 (Ax d a:Int));refine⟨?_,?_,F⟩
 ·rw [E];exact h.kept F fun e=>BT C h e.symm
 ·have h1:=C.set_ k (.int .i64 (Ax d a:Int));have G:(BD l).length=k:=by rw [DN,J]
  have I:Ax (Bs (dd l) a) a=Ax d a:=by rw [<-E,Eo]
  rw [Array.setIfInBounds_setIfInBounds] at h1;rw [I2,I,<-Fi (by omega),G];exact h1
theorem Gt {w:World} {B:Nat} {A:Option Addr} {L:Nat} {t:List (List Nat)} {ac:List Bool} (h:VSl R1n w B A t) (G:DOK L t ac) {q:Nat} (Z:q<ac.length):
  ∃b off E O row,A=some ⟨b,off,none⟩/\b<B/\w.cell? ⟨b,off+q,none⟩=some (.slice E L O)/\t[q]?=some row/\row.length=L/\Sl w B 1 Ai E (Ak row)/\(∀x y,row[x]?=some y->y<ac.length/\dnx t q x=y):=by
 obtain⟨row,C⟩:=An (l:=t) (i:=q) (by rw [G.len];exact Z);obtain⟨F,hy⟩:=G.row row (List.mem_of_getElem? C);obtain⟨b,off,e,V,W⟩:=h.2 (by intro e;subst e;simp at C);obtain⟨v,I,M,c',rfl,hS⟩:=W q row C;have U:(Ak row).length=L:=by simp [Ak,F]
 rw [U] at I;refine⟨b,off,M,c',row,e,V,I,C,F,hS,fun x y J=>⟨hy y (List.mem_of_getElem? J),?_⟩⟩;unfold dnx;rw [getD_some C,getD_some J]
theorem Im {w:World} {B b off:Nat} {l:List Nat} (h:Sl w B 1 Ai (some ⟨b,off,none⟩) (Ak l)) {i x:Nat} (F:l[i]?=some x):b<B/\w.cell? ⟨b,off+i,none⟩=some (.int .i64 (x:Int)):=by
 obtain⟨G,I,e,C,E⟩:=Ex h F;cases e;exact⟨C,E⟩
theorem Rq {w:World} {base n:Nat} {v:Value} {l:List Nat} (h:w.ownsRow base 3 1 v n ((Ak l).map (Value.int .i64))) (G:l.length=n) (h0:0<n) (O:n<=4000000):
  ∃g c,v=.slice (some ⟨g,0,none⟩) n c/\Sl w w.heap.size 1 Ai (some ⟨g,0,none⟩) (Ak l)/\∀j,j<(Ak l).length->w.cell? ⟨g,0+j,none⟩=some (.int .i64 ((Ak l).getD j 0)):=by
 obtain⟨x,I⟩:=An (l:=l) (i:=0) (by omega);obtain⟨g,c,rfl,-⟩:=C7 h (AX (f:=Value.int .i64) (AX (f:=fun x:Nat=>(x:Int)) I));obtain⟨A,c',e,hS⟩:=B8 h (by simp [Ak,G]) (Nat.le_refl _) (by omega);injection e with E F J
 subst E;refine⟨g,c,rfl,hS,fun j M=>?_⟩;have F:(Ak l).length=l.length:=by simp [Ak]
 obtain⟨y,C⟩:=An (l:=l) (i:=j) (by omega);rw [(Im hS C).2,show(Ak l).getD j 0=(y:Int) from getD_some (AX (f:=fun x:Nat=>(x:Int)) C)]
def Df (cl row:List Nat) (q j:Nat):List Nat:=cl.getD q 0::(row.take j).map fun y=>cl.getD y 0
theorem QF {L:Nat} {t:List (List Nat)} {cl row:List Nat} {q:Nat} (F:row.length=L) (E:∀x y,row[x]?=some y->dnx t q x=y):Df cl row q L=Ep L (dnx t) cl q:=by
 unfold Df Ep;congr 1;apply List.ext_getElem?;intro i;rw [List.getElem?_map,List.getElem?_map,List.getElem?_take];by_cases h:i<L
 ·obtain⟨y,C⟩:=An (l:=row) (i:=i) (by omega);rw [if_pos h,C,List.getElem?_range h];simp only [Option.map_some];rw [E i y C]
 ·rw [if_neg h,List.getElem?_eq_none (by simp;omega)];rfl
theorem QG {cl row:List Nat} {q j:Nat} (h:j<=row.length):(Df cl row q j).length=j+1:=by
 simp [Df];omega
theorem QH {cl row:List Nat} {q j y:Nat} (h:row[j]?=some y):Df cl row q (j+1)=Df cl row q j++[cl.getD y 0]:=by
 unfold Df;rw [B5 h];simp
theorem EM (l:List Nat) (x:Nat):Ak (l++[x])=Ak l++[(x:Int)]:=by simp [Ak]
theorem Tf {w:World} {v:Value} {L c B:Nat} {A:Option Addr} {t:List (List Nat)} {ac:List Bool} {cl:List Nat} (h:Br w w.heap.size v t ac) (aS:DOK L t ac) (bo:Sl w B 1 Ai A (Ak cl)) (hB:B<=w.heap.size) (d9:cl.length=ac.length) (hv:∀x∈cl,x<250000) (hL:L<=8) (hn:ac.length<=250000) (hT:BV w):
  Calls Tryz.prog 98 #[v,.slice A ac.length c] w (Ret fun r w'=>Below w.heap.size w w'/\∃A' c',r=.tuple #[.slice A' ac.length c',.int .i64 ((dd ((List.range ac.length).map (Ep L (dnx t) cl))).length:Int)]/\Sl w' w'.heap.size 1 Ai A' (Ak (BD ((List.range ac.length).map (Ep L (dnx t) cl))))):=by
 obtain⟨A1,c1,A2,c2,rfl,h1,h2⟩:=h;obtain⟨w1,bL,aH,ax,ch⟩:=Ae w #[.slice A1 t.length c1,.slice A2 ac.length c2] 70;obtain⟨gm,w2,de,aQ,al,ce⟩:=F1 175 w1;obtain⟨gr,w3,co,aJ,am,cf⟩:=Et w2 ac.length (by omega);rw [Gw] at aJ;have cx:=aH.size;have dh:=al.size;have c7:Below w.heap.size w w3:=aH.trans ((al.mono cx).trans (am.mono (by omega)));obtain⟨ks,aq⟩:∃ks,ks=(List.range ac.length).map (Ep L (dnx t) cl):=⟨_,rfl⟩;rw [<-aq];have bw:ks.length=ac.length:=by rw [aq];simp
 have bY:=hide (show Bw w3 gm ((dd (ks.take 0)).map Dq) from aQ.keep (am.block _ aQ.lt));have bh:=hide (show Blk w3 gr 3 (Bm ac.length (BD (ks.take 0))) from aJ);have aA:=hide ((ax.below al).below am);have bI:=aS.len;rw [bI] at bL aA ⊢;obtain⟨n,aR⟩:∃n,n=ac.length:=⟨_,rfl⟩;have ar:=hide aR;have dg:n<=250000:=by omega
 have bW:=hide h1;have ct:=hide aS;have bp:=hide bo;have cm:=hide aq;have aO:=hide bw;have c6:=hide hT;have d4:=ax.lt;rw [<-aR] at co bL bh aA ⊢;have d6:w.heap.size<gr:=by omega
 have d5:w.heap.size<=gm:=by omega
 clear aQ aJ ch h1 h2 aR cf ce aH al am aS bo aq hT bI ax hn bw;go_enter Tryz.func98,Tryz.ntmps98;go_wp2_with fail;go_loopw [21] (fun ii wr=>∃k:Nat,ii=.int .i64 (k:Int)/\k<=n/\Below w.heap.size w wr/\Hid (Blk wr w.heap.size 70 #[.slice A1 n c1,.slice A2 n c2])/\Hid (Bw wr gm ((dd (ks.take k)).map Dq))/\Hid (Blk wr gr 3 (Bm n (BD (ks.take k))))) (fun ii _=>n - (intOf ii).toNat)
 case atStart=>exact⟨0,rfl,Nat.zero_le _,c7,aA,bY,bh⟩
 case round=>
  obtain⟨k,rfl,hk,az,hD,hM,hR⟩:=hrel;by_cases aN:k<n
  ·have a2:=ar.out;obtain⟨x,G⟩:=An (l:=cl) (i:=k) (by omega);obtain⟨bc,oc,rfl,cR,bl⟩:=Ex bp.out G;have ad:(ks.take k).length=k:=by rw [List.length_take,aO.out];omega
   have aE:=hD.out;have a6:=hM.out;have J:=hR.out;have cW:wr.cell? ⟨gr,k,none⟩=some (.int .i64 0):=by
    rw [J.cell];have:=Fh (L:=n) (row:=BD (ks.take k)) (by rw [DN,ad];exact aN)
    rwa [DN,ad] at this
   have d0:=J.frozen k;have da:=J.lt;obtain⟨C,bM⟩:∃C,wr.setCell ⟨gr,k,none⟩ (.int .i64 (-1))=C:=⟨_,rfl⟩;have an:Ac wr C (fun b=>b=gr):=by rw [<-bM];exact(Ac.refl wr (fun b=>b=gr)).setCell (p:=⟨gr,k,none⟩) (fun _=>rfl) _
   have bi:Blk C gr 3 ((Bm n (BD (ks.take k))).setIfInBounds k (.int .i64 (-1))):=by rw [<-bM];exact J.set_ k _
   have bd:=a6.kept an fun e=>BT J a6 e.symm;have ah:=aE.kept an (aE.ne_ J (by decide));have a5:=az.trans (an.below az.size fun b hb e=>by omega);obtain⟨bn,on,Ar,cr,row,rfl,ca,bq,cw,bC,bB,bD⟩:=Gt bW.out ct.out (q:=k) (by omega);have cU:C.cell? ⟨bc,oc+k,none⟩=some (.int .i64 (x:Int)):=(a5.cell (by show bc<_;omega)).trans bl;have cS:=ah.cell;obtain⟨w5,dj,aa,b8,ci⟩:=Ae C #[.int .i64 (x:Int)] 3;have b9:=a5.trans (aa.mono a5.size);have cV:w5.cell? ⟨bn,on+k,none⟩=some (.slice Ar L cr):=(b9.cell ca).trans bq;have cT:=(ah.below aa).cell;have bF:=a5.size;have di:=aa.size;have dk:=hv x (List.mem_of_getElem? G);have c5:=hide bi;have be:=hide bd;have aB:=hide ah;have b7:=hide a5;have dl:=hide G;have cv:=hide bB;have bE:=hide bD;have aU:=hide bC;have c4:=hide (show w5.ownsRow C.heap.size 3 1 (.slice (some ⟨C.heap.size,0,none⟩) (0+1) 1) (0+1) ((Ak (Df cl row k 0)).map (Value.int .i64)) from by
    have:=DD (base:=C.heap.size) (n:=1) b8 (Nat.le_refl _) rfl (by omega);have e:Ak (Df cl row k 0)=[(x:Int)]:=by simp [Df,Ak,G]
    rw [e];exact this)
   have c8:=hide aa;clear bi bd ah G bB bD a6 J aE bl bq cw an a2 b8 ci bC b9 aa a5;have cq:¬n<=k:=by omega
   have cB:¬(x:Int)<0:=by omega
   go_wp2_with fail;clear cq cB;go_loopw [9,50] (fun vv ii wz=>∃(j cap g:Nat),vv=.slice (some ⟨g,0,none⟩) (j+1) cap/\ii=.int .i64 (j:Int)/\j<=L/\Below C.heap.size C wz/\Hid (wz.ownsRow C.heap.size 3 1 (.slice (some ⟨g,0,none⟩) (j+1) cap) (j+1) ((Ak (Df cl row k j)).map (Value.int .i64)))) (fun _ ii _=>L - (intOf ii).toNat)
   case atStart=>exact⟨0,1,C.heap.size,rfl,rfl,Nat.zero_le _,c8.out,c4⟩
   case round=>
    obtain⟨j,cap,g,rfl,rfl,hj,F,hO⟩:=hrel;by_cases cg:j<L
    ·obtain⟨y,hy⟩:=An (l:=row) (i:=j) (by rw [aU.out];exact cg);obtain⟨br,cF,rfl,cb,bs⟩:=Ex cv.out hy;have cD:=(bE.out j y hy).1;obtain⟨z,hz⟩:=An (l:=cl) (i:=y) (by omega);obtain⟨c9,bt⟩:=Im bp.out hz;have W:=b7.out.trans (F.mono bF);have cY:wr.cell? ⟨br,cF+j,none⟩=some (.int .i64 (y:Int)):=(W.cell cb).trans bs;have cZ:wr.cell? ⟨bc,oc+y,none⟩=some (.int .i64 (z:Int)):=(W.cell (by show bc<_;omega)).trans bt;have dm:y<n:=by rw [ar.out];exact cD
     have ck:=hide (QH (cl:=cl) (q:=k) hy);have cE:=hide (getD_some (d:=0) hz);have aV:=F.size;have bf:=hO;clear hy hz bs bt hO c9 W;go_wp2_with (at_builtin;refine BP C9 rfl _ _ rfl C.heap.size (.slice (some ⟨g,0,none⟩) (j+1) cap) (j+1) _ rfl bf.out [.int .i64 (z:Int)] 1 rfl rfl (by simp [Value.oneCell']) (by omega) aV ?_;intro g' b4 w6 cu cj df d3);have bZ:w6.ownsRow C.heap.size 3 1 (.slice (some ⟨g',0,none⟩) (j+1+1) b4) (j+1+1) ((Ak (Df cl row k (j+1))).map (Value.int .i64)):=by
      rw [ck.out,EM,List.map_append,cE.out];exact cu
     exact⟨⟨j+1,b4,g',rfl,by go_num,by omega,F.trans (cj.below aV fun b hb e=>by have:=Bb bf.out e;omega),hide bZ⟩,by simp [intOf];omega⟩
    ·obtain rfl:j=L:=by omega
     have aL:=QF (t:=t) (cl:=cl) (q:=k) aU.out fun x y hh=>(bE.out x y hh).2;have ap:(Df cl row k j).length=j+1:=QG (by rw [aU.out];exact Nat.le_refl _);obtain⟨E,aM⟩:∃E,E=Df cl row k j:=⟨_,rfl⟩;have aF:=hO.out;rw [<-aM] at aL ap aF;obtain⟨g0,c0,e0,bj,bm⟩:=Rq aF ap (by omega) (by omega);injection e0 with e1 _ e3
     injection e1 with e1
     injection e1 with e1
     subst e1 e3;have a2:(Ak E).length=j+1:=by simp [Ak,ap]
     have W:=b7.out.trans (F.mono bF);have cc:Calls Tryz.prog 75 #[.slice (some ⟨g,0,none⟩) (j+1) cap,.int .i64 (-1)] wr fun e w'=>e=.returned (.bool false)/\w'=wr:=by
      have h1:=Tryz.slices_Contains_int g 0 (j+1) cap (Ak E) (-1) wr (by omega) (by omega) bm;have h2:((Ak E).take (j+1)).contains (-1)=false:=by
       rw [Bool.eq_false_iff];intro hh;have:=List.mem_of_mem_take (List.contains_iff_mem.1 hh);obtain⟨q,_,hq⟩:=List.mem_map.1 this;omega
      rw [h2] at h1;exact h1
     have bx:∀x∈E,x<1000000000:=by
      intro x G;rw [aM] at G;have hz:∀q,cl.getD q 0<250000:=fun q=>by
       rcases Nat.lt_or_ge q cl.length with hq|hq
       ·obtain⟨v,bK⟩:=An hq;rw [getD_some bK];exact hv v (List.mem_of_getElem? bK)
       ·rw [List.getD_eq_getElem?_getD,List.getElem?_eq_none hq];simp
      unfold Df at G;rcases List.mem_cons.1 G with rfl|G
      ·have:=hz k;omega
      ·obtain⟨q,_,rfl⟩:=List.mem_map.1 G;have:=hz q;omega
     have bv:=JN (c:=cap) bj (Nat.le_refl _) bx (by omega) (c6.out.below W);rw [a2] at bv;have bG:ks.take (k+1)=ks.take k++[E]:=by
      refine B5 ?_;rw [cm.out,aL];exact AX (List.getElem?_range (by have:=ar.out;omega))
     have bH:=hide bG;have ai:=be.out.keep (F.block _ be.out.lt);have aG:=c5.out.below F;have b6:=hide W;have aV:=F.size;clear aL ap aF bj bm a2 W bx bG hO aM;go_wp2_with fail;refine cc.mono ?_;rintro e w' ⟨rfl,rfl⟩;go_wp2_with fail;refine Calls.ret bv ?_;rintro v w7 ⟨rfl,U⟩;have O:=ai.keep (U.block _ ai.lt);have I:=aG.below U;have bz:=Ft FV Tryz.underlying175 Fa O E;have cd:w7.cell? ⟨gr,k,none⟩=some (.int .i64 (-1)):=by
      rw [I.cell,Array.getElem?_setIfInBounds];rw [if_pos rfl,if_pos (by simp [Bm,DN,ad];omega)]
     have d1:=I.frozen k;have db:=I.lt;have af:=b6.out.trans (U.mono b6.out.size);by_cases M:E∈dd (ks.take k)
     ·have ab:dd (ks.take k++[E])=dd (ks.take k):=by rw [Eo];exact F0 M
      obtain⟨Z,a3,V⟩:=Ja ab O I ad aN;rw [<-bH.out] at Z a3;have aP:=hide Z;have aT:=hide a3;have ay:=af.trans (V.below af.size fun b hb e=>by omega);have ag:=hide ((((aB.out.below F).below U)).kept V (((aB.out.below F).below U).ne_ I (by decide)));simp only [M,if_true,decide_true,Dq,DA] at bz;clear Z a3 M O I ab V U ai aG F;go_wp2_with fail;exact⟨⟨k+1,by go_num,by omega,ay,ag,aP,aT⟩,by simp [intOf];omega⟩
     ·have ab:dd (ks.take k++[E])=dd (ks.take k)++[E]:=by rw [Eo];exact FZ M
      simp only [M,if_false,decide_false,Dq,DA] at bz;obtain⟨w8,cA,bA,bu,cy⟩:=EY FV Tryz.underlying175 O E M;have cn:∀ty,(Builtin.len_ #[175] ty #[.map (some gm)]).run Tryz.prog w7=.ok (.int .i64 ((dd (ks.take k)).length:Int)) w7:=fun ty=>by
       have:=GS (ty:=ty) Tryz.underlying175 O;simpa using this
      have ao:=Ac.of_grown bu;have a7:=I.kept ao (fun e=>BT I O (Option.some.inj e).symm);have cX:w8.cell? ⟨gr,k,none⟩=some (.int .i64 (-1)):=by rw [a7.cell,<-I.cell,cd]
      have d2:=a7.frozen k;have dc:=a7.lt;have aC:=(aB.out.below F).below U;have aD:=aC.kept ao (fun e=>BT aC O (Option.some.inj e).symm);obtain⟨Z,a3,V⟩:=Ja ab bA a7 ad aN;have ag:=hide (aD.kept V (aD.ne_ a7 (by decide)));rw [<-bH.out,ES M] at Z a3;rw [ES M] at V ag;have aP:=hide Z;have aT:=hide a3;have ba:=af.trans (ao.below af.size fun b hb e=>by have:=Option.some.inj e;omega);have ay:=ba.trans (V.below ba.size fun b hb e=>by omega);simp only [Dq,DA] at cA;clear Z a3 M O I ab bA bu cy ao a7 V aC aD U ai aG F;go_wp2_with fail;exact⟨⟨k+1,by go_num,by omega,ay,ag,aP,aT⟩,by simp [intOf];omega⟩
  ·obtain rfl:k=n:=by omega
   have a6:=hM.out;have cn:∀ty,(Builtin.len_ #[175] ty #[.map (some gm)]).run Tryz.prog wr=.ok (.int .i64 ((dd (ks.take k)).length:Int)) wr:=fun ty=>by
    have:=GS (ty:=ty) Tryz.underlying175 a6;simpa using this
   clear a6;go_wp2_with fail
   go_ret2
   have a2:=ar.out;have cz:ks.take k=ks:=by rw [a2,<-aO.out,List.take_length]
   have J:=hR.out;rw [cz] at J ⊢;exact⟨az,_,_,rfl,Jr J (by rw [DN,a2,aO.out]) (by omega)⟩
end Go.Proofs.YtjejejmeddkciaaGreatDoor
namespace Go.Proofs.YtjejejmeddkciaaGreatDoor
open Go.RowKit
set_option maxHeartbeats 16000000
set_option maxRecDepth 100000
section
variable {S:Type} [DecidableEq S] {L:Nat} {δ:S->Nat->S} {s0:S}
def AM (L:Nat) (δ:S->Nat->S) (all:List S) (i:Nat):List (List Nat):=(all.take i).map fun s=>(List.range L).map fun x=>Ax all (δ s x)
theorem GO {all E:List S} {i:Nat} (h:Exp L δ s0 i all) (G:all<+:E):AM L δ E i=AM L δ all i:=by
 have F:=h.inv.le;unfold AM;obtain⟨t,rfl⟩:=G;rw [List.take_append_of_le_length F];refine List.map_congr_left fun s I=>List.map_congr_left fun x J=>?_;obtain⟨j,C⟩:=List.mem_iff_getElem?.1 I;rw [List.getElem?_take] at C;split at C
 ·exact ET (List.prefix_append _ _) (h.inv.closed j s (by assumption) C x (List.mem_range.1 J))
 ·cases C
theorem GP {all:List S} {i:Nat} {s:S} (h:all[i]?=some s):AM L δ all (i+1)=AM L δ all i++[(List.range L).map fun x=>Ax all (δ s x)]:=by
 unfold AM;rw [B5 h,List.map_append];rfl
theorem D5 {all:List S} {i:Nat} (h:i<=all.length):(AM L δ all i).length=i:=by simp [AM];omega
end
def Do (w:World) (base:Nat) (v:Value) (t:List (List Nat)) (ac:List Bool):Prop:=
 ∃(vN vA:Value) (ws:List Value),v=.agg #[vN,vA]/\w.ownsRow base 4 1 vA ac.length (ac.map Value.bool)/\w.ownsRow base 24 1 vN t.length ws/\Cl w base (fun _=>True) ws (t.map Ak)
theorem Do.kept {w w':World} {base base':Nat} {v:Value} {t:List (List Nat)} {ac:List Bool} {X:Nat->Prop} (h:Do w base v t ac) (M:Ac w w' X) (G:∀g,X g->g<w.heap.size->g<base) (I:base'<=base):Do w' base' v t ac:=by
 obtain⟨vN,vA,ws,e,E,F,U⟩:=h;refine⟨vN,vA,ws,e,DC (M.ownsRow E fun g C e=>?_) I,DC (M.ownsRow F fun g C e=>?_) I,U.imp fun v d J=>⟨DC (M.ownsRow J.1 fun g C e=>?_) I,fun _ _=>trivial⟩⟩
 ·have h1:=Bb E C;have O:=G g e (Cj E C);omega
 ·have h1:=Bb F C;have O:=G g e (Cj F C);omega
 ·have h1:=Bb J.1 C;have O:=G g e (Cj J.1 C);omega
theorem Do.read {w:World} {base:Nat} {v:Value} {t:List (List Nat)} {ac:List Bool} (h:Do w base v t ac) (V:∀r∈t,r.length<=4000000) (ht:t.length<=4000000) (Z:ac.length<=4000000):Br w w.heap.size v t ac:=by
 obtain⟨vN,vA,ws,rfl,J,M,O⟩:=h;obtain⟨E,c1,C,h1⟩:=Cl.read O M ht (Nat.le_refl _) (fun d U=>by
  obtain⟨r,W,rfl⟩:=List.mem_map.1 U;have:=V r W;simpa [Ak] using this)
 obtain⟨F,c2,G,I⟩:=Kg (B:=w.heap.size) J rfl (Nat.le_refl _) (by omega);rw [List.length_map] at C;exact⟨E,c1,F,c2,by rw [C,G],LD h1,I⟩
structure QM (w0 wr:World) (g2 g4 g5 gm:Nat) (c2:Array Value) (kst st:List Nat) (t:List (List Nat)) (as':List Bool) (vS vN vA:Value) (ws:List Value) (N:Nat->Prop):Prop where
 below:Below w0.heap.size w0 wr
 b2:Blk wr g2 70 c2
 b4:Blk wr g4 70 #[sn0,sn0]
 b5:Blk wr g5 70 #[vN,vA]
 map:Bw wr gm (kst.map CR)
 sts:wr.ownsRow w0.heap.size 3 1 vS st.length ((Ak st).map (Value.int .i64))
 acc:wr.ownsRow w0.heap.size 4 1 vA as'.length (as'.map Value.bool)
 nxt:wr.ownsRow w0.heap.size 24 1 vN t.length ws
 nxtR:Cl wr w0.heap.size (fun g=>N g/\vS.ownBlock≠some g) ws (t.map Ak)
 ne:g2≠g5/\g4≠g5
 ge:w0.heap.size<=g2/\w0.heap.size<=g4/\w0.heap.size<=g5/\w0.heap.size<=gm
section
variable {w0 wr w':World} {g2 g4 g5 gm:Nat} {c2:Array Value} {kst st:List Nat} {t:List (List Nat)} {as':List Bool} {vS vN vA:Value} {ws:List Value} {N:Nat->Prop}
theorem QM.keep (h:QM w0 wr g2 g4 g5 gm c2 kst st t as' vS vN vA ws N) (C:Below wr.heap.size wr w'):QM w0 w' g2 g4 g5 gm c2 kst st t as' vS vN vA ws N:=
 ⟨h.below.trans (C.mono h.below.size),h.b2.below C,h.b4.below C,h.b5.below C,h.map.keep (C.block _ h.map.lt),Bt h.sts C,Bt h.acc C,Bt h.nxt C,
  h.nxtR.keep (Ac.of_below C (fun _=>False)) (fun _ _ _ e=>e.elim) (fun _ _ x=>x) (Nat.le_refl _),h.ne,h.ge⟩
theorem QM.weak {N':Nat->Prop} (h:QM w0 wr g2 g4 g5 gm c2 kst st t as' vS vN vA ws N) (C:∀g,g<wr.heap.size->N g->N' g):QM w0 wr g2 g4 g5 gm c2 kst st t as' vS vN vA ws N':=
 ⟨h.below,h.b2,h.b4,h.b5,h.map,h.sts,h.acc,h.nxt,h.nxtR.keep (Ac.refl wr (fun _=>False)) (fun _ _ _ e=>e.elim) (fun g E x=>⟨C g E x.1,x.2⟩) (Nat.le_refl _),h.ne,h.ge⟩
theorem QM.other (h:QM w0 wr g2 g4 g5 gm c2 kst st t as' vS vN vA ws N) {gr:Nat} {c3:Array Value} (I:∀g,N g->g≠gr) (hS:vS.ownBlock≠some gr) (E:Blk wr gr 3 c3) (G:w0.heap.size<=gr) (C:Ac wr w' (fun k=>k=gr)):QM w0 w' g2 g4 g5 gm c2 kst st t as' vS vN vA ws N:=
 ⟨h.below.trans (C.below h.below.size fun b M e=>by omega),h.b2.kept C (h.b2.ne_ E (by decide)),h.b4.kept C (h.b4.ne_ E (by decide)),h.b5.kept C (h.b5.ne_ E (by decide)),
  h.map.kept C (fun e=>BT E h.map e.symm),C.ownsRow h.sts (fun g G e=>hS (by rw [G,e])),
  AK C h.acc (fun g cs e F=>by subst e;exact F.ne_ E (by decide) rfl),AK C h.nxt (fun g cs e F=>by subst e;exact F.ne_ E (by decide) rfl),
  h.nxtR.keep C (fun g cs J e _=>I g J.1 e) (fun _ _ x=>x) (Nat.le_refl _),h.ne,h.ge⟩
theorem QM.addS {kv s:Nat} {O:Value} {F I:World} (h:QM w0 wr g2 g4 g5 gm c2 kst st t as' vS vN vA ws N) (W:Bw F gm ((kst++[kv]).map CR)) (J:wr.grownBy F (some gm)) (a8:F.heap.size=wr.heap.size)
  (U:Ac F I (fun k=>vS.ownBlock=some k)) (a4:I.ownsRow w0.heap.size 3 1 O (st.length+1) ((Ak st).map (Value.int .i64)++[.int .i64 (s:Int)])) (a2:BJ F vS O):
  QM w0 I g2 g4 g5 gm c2 (kst++[kv]) (st++[s]) t as' O vN vA ws N/\Ac wr I (fun k=>gm=k\/vS.ownBlock=some k):=by
 have V:Ac wr F (fun k=>gm=k):=(Ac.of_grown J).mono fun b _ e=>Option.some.inj e;have C:Ac wr I (fun k=>gm=k\/vS.ownBlock=some k):=(V.mono fun _ _ e=>.inl e).trans U fun _ _ e=>.inr e;have G:∀{e:TypeId},e≠3->∀g cs,(gm=g\/vS.ownBlock=some g)->¬Blk wr g e cs:=by
  rintro e h1 g cs (M|M) hB
  ·exact BT hB h.map M.symm
  ·exact Aw h.sts hB (fun E=>h1 E.symm) M
 have a5:=V.ownsRow h.sts fun g J e=>Di h.sts h.map (by rw [J,e])
 refine⟨⟨h.below.trans (C.below h.below.size ?_),h.b2.kept C fun x=>G (by decide) _ _ x h.b2,h.b4.kept C fun x=>G (by decide) _ _ x h.b4,h.b5.kept C fun x=>G (by decide) _ _ x h.b5,
  W.kept U (Di a5 W),?_,AK C h.acc (G (by decide)),AK C h.nxt (G (by decide)),?_,h.ne,h.ge⟩,C⟩
 ·rintro b hb (e|e)
  ·have:=h.ge;omega
  ·have:=Bb h.sts e;omega
 ·rw [List.length_append,EM,List.map_append];exact a4
 ·refine h.nxtR.keep C ?_ ?_ (Nat.le_refl _)
  ·rintro g cs hn (e|e) hB
   ·exact BT hB h.map e.symm
   ·exact hn.2 e
  ·rintro g J ⟨h1,Z⟩;refine⟨h1,fun e=>?_⟩;rcases a2 with E|⟨g',E,a9⟩
   ·exact Z (by rw [<-E];exact e)
   ·rw [e] at E;have:=Option.some.inj E;omega
theorem QM.addA {b:Bool} {vA':Value} {F:World} (h:QM w0 wr g2 g4 g5 gm c2 kst st t as' vS vN vA ws N) (M:Ac wr F (fun k=>vA.ownBlock=some k)) (ho:F.ownsRow w0.heap.size 4 1 vA' (as'.length+1) (as'.map Value.bool++[.bool b])):
  QM w0 (F.setCell ⟨g5,1,none⟩ vA') g2 g4 g5 gm c2 kst st t (as'++[b]) vS vN vA' ws N:=by
 have U:=h.b5.kept M (Aw h.acc h.b5 (by decide));have O:=(Ac.refl F (fun k=>k=g5)).setCell (p:=⟨g5,1,none⟩) (fun _=>rfl) vA';have C:Ac wr (F.setCell ⟨g5,1,none⟩ vA') (fun k=>vA.ownBlock=some k\/k=g5):=(M.mono fun _ _ e=>.inl e).trans O fun _ _ e=>.inr e;have I:∀{e:TypeId},e≠4->e≠70->∀g cs,(vA.ownBlock=some g\/g=g5)->¬Blk wr g e cs:=by
  rintro e h1 V g cs (G|G) E
  ·exact Aw h.acc E (fun W=>h1 W.symm) G
  ·exact E.ne_ h.b5 V G
 have J:∀{g:Nat} {cs:Array Value},Blk wr g 70 cs->g≠g5->¬(vA.ownBlock=some g\/g=g5):=by
  rintro g cs E Z (e|e)
  ·exact Aw h.acc E (by decide) e
  ·exact Z e
 refine⟨h.below.trans (C.below h.below.size ?_),h.b2.kept C (J h.b2 h.ne.1),h.b4.kept C (J h.b4 h.ne.2),U.set_ 1 vA',h.map.kept C ?_,AK C h.sts (I (by decide) (by decide)),?_,AK C h.nxt (I (by decide) (by decide)),
  h.nxtR.keep C (fun g cs _ e=>I (by decide) (by decide) g cs e) (fun _ _ x=>x) (Nat.le_refl _),h.ne,h.ge⟩
 ·rintro b hb (e|e)
  ·have:=Bb h.acc e;omega
  ·have:=h.ge;omega
 ·rintro(e|e)
  ·exact Di h.acc h.map e
  ·exact BT h.b5 h.map e.symm
 ·rw [List.length_append,List.map_append];exact AK O ho (fun g cs e E=>by subst e;exact E.ne_ U (by decide) rfl)
theorem QM.addR {row:List Nat} {gr c:Nat} {vN':Value} {F:World} (h:QM w0 wr g2 g4 g5 gm c2 kst st t as' vS vN vA ws N)
  (hr:wr.ownsRow w0.heap.size 3 1 (.slice (some ⟨gr,0,none⟩) row.length c) row.length ((Ak row).map (Value.int .i64))) (hS:vS.ownBlock≠some gr)
  (M:Ac wr F (fun k=>vN.ownBlock=some k)) (ho:F.ownsRow w0.heap.size 24 1 vN' (t.length+1) (ws++[.slice (some ⟨gr,0,none⟩) row.length c])):
  QM w0 (F.setCell ⟨g5,0,none⟩ vN') g2 g4 g5 gm c2 kst st (t++[row]) as' vS vN' vA (ws++[.slice (some ⟨gr,0,none⟩) row.length c]) (fun _=>True):=by
 have U:=h.b5.kept M (Aw h.nxt h.b5 (by decide));have O:=(Ac.refl F (fun k=>k=g5)).setCell (p:=⟨g5,0,none⟩) (fun _=>rfl) vN';have C:Ac wr (F.setCell ⟨g5,0,none⟩ vN') (fun k=>vN.ownBlock=some k\/k=g5):=(M.mono fun _ _ e=>.inl e).trans O fun _ _ e=>.inr e;have G:∀{e:TypeId},e≠24->e≠70->∀g cs,(vN.ownBlock=some g\/g=g5)->¬Blk wr g e cs:=by
  rintro e h1 W g cs (I|I) E
  ·exact Aw h.nxt E (fun hh=>h1 hh.symm) I
  ·exact E.ne_ h.b5 W I
 have J:∀{g:Nat} {cs:Array Value},Blk wr g 70 cs->g≠g5->¬(vN.ownBlock=some g\/g=g5):=by
  rintro g cs E a3 (e|e)
  ·exact Aw h.nxt E (by decide) e
  ·exact a3 e
 refine⟨h.below.trans (C.below h.below.size ?_),h.b2.kept C (J h.b2 h.ne.1),h.b4.kept C (J h.b4 h.ne.2),U.set_ 0 vN',h.map.kept C ?_,AK C h.sts (G (by decide) (by decide)),AK C h.acc (G (by decide) (by decide)),?_,?_,h.ne,h.ge⟩
 ·rintro b hb (e|e)
  ·have:=Bb h.nxt e;omega
  ·have:=h.ge;omega
 ·rintro(e|e)
  ·exact Di h.nxt h.map e
  ·exact BT h.b5 h.map e.symm
 ·rw [List.length_append];exact AK O ho (fun g cs e E=>by subst e;exact E.ne_ U (by decide) rfl)
 ·rw [List.map_append];refine Cl.snoc (h.nxtR.keep C (fun g cs _ e=>G (by decide) (by decide) g cs e) (fun _ _ x=>⟨trivial,x.2⟩) (Nat.le_refl _)) ?_ ?_
  ·have:=AK C hr (G (by decide) (by decide));have V:(Ak row).length=row.length:=by simp [Ak]
   rw [V];exact this
  ·intro g Z;refine⟨trivial,fun e=>hS ?_⟩;have:gr=g:=by simpa [Value.ownBlock] using Z
   rw [this];exact e
theorem QM.finO {G:World} (h:QM w0 wr g2 g4 g5 gm c2 kst st t as' vS vN vA ws N) (F:Ac wr G (fun k=>k=g4\/k<w0.heap.size)):
  Do G w0.heap.size (.agg #[vN,vA]) t as':=by
 have M:=h.ge;have J:=F.ownsRow h.nxt fun g C e=>by
  rcases e with e|e
  ·exact Aw h.nxt h.b4 (by decide) (by rw [C,e])
  ·have:=Bb h.nxt C;omega
 have I:=F.ownsRow h.acc fun g C e=>by
  rcases e with e|e
  ·exact Aw h.acc h.b4 (by decide) (by rw [C,e])
  ·have:=Bb h.acc C;omega
 exact⟨vN,vA,ws,rfl,I,J,h.nxtR.imp fun v d E=>⟨F.ownsRow E.1 fun g C e=>by
  rcases e with e|e
  ·exact Aw E.1 h.b4 (by decide) (by rw [C,e])
  ·have:=Bb E.1 C;omega,fun _ _=>trivial⟩⟩
end
end Go.Proofs.YtjejejmeddkciaaGreatDoor
namespace Go.Proofs.YtjejejmeddkciaaGreatDoor
open Go.RowKit
set_option maxHeartbeats 16000000
set_option maxRecDepth 100000
theorem Fj:El Tryz.prog 3 CR:=QK .i64 Tryz.underlying3 (fun n:Nat=>(n:Int)) (fun a b h=>by omega)
theorem RG (w:World) (cs:Array Value) (V:Nat):∃g2 g4 g5 Z gm G w2 h C E F,g2=w.heap.size/\g4=G.heap.size/\g5=w2.heap.size/\Z=E.heap.size/\w.alloc (.cells cs 70)=G/\G.alloc (.cells #[sn0,sn0] 70)=w2/\w2.alloc (.cells #[sn0,sn0] 70)=h/\(Instr.makeMap 216 none).run Tryz.prog h=.ok (.map (some gm)) C/\
  (Instr.mapUpdate 216 (.map (some gm)) (.int .i64 (V:Int)) (.int .i64 0)).run Tryz.prog C=.ok () E/\E.alloc (.cells #[.int .i64 0] 3)=F/\Below w.heap.size w C/\
  QM w F g2 g4 g5 gm cs [V] [0] [] [] (.slice (some ⟨Z,0,none⟩) 1 1) sn0 sn0 [] (fun _=>True):=by
 obtain⟨G,h1,a6,a2,ao⟩:=Ae w cs 70;obtain⟨w2,h2,M,a3,ap⟩:=Ae G #[sn0,sn0] 70;obtain⟨h,h3,J,a4,aq⟩:=Ae w2 #[sn0,sn0] 70;obtain⟨gm,C,h4,ah,O,an⟩:=F1 216 h;obtain⟨E,h5,a5,aj,au⟩:=EY Fj Tryz.underlying216 (l:=[]) ah V (by simp);have ak:=Ac.of_grown aj;obtain⟨F,h6,U,ag,ar⟩:=Ae E #[.int .i64 0] 3;have s1:=a6.size;have s2:=M.size;have s3:=J.size;have s4:=O.size;have s6:=U.size;have l1:=a2.lt;have l2:=a3.lt;have l3:=a4.lt;have W:Below w.heap.size w h:=a6.trans ((M.mono s1).trans (J.mono (by omega)));have a8:Below w.heap.size w C:=W.trans (O.mono (by omega));have a9:Below h.heap.size C F:=(ak.below s4 fun b hb e=>by have:=Option.some.inj e;omega).trans (U.mono (by omega));have I:Below h.heap.size h F:=O.trans a9;have hO:F.ownsRow w.heap.size 3 1 (.slice (some ⟨E.heap.size,0,none⟩) 1 1) 1 ((Ak [0]).map (Value.int .i64)):=by
  have:=DD (base:=w.heap.size) (n:=1) ag (by omega) rfl (by omega);exact this
 exact⟨_,_,_,_,gm,G,w2,h,C,E,F,rfl,rfl,rfl,rfl,h1,h2,h3,h4,h5,h6,a8,
  ⟨W.trans (I.mono (by omega)),((a2.below M).below J).below I,(a3.below J).below I,a4.below I,a5.keep (U.block _ a5.lt),hO,Cb,Cb,.nil,⟨by omega,by omega⟩,⟨Nat.le_refl _,s1,by omega,by omega⟩⟩⟩
structure Gk (w0 wr:World) (g2 g4 g5 gm:Nat) (c2:Array Value) (L:Nat) (nx:Nat->Nat->Nat) (cl:List Nat) (ac:List Bool) (i:Nat) (st:List Nat) (vS vN vA:Value) (ws:List Value):Prop where
 mem:QM w0 wr g2 g4 g5 gm c2 (st.map fun s=>cl.getD s 0) st (AM L (AF nx cl) (st.map fun s=>cl.getD s 0) i) ((st.take i).map (dac ac)) vS vN vA ws (fun _=>True)
 exp:Exp L (AF nx cl) (cl.getD 0 0) i (st.map fun s=>cl.getD s 0)
 lt:∀s∈st,s<ac.length
theorem Gk.len {w0 wr:World} {g2 g4 g5 gm L i:Nat} {c2:Array Value} {nx:Nat->Nat->Nat} {acc:Nat->Bool} {cl:List Nat} {ac:List Bool} {st:List Nat} {vS vN vA:Value} {ws:List Value} (h:Gk w0 wr g2 g4 g5 gm c2 L nx cl ac i st vS vN vA ws) (C:Ck L ac.length nx acc cl):st.length<=ac.length:=by
 have:=D6 _ (List.range ac.length) h.exp.inv.nodup fun v F=>by
  obtain⟨s,E,rfl⟩:=List.mem_map.1 F;exact List.mem_range.2 (C.lt s (h.lt s E))
 simpa using this
structure DZ (w0 wr:World) (g2 g4 g5 gm:Nat) (c2:Array Value) (L:Nat) (nx:Nat->Nat->Nat) (cl:List Nat) (ac:List Bool) (i q gr x:Nat) (st st':List Nat) (vS vN vA:Value) (ws:List Value):Prop where
 mem:QM w0 wr g2 g4 g5 gm c2 (st'.map fun s=>cl.getD s 0) st' (AM L (AF nx cl) (st.map fun s=>cl.getD s 0) i) ((st.take (i+1)).map (dac ac)) vS vN vA ws (fun g=>g≠gr)
 eq:(st'.map fun s=>cl.getD s 0)=AZ (AF nx cl) (cl.getD q 0) (st.map fun s=>cl.getD s 0) x
 pre:st<+:st'
 lt:∀s∈st',s<ac.length
 sep:vS.ownBlock≠some gr
 blk:Blk wr gr 3 (Bi L fun y=>if y<x then Value.int .i64 (Ax (st'.map fun s=>cl.getD s 0) (AF nx cl (cl.getD q 0) y):Int) else .int .i64 0)
section
variable {w0 wr:World} {g2 g4 g5 gm L i q gr x:Nat} {c2:Array Value} {nx:Nat->Nat->Nat} {acc:Nat->Bool} {cl:List Nat} {ac:List Bool} {st st':List Nat} {vS vN vA:Value} {ws:List Value}
theorem DZ.len (h:DZ w0 wr g2 g4 g5 gm c2 L nx cl ac i q gr x st st' vS vN vA ws) (C:(st.map fun s=>cl.getD s 0).Nodup) (E:Ck L ac.length nx acc cl):st'.length<=ac.length:=by
 have F:(st'.map fun s=>cl.getD s 0).Nodup:=by rw [h.eq];exact GN _ C _
 have:=D6 _ (List.range ac.length) F fun v I=>by
  obtain⟨s,G,rfl⟩:=List.mem_map.1 I;exact List.mem_range.2 (E.lt s (h.lt s G))
 simpa using this
theorem GH {k C:List Nat} {f:Nat->Nat} (G:∀y,y<x->Ax C (f y)=Ax k (f y)) {u:Value} (I:u=.int .i64 (Ax C (f x):Int)) {E:World} (F:Blk E gr 3 (Bi L fun y=>if y<x then Value.int .i64 (Ax k (f y):Int) else .int .i64 0)):
  Blk (E.setCell ⟨gr,x,none⟩ u) gr 3 (Bi L fun y=>if y<x+1 then Value.int .i64 (Ax C (f y):Int) else .int .i64 0):=by
 have h1:=F.set_ x u;rw [F7] at h1;rw [D4 (g:=fun y=>if y=x then u else if y<x then Value.int .i64 (Ax k (f y):Int) else .int .i64 0) (fun y _=>by
  by_cases e:y=x
  ·subst e;rw [if_pos (by omega),if_pos rfl,I]
  ·by_cases h:y<x
   ·rw [if_pos (by omega),if_neg e,if_pos h,G y h]
   ·rw [if_neg (by omega),if_neg e,if_neg h])]
 exact h1
theorem DZ.old (h:DZ w0 wr g2 g4 g5 gm c2 L nx cl ac i q gr x st st' vS vN vA ws) {z:Nat} (C:AF nx cl (cl.getD q 0) x=z) (G:z∈st'.map fun s=>cl.getD s 0) (E:w0.heap.size<=gr):
  DZ w0 (wr.setCell ⟨gr,x,none⟩ (.int .i64 (Ax (st'.map fun s=>cl.getD s 0) z:Int))) g2 g4 g5 gm c2 L nx cl ac i q gr (x+1) st st' vS vN vA ws:=by
 have F:=(Ac.refl wr (fun k=>k=gr)).setCell (p:=⟨gr,x,none⟩) (fun _=>rfl) (.int .i64 (Ax (st'.map fun s=>cl.getD s 0) z:Int));refine⟨h.mem.other (fun _ h=>h) h.sep h.blk E F,?_,h.pre,h.lt,h.sep,GH (fun _ _=>rfl) (by rw [C]) h.blk⟩;rw [Cr,<-h.eq,C,F0 G]
theorem DZ.new (h:DZ w0 wr g2 g4 g5 gm c2 L nx cl ac i q gr x st st' vS vN vA ws) {s z:Nat} {J:Value} {F E:World} (W:AF nx cl (cl.getD q 0) x=z) (hs:cl.getD s 0=z) (a9:s<ac.length) (O:z∉st'.map fun s=>cl.getD s 0) (hg:w0.heap.size<=gr)
  (aa:Bw F gm (((st'.map fun s=>cl.getD s 0)++[z]).map CR)) (a3:wr.grownBy F (some gm)) (a4:F.heap.size=wr.heap.size)
  (a6:Ac F E (fun k=>vS.ownBlock=some k)) (a7:E.ownsRow w0.heap.size 3 1 J (st'.length+1) ((Ak st').map (Value.int .i64)++[.int .i64 (s:Int)])) (U:BJ F vS J):
  Blk E gr 3 (Bi L fun y=>if y<x then Value.int .i64 (Ax (st'.map fun s=>cl.getD s 0) (AF nx cl (cl.getD q 0) y):Int) else .int .i64 0)/\
  DZ w0 (E.setCell ⟨gr,x,none⟩ (.int .i64 (st'.length:Int))) g2 g4 g5 gm c2 L nx cl ac i q gr (x+1) st (st'++[s]) J vN vA ws:=by
 obtain⟨hQ,Z⟩:=h.mem.addS (kv:=z) (s:=s) aa a3 a4 a6 a7 U;have M:=h.blk.kept Z (by
  rintro(e|e)
  ·exact BT h.blk h.mem.map e.symm
  ·exact h.sep e)
 have I:((st'++[s]).map fun s=>cl.getD s 0)=(st'.map fun s=>cl.getD s 0)++[z]:=by simp [<-hs]
 have V:J.ownBlock≠some gr:=fun e=>by
  rcases U with G|⟨g',G,ad⟩
  ·exact h.sep (by rw [<-G];exact e)
  ·rw [e] at G;have:=Option.some.inj G;have:=h.blk.lt;omega
 rw [<-I] at hQ;have hk:=(Ac.refl E (fun k=>k=gr)).setCell (p:=⟨gr,x,none⟩) (fun _=>rfl) (.int .i64 (st'.length:Int));refine⟨M,hQ.other (fun _ h=>h) V M hg hk,?_,h.pre.trans (List.prefix_append _ _),fun y C=>?_,V,GH (k:=st'.map fun s=>cl.getD s 0) (fun y C=>?_) ?_ M⟩
 ·rw [I,Cr,<-h.eq,W,FZ O]
 ·rcases List.mem_append.1 C with C|C
  ·exact h.lt y C
  ·rw [List.mem_singleton.1 C];exact a9
 ·rw [I];refine ET (List.prefix_append _ _) ?_;rw [h.eq];exact Gb _ _ C
 ·rw [I,W,ES O,List.length_map]
end
theorem RI {w:World} {v:Value} {L c B:Nat} {A:Option Addr} {t:List (List Nat)} {ac:List Bool} {cl:List Nat} (h:Br w w.heap.size v t ac) (M:DOK L t ac) (aF:Sl w B 1 Ai A (Ak cl)) (hB:B<=w.heap.size) (hW:Ck L ac.length (dnx t) (dac ac) cl) (hL:L<=8) (hn:ac.length<=250000):
  Calls Tryz.prog 99 #[v,.slice A ac.length c] w (Ret fun r w'=>Below w.heap.size w w'/\∃st:List Nat,(∀s∈st,s<ac.length)/\st.length<=ac.length/\Bf L (AF (dnx t) cl) (cl.getD 0 0) (st.map fun s=>cl.getD s 0)/\Do w' w.heap.size r (AM L (AF (dnx t) cl) (st.map fun s=>cl.getD s 0) st.length) (st.map (dac ac))):=by
 obtain⟨A1,c1,A2,c2,rfl,h1,h2⟩:=h;obtain⟨k0,aL⟩:=An (l:=cl) (i:=0) (by rw [hW.len];exact M.pos);obtain⟨bc,oc,rfl,d9,bf⟩:=Ex aF aL;obtain⟨g2,g4,g5,gs,gm,w1,w2,w3,w4,w5,w6,cb,cc,cd,cg,bG,dF,dG,dH,dI,dJ,bV,hQ⟩:=RG w #[.slice A1 t.length c1,.slice A2 ac.length c2] k0;subst cb cc cd cg;have Z:=M.len;rw [Z] at bG hQ ⊢;have bm:cl.getD 0 0=k0:=getD_some aL;have b7:=hide (show Gk w w6 w.heap.size w1.heap.size w2.heap.size gm #[.slice A1 ac.length c1,.slice A2 ac.length c2] L (dnx t) cl ac 0 [0] (.slice (some ⟨w5.heap.size,0,none⟩) 1 1) sn0 sn0 [] from by
  refine⟨?_,?_,fun s hs=>by rw [List.mem_singleton.1 hs];exact M.pos⟩
  ·simp only [List.map_cons,List.map_nil,bm];exact hQ
  ·exact .start)
 have dh:w4.cell? ⟨bc,oc,none⟩=some (.int .i64 (k0:Int)):=(bV.cell (by show bc<_;omega)).trans bf;have dk:=hQ.b5.lt;obtain⟨n,aO⟩:∃n,n=ac.length:=⟨_,rfl⟩;have aa:=hide aO;have dA:n<=250000:=by omega
 have dz:0<n:=by have:=M.pos;omega
 have bP:=hide h1;have bQ:=hide h2;have ct:=hide M;have c5:=hide aF;have ai:=hide hW;have bT:=hide (fun q x (W:q<ac.length) (hx:x<L)=>M.lt W hx);rw [<-aO] at bG b7 ⊢;clear h1 h2 aO M aF Z hW hQ aL bm bf hn;go_enter Tryz.func99,Tryz.ntmps99;go_wp2_with fail;go_loopw [7,8] (fun vv O wr=>∃(i:Nat) (st:List Nat) (vN vA:Value) (ws:List Value),O=.int .i64 (i:Int)/\i<=n/\Hid (Gk w wr w.heap.size w1.heap.size w2.heap.size gm #[.slice A1 n c1,.slice A2 n c2] L (dnx t) cl ac i st vv vN vA ws)) (fun _ O _=>n - (intOf O).toNat)
 case atStart=>exact⟨0,[0],_,_,_,rfl,Nat.zero_le _,b7⟩
 case round=>
  obtain⟨i,st,vN,vA,ws,rfl,hi,hI⟩:=hrel;have C:=hI.out;have cG:=C.len ai.out;have cH:st.length<=n:=by rw [aa.out];exact cG
  obtain⟨AS,cS,rfl⟩:=AH C.mem.sts;by_cases cj:i<st.length
  ·obtain⟨q,W⟩:=An cj;have aq:=C.lt q (List.mem_of_getElem? W);obtain⟨gS,d4,e,df⟩:=C7 C.mem.sts (AX (f:=Value.int .i64) (AX (f:=fun x:Nat=>(x:Int)) W));cases e;obtain⟨b,hb⟩:=An (l:=ac) (i:=q) aq;obtain⟨ba,oa,rfl,bX,be⟩:=Fy bQ.out hb;have dg:wr.cell? ⟨ba,oa+q,none⟩=some (.bool b):=(C.mem.below.cell bX).trans be;obtain⟨bn,on,Ar,cr,row,rfl,bY,bh,cy,bC,bB,bD⟩:=Gt bP.out ct.out aq;obtain⟨AA,cA,rfl⟩:=AH C.mem.acc;have V:((st.take i).map (dac ac)).length=i:=by simp;omega
   have db:=C.mem.b2.cell;have bd:=C.mem.b5.cell;have b9:=C.mem.acc;rw [V] at bd b9;have cK:=C.mem.below.size;have c7:=hide (show dac ac q=b from getD_some hb);have dB:q<n:=by rw [aa.out];exact aq
   have bz:=hide W;have cw:=hide bB;have cz:=hide bD;have cx:=hide bC;have bp:=hide V;have c6:=hide bh;clear C W hb be cy bB bD bC V bh;go_wp2_with fail;refine Reg.cP [0,1,0,4,0,28,60,124,255,511,1023] ?_
   go_wp2_with (
    at_builtin;refine BP (w:=wr.drew) GM rfl _ _ rfl w.heap.size (.slice AA i cA) i _ rfl b9 [.bool b] 1 rfl rfl (by simp [Value.oneCell']) (by omega) cK ?_;intro g' ag w7 bv aM co dr;have U:=hI.out.mem.keep (Ap wr);rw [bp.out] at U;have G:=U.addA aM (by rw [bp.out];exact bv);have ak:=U.b5.kept aM (Aw U.acc U.b5 (by decide));have de:=ak.cell;have dp:=ak.frozen 1;have dw:=ak.lt;have c0:=G.b2.cell;have bi:=(G.below.cell (p:=⟨bn,on+q,none⟩) bY).trans c6.out;obtain⟨w8,cQ⟩:∃w8,w7.setCell ⟨w2.heap.size,1,none⟩ (.slice (some ⟨g',0,none⟩) (i+1) ag)=w8:=⟨_,rfl⟩;rw [cQ] at G c0 bi;obtain⟨gr,w9,dy,aE,aD,dt⟩:=Et w8 L (by omega);have dj:=(aD.cell (p:=⟨bn,on+q,none⟩) (by have:=G.below.size;show bn<_;omega)).trans bi;have da:=(G.b2.below aD).cell;rw [Fo] at aE;have bS:=hide (show DZ w w9 w.heap.size w1.heap.size w2.heap.size gm #[.slice (some ⟨bn,on,none⟩) n c1,.slice (some ⟨ba,oa,none⟩) n c2] L (dnx t) cl ac i q gr 0 st st (.slice (some ⟨gS,0,none⟩) st.length cS) vN (.slice (some ⟨g',0,none⟩) (i+1) ag) ws from by
     refine⟨?_,rfl,List.prefix_refl _,hI.out.lt,fun e=>?_,?_⟩
     ·rw [B5 bz.out,List.map_append];have:=(G.weak (N':=fun g=>g≠gr) (fun g hg _ e=>by omega)).keep aD;rw [<-c7.out] at this;exact this
     ·have:=Cj G.sts e;omega
     ·rw [D4 (g:=fun _=>Value.int .i64 0) (fun y _=>by rw [if_neg (by omega)])];exact aE)
    have dC:=G.below.size;have aJ:w.heap.size<=gr:=by omega
    clear U G bv aM co ak aE)
   go_loopw [7,54] (fun vv O wz=>∃(x:Nat) (st':List Nat),O=.int .i64 (x:Int)/\x<=L/\Hid (DZ w wz w.heap.size w1.heap.size w2.heap.size gm #[.slice (some ⟨bn,on,none⟩) n c1,.slice (some ⟨ba,oa,none⟩) n c2] L (dnx t) cl ac i q gr x st st' vv vN (.slice (some ⟨g',0,none⟩) (i+1) ag) ws)) (fun _ O _=>L - (intOf O).toNat)
   case atStart=>exact⟨0,st,rfl,Nat.zero_le _,bS⟩
   case round=>
    obtain⟨x,st',rfl,hx,F⟩:=hrel;have E:=F.out;have ap:=hI.out.exp.inv.nodup;have dE:=E.len ap ai.out;obtain⟨bL,bO,rfl⟩:=AH E.mem.sts;by_cases au:x<L
    ·obtain⟨y,hy⟩:=An (l:=row) (i:=x) (by rw [cx.out];exact au);obtain⟨br,cV,rfl,bZ,aG⟩:=Ex cw.out hy;obtain⟨aT,aS⟩:=cz.out x y hy;obtain⟨z,hz⟩:=An (l:=cl) (i:=y) (by rw [ai.out.len];exact aT);obtain⟨bb,aH⟩:=Im c5.out hz;have dl:wr.cell? ⟨br,cV+x,none⟩=some (.int .i64 (y:Int)):=(E.mem.below.cell bZ).trans aG;have dm:wr.cell? ⟨bc,oc+y,none⟩=some (.int .i64 (z:Int)):=(E.mem.below.cell (by show bc<_;omega)).trans aH;have dK:y<n:=by rw [aa.out];exact aT
     have av:AF (dnx t) cl (cl.getD q 0) x=z:=by
      rw [ai.out.nxE bT.out aq au,aS];exact getD_some hz
     have aU:cl.getD y 0=z:=getD_some hz;have a9:=E.mem.map;have aN:=Ft Fj Tryz.underlying216 Fa a9 z;simp only [CR] at aN;have di:wr.cell? ⟨gr,x,none⟩=some (.int .i64 0):=by rw [E.blk.cell,CV _ au,if_neg (by omega)]
     have dq:=E.blk.frozen x;have dx:=E.blk.lt;have bF:=E.mem.below.size;by_cases J:z∈st'.map fun s=>cl.getD s 0
     ·have cu:=hide (E.old av J aJ);simp only [J,if_true,decide_true] at aN;clear E ap hy aG hz aH bb av a9 J aU aS;go_wp2_with fail;exact⟨⟨x+1,st',by go_num,by omega,cu⟩,by simp [intOf];omega⟩
     ·simp only [J,if_false,decide_false] at aN;obtain⟨wm,cO,bs,aK,bE⟩:=EY Fj Tryz.underlying216 a9 z J;simp only [CR,List.length_map] at cO;have bo:Ac wr wm (fun k=>gm=k):=(Ac.of_grown aK).mono fun b _ e=>Option.some.inj e;have cJ:=bo.ownsRow E.mem.sts fun g hg e=>Di E.mem.sts a9 (by rw [hg,e]);have cL:w.heap.size<=wm.heap.size:=by omega
      have dD:st'.length<=250000:=by have:=aa.out;omega
      have cT:=hide av;have cU:=hide aU;have cm:=hide J;have cn:=hide bs;have cf:=hide aK;have cF:=hide bE;clear E ap hy aG hz aH bb av a9 J aU aS bs aK bE bo
      go_wp2_with (
       at_builtin;refine BP (w:=wm) C9 rfl _ _ rfl w.heap.size (.slice bL st'.length bO) st'.length _ rfl cJ [.int .i64 (y:Int)] 1 rfl rfl (by simp [Value.oneCell']) (by omega) cL ?_;intro ga az wa ab a8 ao ce;obtain⟨am,bt⟩:=F.out.new cT.out cU.out aT cm.out aJ cn.out cf.out cF.out a8 ab ao;have bg:wa.cell? ⟨gr,x,none⟩=some (.int .i64 0):=by rw [am.cell,CV _ au,if_neg (by omega)]
       have c9:=am.frozen x;have ci:=am.lt;have cq:=hide bt;clear bt am ab a8 ao)
      exact⟨⟨x+1,st'++[y],by go_num,by omega,cq⟩,by simp [intOf];omega⟩
    ·obtain rfl:x=L:=by omega
     obtain⟨AN,cN,rfl⟩:=AH E.mem.nxt;have bl:i<=(st.map fun s=>cl.getD s 0).length:=by rw [List.length_map];omega
     have Z:=D5 (L:=x) (δ:=AF (dnx t) cl) bl;have bu:=E.mem.nxt;have c4:=E.mem.b5.cell;rw [Z] at bu c4;obtain⟨I,ar⟩:∃I,I=(List.range x).map fun y=>Ax (st'.map fun s=>cl.getD s 0) (AF (dnx t) cl (cl.getD q 0) y):=⟨_,rfl⟩;have aP:I.length=x:=by rw [ar];simp
     have bw:wr.ownsRow w.heap.size 3 1 (.slice (some ⟨gr,0,none⟩) I.length x) I.length ((Ak I).map (Value.int .i64)):=by
      have:=DD E.blk aJ (Fp _ _) (by omega);rw [aP];have e:(Bi x fun y=>if y<x then Value.int .i64 (Ax (st'.map fun s=>cl.getD s 0) (AF (dnx t) cl (cl.getD q 0) y):Int) else .int .i64 0).toList=(Ak I).map (Value.int .i64):=by
       rw [ar];simp only [Bi,Ak,List.map_map];exact List.map_congr_left fun y hy=>by rw [if_pos (List.mem_range.1 hy)];rfl
      rw [e] at this;exact this
     have bF:=E.mem.below.size;have cB:=hide ar;have cD:=hide aP;have cv:=hide bw;have aQ:=hide Z;clear E ar aP bw Z bl ap
     go_wp2_with (
      at_builtin;refine BP (w:=wr) F9 rfl _ _ rfl w.heap.size (.slice AN i cN) i _ rfl bu [.slice (some ⟨gr,0,none⟩) x x] 1 rfl rfl (by simp [Value.oneCell']) (by omega) bF ?_;intro ga az wa ab a8 ao ce;have an:=a8;rw [<-aQ.out] at an;have al:=F.out.mem.b5.kept an (Aw F.out.mem.nxt F.out.mem.b5 (by decide));have hR:=F.out.mem.addR (vN':=.slice (some ⟨ga,0,none⟩) (i+1) az) cv.out F.out.sep an (by rw [aQ.out,cD.out];exact ab);have bg:=al.cell;rw [aQ.out] at bg;have c9:=al.frozen 0;have ci:=al.lt;have bU:=hide hR;clear hR al ab a8 an ao)
     have cM:st'.take (i+1)=st.take (i+1):=by
      obtain⟨u,hu⟩:=F.out.pre;rw [<-hu,List.take_append_of_le_length (by omega)]
     have bx:(st.map fun s=>cl.getD s 0)<+:(st'.map fun s=>cl.getD s 0):=by
      obtain⟨u,hu⟩:=F.out.pre;rw [<-hu,List.map_append];exact List.prefix_append _ _
     have bA:(st.map fun s=>cl.getD s 0)[i]?=some (cl.getD q 0):=AX (f:=fun s=>cl.getD s 0) bz.out;refine⟨⟨i+1,st',.slice (some ⟨ga,0,none⟩) (i+1) az,.slice (some ⟨g',0,none⟩) (i+1) ag,ws++[.slice (some ⟨gr,0,none⟩) I.length x],by go_num,by omega,?_⟩,by simp [intOf];omega⟩;refine hide ⟨?_,?_,F.out.lt⟩
     ·have:=bU.out;rw [cM,GP (Ds bx bA),GO hI.out.exp bx,<-cB.out];exact this
     ·rw [F.out.eq];exact .row hI.out.exp bA
  ·have ch:=C.exp.inv.le;rw [List.length_map] at ch;obtain rfl:i=st.length:=by omega
   obtain⟨AN,cN,rfl⟩:=AH C.mem.nxt;obtain⟨AA,cA,rfl⟩:=AH C.mem.acc;have bq:(AM L (AF (dnx t) cl) (st.map fun s=>cl.getD s 0) st.length).length=st.length:=D5 (by simp);have V:((st.take st.length).map (dac ac)).length=st.length:=by simp
   rw [bq,V] at C;have bd:=C.mem.b5.cell;have a7:=C.mem.b4;have dn:=a7.frozen;have dv:=a7.lt;have dc:=a7.cell;obtain⟨wF,bH,b6,aB⟩:=Dm a7 (.slice AN st.length cN) (.slice AA st.length cA);have ca:=hide (C.mem.finO (aB.mono fun _ _ e=>.inl e));have bW:=hide (C.mem.below.trans (aB.below C.mem.below.size fun b hb e=>by have:=C.mem.ge;omega));have bR:=b6.cell;have cR:=hide bH;have c8:=hide C.exp;have ck:=hide C.lt;clear C a7 b6 aB bH bq V hI;go_wp2_with fail;change bodyPost _ _ _ .ret _ (CY wr w1.heap.size (.slice AN st.length cN) (.slice AA st.length cA));rw [cR.out];have hf:=ca.out;rw [List.take_length] at hf;refine bodyPost_ret (v:=.agg #[.slice AN st.length cN,.slice AA st.length cA]) (by simp [results,Tryz.results99,go_sem,bR]) rfl ⟨bW.out,st,by rw [aa.out];exact ck.out,cH,?_,hf⟩;unfold Bf;rw [List.length_map];exact c8.out
theorem RH {w:World} {v:Value} {L c B:Nat} {A:Option Addr} {t:List (List Nat)} {ac:List Bool} {cl:List Nat} (h:Br w w.heap.size v t ac) (Z:DOK L t ac) (U:Sl w B 1 Ai A (Ak cl)) (I:B<=w.heap.size) (M:Ck L ac.length (dnx t) (dac ac) cl) (J:L<=8) (W:ac.length<=250000):
  Calls Tryz.prog 99 #[v,.slice A ac.length c] w (Ret fun r w'=>Below w.heap.size w w'/\∃st:List Nat,(∀s∈st,s<ac.length)/\st.length<=ac.length/\Bf L (AF (dnx t) cl) (cl.getD 0 0) (st.map fun s=>cl.getD s 0)/\(∀w'',Ac w' w'' (fun k=>k<w.heap.size)->Br w'' w''.heap.size r (AM L (AF (dnx t) cl) (st.map fun s=>cl.getD s 0) st.length) (st.map (dac ac)))/\Do w' w.heap.size r (AM L (AF (dnx t) cl) (st.map fun s=>cl.getD s 0) st.length) (st.map (dac ac))):=by
 refine Calls.ret (RI h Z U I M J W) ?_;rintro r w' ⟨O,st,h1,F,G,C⟩;refine⟨O,st,h1,F,G,fun w'' V=>(C.kept V (fun g e _=>e) (Nat.le_refl _)).read (fun r E=>?_) ?_ ?_,C⟩
 ·unfold AM at E;obtain⟨s,_,rfl⟩:=List.mem_map.1 E;simp;omega
 ·rw [D5 (by simp)];omega
 ·simp;omega
end Go.Proofs.YtjejejmeddkciaaGreatDoor
namespace Go.Proofs.YtjejejmeddkciaaGreatDoor
open Go.RowKit
set_option maxHeartbeats 16000000
set_option maxRecDepth 100000
theorem J4 {w:World} {v:Value} {L:Nat} {t:List (List Nat)} {ac:List Bool} (h:Br w w.heap.size v t ac) (W:DOK L t ac) (hL:L<=8) (hn:ac.length<=250000) (hT:BV w):
  Calls Tryz.prog 50 #[v] w (Ret fun r w'=>Below w.heap.size w w'/\∃cl st:List Nat,Ck L ac.length (dnx t) (dac ac) cl/\(∀s∈st,s<ac.length)/\st.length<=ac.length/\Bf L (AF (dnx t) cl) (cl.getD 0 0) (st.map fun s=>cl.getD s 0)/\(∀w'',Ac w' w'' (fun k=>k<w.heap.size)->Br w'' w''.heap.size r (AM L (AF (dnx t) cl) (st.map fun s=>cl.getD s 0) st.length) (st.map (dac ac)))/\Do w' w.heap.size r (AM L (AF (dnx t) cl) (st.map fun s=>cl.getD s 0) st.length) (st.map (dac ac))):=by
 have ai:=hide h;obtain⟨O,c1,U,c2,rfl,h1,h2⟩:=h;obtain⟨w1,bt,al,af,bl⟩:=Ae w #[.slice O t.length c1,.slice U ac.length c2] 70;obtain⟨w2,bH,am,aC,bm⟩:=Ae w1 #[sn0,sn0] 70;have bo:=al.size;have a8:Below w.heap.size w w2:=al.trans (am.mono bo);have aZ:=a8.size;have hD:=hide (af.below am);have hR:=hide aC;have hM:=hide (fun q x (M:q<ac.length) (G:x<L)=>W.lt M G);have bG:=af.lt;have ap:Calls Tryz.prog 97 #[.agg #[.slice O t.length c1,.slice U ac.length c2]] w2 (Ret fun r w'=>Below w2.heap.size w2 w'/\∃A c,r=.tuple #[.slice A ac.length c,.int .i64 ((dd ac).length:Int)]/\Sl w' w'.heap.size 1 Ai A (Ak (BD ac))):=Ro (ai.out.keep (fun p F=>a8.cell F) aZ) hn;have ar:∀(C:World) (A:Option Addr) (c r cnt:Nat) (cl:List Nat),Below w.heap.size w C->Sl C C.heap.size 1 Ai A (Ak cl)->BU L ac.length (dnx t) (dac ac) r cl cnt->Calls Tryz.prog 98 #[.agg #[.slice O t.length c1,.slice U ac.length c2],.slice A ac.length c] C (Ret fun r' w'=>Below C.heap.size C w'/\∃(I:Option Addr) (c':Nat) (Z:List Nat) (cnt':Nat),r'=.tuple #[.slice I ac.length c',.int .i64 (cnt':Int)]/\Sl w' w'.heap.size 1 Ai I (Ak Z)/\BU L ac.length (dnx t) (dac ac) (r+1) Z cnt'):=fun C A c r cnt cl E hS hC=>by
  refine Calls.ret (Tf (ai.out.keep (fun p F=>E.cell F) E.size) W hS (Nat.le_refl _) hC.len (fun x G=>by have:=(hC.mem x).1 G;have:=hC.le;omega) hL hn (hT.below E)) ?_;rintro r' w' ⟨be,I,c',e,ba⟩;exact⟨be,I,c',_,_,e,ba,Th (fun q x M G=>W.lt M G) hC⟩
 have aq:∀(C:World) (A:Option Addr) (c:Nat) (cl:List Nat),Below w.heap.size w C->Sl C C.heap.size 1 Ai A (Ak cl)->Ck L ac.length (dnx t) (dac ac) cl->Calls Tryz.prog 99 #[.agg #[.slice O t.length c1,.slice U ac.length c2],.slice A ac.length c] C (Ret fun r w'=>Below C.heap.size C w'/\∃st:List Nat,(∀s∈st,s<ac.length)/\st.length<=ac.length/\Bf L (AF (dnx t) cl) (cl.getD 0 0) (st.map fun s=>cl.getD s 0)/\(∀w'',Ac w' w'' (fun k=>k<C.heap.size)->Br w'' w''.heap.size r (AM L (AF (dnx t) cl) (st.map fun s=>cl.getD s 0) st.length) (st.map (dac ac)))/\Do w' C.heap.size r (AM L (AF (dnx t) cl) (st.map fun s=>cl.getD s 0) st.length) (st.map (dac ac))):=fun C A c cl E hS hW=>
  RH (ai.out.keep (fun p F=>E.cell F) E.size) W hS (Nat.le_refl _) hW hL hn
 have aF:=Rp L (dnx t) ac;have aG:=hide aF;obtain⟨n,ad⟩:∃n,n=ac.length:=⟨_,rfl⟩;have ao:=hide ad;rw [<-ad] at bt hD ap ar aq hn ⊢;have br:=hide ar;have bn:=hide aq;clear ar aq;clear h1 h2 bl bm al am af aC ad W hT aF;go_enter Tryz.func50,Tryz.ntmps50;have bh:=hD.out.cell;go_wp2_with fail;refine Calls.ret ap ?_;rintro r w3 ⟨a9,A,c,rfl,aP⟩;have bf:=a8.trans (a9.mono aZ);have b5:=hide (hD.out.below a9);have b8:=hide (hR.out.below a9);have bb:=hide aP;clear ap aP bh a8 a9 hD hR;go_wp2_with fail;go_loopw [3,4] (fun vv cc wr=>∃(r cnt c:Nat) (A:Option Addr) (cl:List Nat),vv=.slice A n c/\cc=.int .i64 (cnt:Int)/\cnt<=n/\Below w.heap.size w wr/\Hid (Blk wr w.heap.size 70 #[.slice O t.length c1,.slice U n c2])/\Hid (Blk wr w1.heap.size 70 #[sn0,sn0])/\Hid (Sl wr wr.heap.size 1 Ai A (Ak cl))/\Hid (BU L n (dnx t) (dac ac) r cl cnt)) (fun _ cc _=>n - (intOf cc).toNat)
 case atStart=>exact⟨0,(dd ac).length,c,A,BD ac,rfl,rfl,by have:=aG.out.le;have:=ao.out;omega,bf,b5,b8,bb,by rw [ao.out];exact aG⟩
 case round=>
  obtain⟨r,cnt,c,A,cl,rfl,rfl,bB,ag,aL,b9,aR,ah⟩:=hrel;have bC:=aL.out.cell;go_wp2_with fail;refine Calls.ret (br.out _ _ _ _ _ _ ag aR.out ah.out) ?_;rintro r' w4 ⟨J,I,c',Z,cnt',rfl,aQ,a4⟩;have a2:=ag.trans (J.mono ag.size);have aJ:=hide (aL.out.below J);have ak:=hide (b9.out.below J);have an:=a4.le;have bj:=ah.out.grow a4;have bc:=hide aQ;have aH:=hide a4;have bd:=hide (aR.out.keep (w':=w4) (fun p F=>J.cell F) J.size);have bz:=aJ.out.cell;clear J aQ a4;by_cases he:cnt'=cnt
  ·subst he;have hW:Ck L n (dnx t) (dac ac) cl:=ah.out.atRest (fun q x M G=>by
    rw [ao.out] at M ⊢;exact hM.out q x M G) aH.out
   have aT:=hide hW;have bp:=a2.size;clear bj an hW;go_wp2_with fail;refine Calls.ret (bn.out _ _ _ _ a2 bd.out aT.out) ?_;rintro d w5 ⟨aa,st,bs,bq,aK,aj,aN⟩;obtain⟨A5,c5,A6,c6,rfl,-,-⟩:=aj w5 (Ac.refl _ _);have V:=ak.out.below aa;have bD:=V.frozen;have bF:=V.lt;have bA:=V.cell;obtain⟨wF,au,aD,a6⟩:=Dm V (.slice A5 (AM L (AF (dnx t) cl) (st.map fun s=>cl.getD s 0) st.length).length c5) (.slice A6 (st.map (dac ac)).length c6);have aE:=aD.cell;have bI:=hide au;have bE:=ak.out.lt;have bg:=hide ((a2.trans (aa.mono bp)).trans (a6.below (by have:=aa.size;omega) fun b E e=>by omega));have aV:=hide (fun w'' (hk:Ac wF w'' (fun k=>k<w.heap.size))=>aj w'' ((a6.mono (fun b _ e=>by omega)).trans hk (fun b _ e=>by omega)));have aY:=hide (aN.kept (base':=w.heap.size) a6 (fun g (e:g=_) _=>by omega) (by omega));have b6:=hide aK;clear aj aN V aD a6 aa aK;unfold CY at au;obtain⟨lr,aX⟩:∃lr,lr=(AM L (AF (dnx t) cl) (st.map fun s=>cl.getD s 0) st.length).length:=⟨_,rfl⟩;obtain⟨la,aW⟩:∃la,la=(st.map (dac ac)).length:=⟨_,rfl⟩;rw [<-aX,<-aW] at au aE aV aY ⊢;clear aX aW;go_wp2_with fail;refine bodyPost_ret (v:=.agg #[.slice A5 lr c5,.slice A6 la c6]) (by simp [results,Tryz.results50,go_sem,aE]) rfl ⟨bg.out,cl,st,aT.out,bs,bq,b6.out,aV.out,aY.out⟩
  ·have ad:¬(cnt':Int)=(cnt:Int):=by omega
   have bi:cnt'<=n:=an;clear he an;go_wp2_with fail;exact⟨⟨r+1,cnt',c',I,Z,rfl,rfl,bi,a2,aJ,ak,bc,aH⟩,by simp [intOf];omega⟩
end Go.Proofs.YtjejejmeddkciaaGreatDoor
namespace Go.Proofs.YtjejejmeddkciaaGreatDoor
open Go.RowKit
set_option maxHeartbeats 4000000
section
variable {S:Type} [DecidableEq S] {L:Nat} {δ:S->Nat->S} {s0:S}
theorem Su {all:List S} {q:Nat} {s:S} (h:all[q]?=some s) {x:Nat} (C:x<L):dnx (AM L δ all all.length) q x=Ax all (δ s x):=by
 unfold dnx AM;rw [List.take_length,getD_some (AX h),getD_some (AX (List.getElem?_range C))]
theorem Ie {all:List S} {q x:Nat} (C:q<all.length) (E:x<L):dnx (AM L δ all all.length) q x=Cy δ all q x:=by
 obtain⟨s,h⟩:=An C;rw [Su h E];unfold Cy;rw [h];rfl
theorem Fq {all:List S} (h:Bf L δ s0 all) {ac:List Bool} (E:ac.length=all.length):DOK L (AM L δ all all.length) ac:=by
 have h0:all.length≠0:=fun e=>by
  have:=h.run (w:=[]) (okW.nil L);rw [List.length_eq_zero_iff.1 e] at this;simp at this
 refine⟨by rw [D5 (Nat.le_refl _),E],by omega,fun r C=>?_⟩;unfold AM at C;rw [List.take_length] at C;obtain⟨s,F,rfl⟩:=List.mem_map.1 C;refine⟨by simp,fun y I=>?_⟩;obtain⟨x,G,rfl⟩:=List.mem_map.1 I;rw [E];exact Kr (h.closed F (List.mem_range.1 G))
end
theorem GR {L n:Nat} {nx nx':Nat->Nat->Nat} (C:∀q x,q<n->x<L->nx q x<n) (h:∀q x,q<n->x<L->nx' q x=nx q x):∀(w:List Nat) (q:Nat),okW L w->q<n->Ay nx' q w=Ay nx q w
 | [],_,_,_=>rfl
 | x::w,q,hw,hq=>by
  have E:=hw x List.mem_cons_self;show Ay nx' (nx' q x) w=Ay nx (nx q x) w
  rw [h q x hq E];exact GR C h w _ (fun y F=>hw y (List.mem_cons_of_mem _ F)) (C q x hq E)
theorem KM {S:Type} [DecidableEq S] {δ δ':S->Nat->S} {s:S} {l:List S}:∀(k:Nat),(∀x,x<k->δ' s x=δ s x)->AZ δ' s l k=AZ δ s l k
 | 0,_=>rfl
 | k+1,h=>by rw [Cr,Cr,KM k (fun x C=>h x (by omega)),h k (by omega)]
theorem PP {S:Type} [DecidableEq S] {L:Nat} {δ δ':S->Nat->S} {s0:S} {i:Nat} {l:List S} (h:Exp L δ s0 i l) (E:∀s x,s∈l->x<L->δ' s x=δ s x):Exp L δ' s0 i l:=by
 induction h with
 | start=>exact .start
 | @row i l s h1 hs ih=>
  have F:=DK (δ:=δ) s l L;have G:=ih fun J x I C=>E J x (F.subset I) C;rw [<-KM (δ:=δ) (δ':=δ') L fun x C=>E s x (F.subset (List.mem_of_getElem? hs)) C];exact .row G hs
theorem Cz.congr {L n:Nat} {nx nx':Nat->Nat->Nat} {acc O:Nat->Bool} {Λ U:List Nat->Bool} (h:Cz L n nx acc Λ) (E:∀q x,q<n->x<L->nx' q x=nx q x) (V:∀q,q<n->O q=acc q) (M:∀w,okW L w->U w=Λ w):Cz L n nx' O U:=by
 have F:∀w,okW L w->Ay nx' 0 w=Ay nx 0 w:=fun w C=>GR (fun q x W E=>h.lt W E) E w 0 C h.pos;refine⟨fun w C=>?_,fun u v G I hz=>?_,?_⟩
 ·rw [F w C,V _ (h.run_lt C),h.lang w C,M w C]
 ·rw [F u G,F v I];exact h.sep u v G I fun z J=>by rw [<-M _ (G.app J),<-M _ (I.app J)];exact hz z J
 ·exact PP h.ord fun s x Z a2=>E s x (List.mem_range.1 Z) a2
structure BH (L:Nat) (t:List (List Nat)) (ac:List Bool) (Λ:List Nat->Bool):Prop where
 ok:DOK L t ac
 can:Cz L ac.length (dnx t) (dac ac) Λ
def EI (t:List (List Nat)) (ac:List Bool) (w:List Nat):Bool:=dac ac (Ay (dnx t) 0 w)
theorem Tt {a:NF} {all:List (List Bool)} (h:Bf a.L a.after a.st all) {w:List Nat} (G:okW a.L w):EI (BG a all all.length) (all.map a.has) w=a.lang w:=by
 have F:=Fq (δ:=a.after) h (ac:=all.map a.has) (by simp);have h1:=h.num G;have I:Ay (dnx (BG a all all.length)) 0 w=Ay (Cy a.after all) 0 w:=by
  have:=GR (L:=a.L) (n:=all.length) (nx:=dnx (AM a.L a.after all all.length)) (nx':=Cy a.after all) (fun q x C E=>by have:=F.lt (by simpa using C) E;simpa using this) (fun q x C E=>(Ie C E).symm) w 0 G (by have:=F.pos;simpa using this);exact this.symm
 unfold EI;rw [I];unfold dac;rw [getD_some (AX h1)];rfl
theorem HG {L:Nat} {t:List (List Nat)} {ac:List Bool} {cl st:List Nat} (G:DOK L t ac) (J:Ck L ac.length (dnx t) (dac ac) cl) (M:∀s∈st,s<ac.length) (F:Bf L (AF (dnx t) cl) (cl.getD 0 0) (st.map fun s=>cl.getD s 0)):
  BH L (AM L (AF (dnx t) cl) (st.map fun s=>cl.getD s 0) st.length) (st.map (dac ac)) (EI t ac):=by
 have h1:=J.canon (fun q x h C=>G.lt h C) G.pos M F;have E:=Fq F (ac:=st.map (dac ac)) (by simp);rw [List.length_map] at E;refine⟨E,?_⟩;rw [List.length_map];refine h1.congr (fun q x h C=>?_) (fun q h=>?_) (fun w O=>rfl)
 ·have:=Ie (L:=L) (δ:=AF (dnx t) cl) (all:=st.map fun s=>cl.getD s 0) (q:=q) (x:=x) (by simpa using h) C;rw [List.length_map] at this;exact this
 ·obtain⟨s,I⟩:=An h;show(st.map (dac ac)).getD q false=_
  rw [getD_some (AX I),getD_some I]
theorem BH.congr {L:Nat} {t:List (List Nat)} {ac:List Bool} {Λ C:List Nat->Bool} (h:BH L t ac Λ) (E:∀w,okW L w->C w=Λ w):BH L t ac C:=
 ⟨h.ok,h.can.congr (fun _ _ _ _=>rfl) (fun _ _=>rfl) E⟩
end Go.Proofs.YtjejejmeddkciaaGreatDoor
namespace Go.Proofs.YtjejejmeddkciaaGreatDoor
open Go.RowKit
set_option maxHeartbeats 16000000
set_option maxRecDepth 100000
theorem Jy {E:Type} {p:Nat->E->Bool} (J:∀s C e,p s e=true->p C e=true->s=C) (ls:List Nat) (G:ls.Nodup):∀es:List E,(ls.flatMap fun s=>es.filter (p s)).length<=es.length
 | []=>by
  have:(ls.flatMap fun s=>([]:List E).filter (p s))=[]:=List.flatMap_eq_nil_iff.2 fun _ _=>rfl;rw [this];exact Nat.le_refl _
 | e::es=>by
  have O:=Jy J ls G es;have h1:∀ls:List Nat,ls.Nodup->(ls.flatMap fun s=>(e::es).filter (p s)).length<=(ls.flatMap fun s=>es.filter (p s)).length+1/\((∀s∈ls,p s e=false)->(ls.flatMap fun s=>(e::es).filter (p s)).length<=(ls.flatMap fun s=>es.filter (p s)).length):=by
   intro ls
   induction ls with
   | nil=>simp
   | cons s ls O=>
    intro G;obtain⟨W,U⟩:=List.nodup_cons.1 G;obtain⟨Z,M⟩:=O U;rw [List.flatMap_cons,List.flatMap_cons,List.length_append,List.length_append,List.filter_cons];by_cases F:p s e=true
    ·have V:∀C∈ls,p C e=false:=fun C I=>by
      rw [Bool.eq_false_iff];intro h;exact W (by rw [J s C e F h];exact I)
     have:=M V;rw [if_pos F,List.length_cons];refine⟨by omega,fun h=>?_⟩;rw [h s List.mem_cons_self] at F;cases F
    ·rw [if_neg F];refine⟨by omega,fun h=>?_⟩;have:=M fun C I=>h C (List.mem_cons_of_mem _ I);omega
  have:=(h1 ls G).1;rw [List.length_cons];omega
theorem SZ (m:List Bool):(Bc m).Nodup:=List.nodup_range.filter _
theorem WA.cat_len {a:WA} {m:List Bool} {x:Nat} (h:m.length=a.n) (E:x<a.L):(a.nf.cat (AJ m) x).length<=a.edges.length:=by
 have e:a.nf.cat (AJ m) x=((Bc m).flatMap fun s:Nat=>a.edges.filter fun e=>decide (e.frm=(s:Int))&&decide (e.letter=(x:Int))).map (·.to):=by
  unfold NF.cat;rw [Fx,List.map_flatMap];unfold Ak;rw [List.flatMap_map];simp only [List.flatMap];congr 1;refine List.map_congr_left fun s C=>?_;rw [Int.toNat_natCast,WA.nf_to a (GW h s C) E];rfl
 rw [e,List.length_map];refine Jy (fun(s F:Nat) e h1 h2=>?_) _ (SZ m) _;simp only [Bool.and_eq_true,decide_eq_true_eq] at h1 h2;omega
def LP (w:World) (a:WA) (v:Value) (w':World):Prop:=
 Below w.heap.size w w'/\((a.nf.Large 400/\v=.tuple #[.agg #[sn0,sn0],.int .i64 4])\/
  (¬a.nf.Large 400/\∃t ac d,BH a.L t ac a.lang/\ac.length<=400/\v=.tuple #[d,.int .i64 0]/\(∀w'',Ac w' w'' (fun k=>k<w.heap.size)->Br w'' w''.heap.size d t ac)/\Do w' w.heap.size d t ac))
def LO (w:World) (a:WA) (v:Value) (w':World):Prop:=
 Below w.heap.size w w'/\((a.nf.Large 400/\v=.tuple #[.agg #[sn0,sn0],.int .i64 4])\/
  (¬a.nf.Large 400/\∃t ac d,BH a.L t ac a.lang/\ac.length<=400/\v=.tuple #[d,.int .i64 0]/\∀w'',Ac w' w'' (fun k=>k<w.heap.size)->Br w'' w''.heap.size d t ac))
theorem MO {v:Value} {a:WA} {w:World} (h:Bj w w.heap.size v a) (al:a.In) (hS:0<=a.states/\a.states<=200000) (hL:0<=a.letters/\a.letters<=8) (he:a.edges.length<=3000000) (bb:a.start.length<=4000000) (hT:BV w):
  Calls Tryz.prog 55 #[v] w (Ret fun r w'=>LP w a r w'):=by
 have bu:=hide h;obtain⟨A1,c1,A2,c2,A3,c3,rfl,h1,h2,h3,h4⟩:=h;obtain⟨w1,cb,ah,a7,bA⟩:=Ae w #[.int .i64 a.letters,.int .i64 a.states,.slice A1 a.start.length c1,.slice A2 a.accept.length c2,.slice A3 a.edges.length c3] 33;obtain⟨w2,cc,ai,aF,bB⟩:=Ae w1 #[sn0,sn0] 70;have bF:=ah.size;have af:Below w.heap.size w w2:=ah.trans (ai.mono bF);have ba:=af.size;have aS:=(a7.below ai).cell;have bY:=a7.lt;have hR:=hide aF;have b5:=HM (bu.out.keep (fun p hp=>af.cell hp) ba) al hS hL he;have b7:=WA.nf_ok al;have hN:a.nf.n<=200000:=by rw [a.nf_n];unfold WA.n;omega
 have ab:a.nf.L<=8:=by show a.L<=8;unfold WA.L;omega
 have aU:∀m x,m.length=a.nf.n->x<a.nf.L->(a.nf.cat (AJ m) x).length<=4000000:=fun m x hm hx=>by
  have:=WA.cat_len (a:=a) (hm.trans a.nf_n) hx;omega
 have bK:=hide (fun(C:World) (d:Value) (I:Below w.heap.size w C) (hI:Cn C C.heap.size d a.nf)=>Tv (k:=400) hI b7 hN ab (by omega) (hT.below I) bb aU)
 have b4:∀(C:World) (d:Value) (all:List (List Bool)),Below w.heap.size w C->Bf a.nf.L a.nf.after a.nf.st all->all.length<=400->Br C C.heap.size d (BG a.nf all all.length) (all.map a.nf.has)->
   Calls Tryz.prog 50 #[d] C (Ret fun r w'=>Below C.heap.size C w'/\∃t ac,BH a.L t ac a.lang/\ac.length<=400/\(∀w'',Ac w' w'' (fun k=>k<C.heap.size)->Br w'' w''.heap.size r t ac)/\Do w' C.heap.size r t ac):=fun C d all I hD hl hI=>by
  have hd:=Fq hD (ac:=all.map a.nf.has) (by simp);refine Calls.ret (J4 (L:=a.nf.L) hI hd ab (by simp;omega) (hT.below I)) ?_;rintro r w' ⟨bw,cl,st,hW,bJ,bI,O,hF,hO⟩;exact⟨bw,_,_,(HG hd hW bJ O).congr fun w hw=>(Tt hD hw).symm,by simp at bI ⊢;omega,hF,hO⟩
 have bD:=hide b4;clear b4;clear h1 h2 h3 h4 bA bB ah ai a7 aF al hS hL he bb hT b7 hN ab aU;go_enter Tryz.func55,Tryz.ntmps55;go_wp2_with fail;refine Calls.ret b5 ?_;rintro nf w3 ⟨bo,aj⟩;have ag:=af.trans (aj.mono ba);have br:=hide (hR.out.below aj);clear b5 aj;go_wp2_with fail;refine Calls.ret (bK.out _ _ ag bo) ?_;rintro r w4 ⟨a2,d,⟨t0,az,bl⟩,hr⟩;have aR:=ag.trans (a2.mono ag.size);have aP:=hide (br.out.below a2);obtain⟨A5,c5,A6,c6,rfl,h5,h6⟩:=bl;obtain⟨w5,cd,a3,G,aY⟩:=Ae w4 #[sn0,sn0] 70;have bU:=G.frozen;have c0:=G.lt;have bR:=G.cell;obtain⟨w6,bc,a8,aa⟩:=Dm G (.slice A5 t0.length c5) (.slice A6 az.length c6);have bZ:=aP.out.lt;have bG:=aR.size;have J:Below w4.heap.size w4 w6:=a3.trans (aa.below a3.size fun b I e=>by omega);have V:=aR.trans (J.mono bG);have F:=aP.out.below J;have bx:=a8.cell;have bV:=F.frozen;have c4:=F.lt;have bT:=F.cell;have bH:=J.size;obtain⟨bO,an⟩:∃n,n=t0.length:=⟨_,rfl⟩;obtain⟨bN,am⟩:∃n,n=az.length:=⟨_,rfl⟩;rw [<-an,<-am] at bc hr bx;unfold CY at bc;rcases hr with⟨aM,rfl⟩|⟨all,O,ae,aJ,rfl⟩
 ·obtain⟨wF,a5,M,E⟩:=Dm F sn0 sn0;have W:=M.cell;have ak:=hide (V.trans (E.below V.size fun b I e=>by omega));have bn:=hide aM;clear aM an am h5 h6 G aY a8 aa a3 J F M E a2 aS;unfold CY at a5;go_wp2_with fail;refine bodyPost_ret (v:=.tuple #[.agg #[sn0,sn0],.int .i64 4]) (by simp [results,Tryz.results55,go_sem,W]) rfl ⟨ak.out,.inl ⟨bn.out,rfl⟩⟩
 ·have b6:¬a.nf.Large 400:=NF.not_large O ae;have aK:Br w6 w6.heap.size (.agg #[.slice A5 bO c5,.slice A6 bN c6]) (BG a.nf all all.length) (all.map a.nf.has):=aJ.keep (fun p hp=>J.cell hp) bH;have aT:=bD.out _ _ _ V O ae aK;have bE:=hide b6;have Z:=hide V;have bs:=hide F;clear b6 an am h5 h6 G aY a8 aa a3 J F a2 aJ aK O ae V aS;go_wp2_with fail;refine Calls.ret aT ?_;rintro d w7 ⟨a4,t',a6,aG,aQ,a9,aO⟩;obtain⟨A7,c7,A8,c8,rfl,-,-⟩:=a9 w7 (Ac.refl _ _);have U:=bs.out.below a4;have bW:=U.frozen;have c9:=U.lt;have bS:=U.cell;obtain⟨wF,a5,M,E⟩:=Dm U (.slice A7 t'.length c7) (.slice A8 a6.length c8);have W:=M.cell;have ak:=hide ((Z.out.trans (a4.mono Z.out.size)).trans (E.below (by have:=a4.size;have:=Z.out.size;omega) fun b I e=>by omega));have ca:=Z.out.size;have aX:=hide (fun w'' (hk:Ac wF w'' (fun k=>k<w.heap.size))=>a9 w'' ((E.mono (fun b _ e=>by omega)).trans hk (fun b _ e=>by omega)));have b8:=hide (aO.kept (base':=w.heap.size) E (fun g (e:g=_) _=>by omega) (by omega));have bk:=hide aG;have bv:=hide aQ;clear aT a9 aO U M E a4 aG aQ;unfold CY at a5;obtain⟨lr,b0⟩:∃lr,lr=t'.length:=⟨_,rfl⟩;obtain⟨la,aZ⟩:∃la,la=a6.length:=⟨_,rfl⟩;rw [<-b0,<-aZ] at a5 W aX b8 ⊢;clear b0 aZ;go_wp2_with fail;refine bodyPost_ret (v:=.tuple #[.agg #[.slice A7 lr c7,.slice A8 la c8],.int .i64 0]) (by simp [results,Tryz.results55,go_sem,W]) rfl ⟨ak.out,.inr ⟨bE.out,t',a6,_,bk.out,bv.out,rfl,aX.out,b8.out⟩⟩
theorem MN {v:Value} {a:WA} {w:World} (h:Bj w w.heap.size v a) (U:a.In) (hS:0<=a.states/\a.states<=200000) (J:0<=a.letters/\a.letters<=8) (O:a.edges.length<=3000000) (V:a.start.length<=4000000) (M:BV w):
  Calls Tryz.prog 55 #[v] w (Ret fun r w'=>LO w a r w'):=by
 refine Calls.ret (MO h U hS J O V M) ?_;rintro r w' ⟨C,h1|⟨h1,t,ac,d,E,F,G,I,-⟩⟩
 ·exact⟨C,.inl h1⟩
 ·exact⟨C,.inr ⟨h1,t,ac,d,E,F,G,I⟩⟩
end Go.Proofs.YtjejejmeddkciaaGreatDoor
namespace Go.Proofs.YtjejejmeddkciaaGreatDoor
open Go.RowKit
set_option maxHeartbeats 16000000
set_option maxRecDepth 100000
theorem Qj:(Tryz.prog.info? 137).map (fun i=>(i.zero,i.size,i.bytes))=some (some (.agg #[.int .i64 0,.int .i64 0,.int .i64 0]),3,24):=by kernel_rfl
theorem Ga:Dd Tryz.prog 31 137 3:=EX Tryz.underlying31 Qj rfl (by omega) (by omega)
end Go.Proofs.YtjejejmeddkciaaGreatDoor
namespace Go.Proofs.YtjejejmeddkciaaGreatDoor
open Go.RowKit
set_option maxHeartbeats 16000000
set_option maxRecDepth 100000
def CK (w:World) (g:Nat) (v0 v1 v2 v3 v4:Value):World:=((((w.setCell ⟨g,0,none⟩ v0).setCell ⟨g,1,none⟩ v1).setCell ⟨g,2,none⟩ v2).setCell ⟨g,3,none⟩ v3).setCell ⟨g,4,none⟩ v4
theorem Dn {w:World} {g:Nat} {e:TypeId} {a0 a1 F G I:Value} (h:Blk w g e #[a0,a1,F,G,I]) (v0 v1 v2 v3 C:Value):∃E,CK w g v0 v1 v2 v3 C=E/\Blk E g e #[v0,v1,v2,v3,C]/\Ac w E (fun k=>k=g):=
 ⟨_,rfl,((((h.set_ 0 v0).set_ 1 v1).set_ 2 v2).set_ 3 v3).set_ 4 C,(((((Ac.refl w (fun k=>k=g)).setCell (p:=⟨g,0,none⟩) (fun _=>rfl) _).setCell (p:=⟨g,1,none⟩) (fun _=>rfl) _).setCell (p:=⟨g,2,none⟩) (fun _=>rfl) _).setCell (p:=⟨g,3,none⟩) (fun _=>rfl) _).setCell (p:=⟨g,4,none⟩) (fun _=>rfl) _⟩
end Go.Proofs.YtjejejmeddkciaaGreatDoor
namespace Go.Proofs.YtjejejmeddkciaaGreatDoor
open Go.RowKit
set_option maxHeartbeats 16000000
set_option maxRecDepth 100000
end Go.Proofs.YtjejejmeddkciaaGreatDoor
namespace Go.Proofs.YtjejejmeddkciaaGreatDoor
open Go.RowKit
set_option maxHeartbeats 16000000
set_option maxRecDepth 100000
theorem EZ {w:World} {B:Nat} {A:Option Addr} {l:List Int} (h:Sl w B 1 Ai A l) {i:Nat} {x:Int} (C:l[i]?=some x):∃b off,A=some ⟨b,off,none⟩/\b<B/\w.cell? ⟨b,off+i,none⟩=some (.int .i64 x):=by
 obtain⟨b,off,e,E,F⟩:=h.2 (by
  intro e;rw [e] at C;simp at C)
 have:=F i x C 0 (by omega);exact⟨b,off,e,E,by simpa [Ai] using this⟩
end Go.Proofs.YtjejejmeddkciaaGreatDoor
namespace Go.Proofs.YtjejejmeddkciaaGreatDoor
open Go.RowKit
set_option maxHeartbeats 16000000
set_option maxRecDepth 100000
theorem Cu {w:World} {l:List Nat} {A:Option Addr} {c F B g4 U:Nat} {p:Nat->Bool} (h:Sl w B 1 Ai A (Ak l)) (hB:B<=w.heap.size) (hl:l.length<=4000000) (hF:F=118\/F=119)
  (hp:∀q∈l,∀w',Below w.heap.size w w'->Calls Tryz.prog F #[.int .i64 (q:Int),.pointer (some ⟨g4,0,none⟩),.pointer (some ⟨U,0,none⟩)] w' (Ret fun r w''=>r=.bool (p q)/\Below w'.heap.size w' w'')):
  Calls Tryz.prog 122 #[.slice A l.length c,.func (.func F) #[] #[.pointer (some ⟨g4,0,none⟩),.pointer (some ⟨U,0,none⟩)]] w (Ret fun r w'=>Below w.heap.size w w'/\((∃k q:Nat,l[k]?=some q/\r=.int .i64 (k:Int)/\(∀q∈l.take k,p q=false)/\p q=true)\/(r=.int .i64 (-1)/\∀q∈l,p q=false))):=by
 have hH:=hide h;have ab:=hide hp;obtain⟨n,J⟩:∃n,n=l.length:=⟨_,rfl⟩;have a3:=hide J;rw [<-J] at hl ⊢;clear h hp J;rcases hF with rfl|rfl
 all_goals
  go_enter Tryz.func122,Tryz.ntmps122;go_wp2_with fail;go_loopw [8] (fun O wr=>∃k:Nat,O=.int .i64 (k:Int)/\k<=n/\Below w.heap.size w wr/\Hid (∀q∈l.take k,p q=false)) (fun O _=>n - (intOf O).toNat)
  case atStart=>exact⟨0,rfl,Nat.zero_le _,Below.refl _ _,hide (by simp)⟩
  case round=>
   obtain⟨k,rfl,hk,E,M⟩:=hrel;by_cases a8:k<n
   ·obtain⟨q,I⟩:=An (l:=l) (i:=k) (by rw [<-a3.out];exact a8);obtain⟨b,off,rfl,hb,Z⟩:=Ex hH.out I;have hc:wr.cell? ⟨b,off+k,none⟩=some (.int .i64 (q:Int)):=(E.cell (by show b<_;omega)).trans Z;have a2:=ab.out q (List.mem_of_getElem? I) wr E;have a5:=hide I;clear I Z;go_wp2_with fail;refine Calls.ret a2 ?_;rintro r w2 ⟨rfl,W⟩;have V:=E.trans (W.mono E.size);clear a2 W;rcases G:p q with _|_
    ·have aa:=hide (show ∀s∈l.take (k+1),p s=false from fun s C=>by
      rw [B5 a5.out] at C;rcases List.mem_append.1 C with C|C
      ·exact M.out s C
      ·rw [List.mem_singleton.1 C];exact G)
     clear G;go_wp2_with fail;exact⟨⟨k+1,by go_num,by omega,V,aa⟩,by simp [intOf];omega⟩
    ·have ad:=hide G;clear G;go_wp2_with fail;go_ret;exact⟨V,.inl ⟨k,q,a5.out,rfl,M.out,ad.out⟩⟩
   ·obtain rfl:k=n:=by omega
    go_wp2_with fail;go_ret;refine⟨E,.inr ⟨rfl,?_⟩⟩;have:=M.out
    rwa [a3.out,List.take_length] at this
end Go.Proofs.YtjejejmeddkciaaGreatDoor
namespace Go.Proofs.YtjejejmeddkciaaGreatDoor
open Go.RowKit
set_option maxHeartbeats 16000000
set_option maxRecDepth 100000
theorem S0 {w:World} {g k:Nat} {C:Array Value} {e:TypeId} {u:Value} (h:w.heap[g]?=some (.cells C e (0,0))):(w.setCell ⟨g,k,none⟩ u).heap[g]?=some (.cells (C.setIfInBounds k u) e (0,0)):=
 Blk.set_ (t:=e) h k u
theorem Kd {w:World} {base n g cap k:Nat} {e:TypeId} {xs:List Value} (h:w.ownsRow base e 1 (.slice (some ⟨g,0,none⟩) n cap) n xs) (U:k<n) (u:Value):
  (w.setCell ⟨g,k,none⟩ u).ownsRow base e 1 (.slice (some ⟨g,0,none⟩) n cap) n (xs.set k u):=by
 refine⟨by simpa using h.1,.inr ?_⟩;rcases h.2 with⟨E,_⟩|⟨Z,V,W,E,J,O,h1,G,I,F⟩
 ·cases E
 ·injection E with C _ M
  injection C with C
  injection C with C
  subst C M;exact⟨g,cap,_,rfl,J,S0 O,h1,G,by simpa using I,by rw [Nat.mul_one] at F ⊢;simp [List.take_set,F]⟩
theorem HQ {w:World} {base n g cap k:Nat} {e:TypeId} {xs:List Value} {u:Value} (h:w.ownsRow base e 1 (.slice (some ⟨g,0,none⟩) n cap) n xs) (F:xs[k]?=some u):w.cell? ⟨g,k,none⟩=some u:=by
 obtain⟨I,G,E,C⟩:=C7 h F;cases E;exact C
theorem Ka {w:World} {base n g cap size:Nat} {e:TypeId} {xs:List Value} (h:w.ownsRow base e size (.slice (some ⟨g,0,none⟩) n cap) n xs) (k:Nat):w.frozen? ⟨g,k,none⟩=false:=by
 rcases h.2 with⟨E,_⟩|⟨J,G,I,E,M,F,_⟩
 ·cases E
 ·injection E with C _ _
  injection C with C
  injection C with C
  subst C;exact Blk.frozen (t:=e) F k
end Go.Proofs.YtjejejmeddkciaaGreatDoor
namespace Go.Proofs.YtjejejmeddkciaaGreatDoor
open Go.RowKit
set_option maxHeartbeats 16000000
set_option maxRecDepth 100000
end Go.Proofs.YtjejejmeddkciaaGreatDoor
namespace Go.Proofs.YtjejejmeddkciaaGreatDoor
open Go.RowKit
set_option maxHeartbeats 4000000
def Es:Code->List Code
 | .loop c=>c::Es c
 | .seq a b=>Es a++Es b
 | .block _ c=>Es c
 | .scope c=>Es c
 | .cond _ a b=>Es a++Es b
 | _=>[]
def CG (f:Func) (k:Nat):Code:=match f.body with
 | some c=>(Es c).getD k .skip
 | none=>.skip
end Go.Proofs.YtjejejmeddkciaaGreatDoor
namespace Go.Proofs.YtjejejmeddkciaaGreatDoor
open Go.RowKit
set_option maxHeartbeats 16000000
set_option maxRecDepth 100000
end Go.Proofs.YtjejejmeddkciaaGreatDoor
namespace Go.Proofs.YtjejejmeddkciaaGreatDoor
open Go.RowKit
set_option maxHeartbeats 16000000
set_option maxRecDepth 100000
end Go.Proofs.YtjejejmeddkciaaGreatDoor
namespace Go.Proofs.YtjejejmeddkciaaGreatDoor
open Go.RowKit
set_option maxHeartbeats 16000000
set_option maxRecDepth 100000
end Go.Proofs.YtjejejmeddkciaaGreatDoor
namespace Go.Proofs.YtjejejmeddkciaaGreatDoor
open Go.RowKit
set_option maxHeartbeats 16000000
set_option maxRecDepth 100000
theorem NF.sort_start {a:NF} (F:a.OK):CL a.start=AJ a.st:=by
 refine Ip fun x=>?_;constructor
 ·intro E;obtain⟨q,rfl,h⟩:=CT (F.start x E);simp only [Int.toNat_natCast] at h;exact⟨q,rfl,by unfold NF.st;rw [Dg h];simp [E]⟩
 ·rintro⟨q,rfl,h⟩;have C:=AP h;rw [a.st_len] at C;unfold NF.st at h;rw [Dg C] at h;simpa using h
end Go.Proofs.YtjejejmeddkciaaGreatDoor
namespace Go.Proofs.YtjejejmeddkciaaGreatDoor
open Go.RowKit
set_option maxHeartbeats 16000000
set_option maxRecDepth 100000
theorem WA.cat_le {a:WA} (E:a.edges.length<=3000000) (m:List Bool) (x:Nat) (h:m.length=a.nf.n) (C:x<a.nf.L):(a.nf.cat (AJ m) x).length<=4000000:=by
 have:=WA.cat_len (a:=a) (h.trans a.nf_n) C;omega
def WA.big (a:WA):Bool:=decide (600<a.start.length)||decide (600<a.accept.length)||decide (1000<a.edges.length)
theorem WA.big_not {a:WA} (h:a.big=false):a.start.length<=600/\a.accept.length<=600/\a.edges.length<=1000:=by
 simp only [WA.big,Bool.or_eq_false_iff,decide_eq_false_iff_not] at h;omega
theorem aCR {v:Value} {a:WA} {w:World} (h:Bj w w.heap.size v a):Calls Tryz.prog 6 #[v] w (Ret fun r w'=>r=.bool a.big/\Below w.heap.size w w'):=by
 obtain⟨M,c1,O,c2,U,c3,rfl,h1,F,G,V⟩:=h;obtain⟨w1,a2,J,I,W⟩:=Ae w #[.int .i64 a.letters,.int .i64 a.states,.slice M a.start.length c1,.slice O a.accept.length c2,.slice U a.edges.length c3] 33;have Z:=I.cell;have C:=hide J;have l1:=h1.1;have l2:=F.1;have l3:=G.1;have E:=hide (show a.big=(decide (600<a.start.length)||decide (600<a.accept.length)||decide (1000<a.edges.length)) from rfl);generalize a.start.length=n1 at*;generalize a.accept.length=n2 at*;generalize a.edges.length=n3 at*;clear h1 F G V W J I;by_cases b1:600<n1
 ·go_enter Tryz.func6,Tryz.ntmps6;go_wp2_with fail;go_ret;exact⟨by rw [E.out];simp [b1],C.out⟩
 ·by_cases b2:600<n2
  ·go_enter Tryz.func6,Tryz.ntmps6;go_wp2_with fail;go_ret;exact⟨by rw [E.out];simp [b2],C.out⟩
  ·by_cases b3:1000<n3
   ·go_enter Tryz.func6,Tryz.ntmps6;go_wp2_with fail;go_ret;exact⟨by rw [E.out];simp [b3];omega,C.out⟩
   ·go_enter Tryz.func6,Tryz.ntmps6;go_wp2_with fail;go_ret;exact⟨by rw [E.out];simp [b1,b2,b3];omega,C.out⟩
def a0:WA:=⟨1,0,[],[],[]⟩
def a1:WA:=⟨1,1,[0],[0],[]⟩
end Go.Proofs.YtjejejmeddkciaaGreatDoor
namespace Go.Proofs.YtjejejmeddkciaaGreatDoor
open Go.RowKit
set_option maxHeartbeats 16000000
set_option maxRecDepth 100000
end Go.Proofs.YtjejejmeddkciaaGreatDoor
