/-
  Part PE of a proof.
-/
import Derived.Test.YtfcfpoemojjglaaGreatDoorPS
import Derived.Test.YtfcfpoemojjglaaGreatDoorPA
set_option maxHeartbeats 16000000
set_option maxRecDepth 100000
set_option linter.unusedVariables false
set_option linter.unusedSimpArgs false
namespace Go.Proofs.YtfcfpoemojjglaaGreatDoor
open Go.RowKit
set_option maxHeartbeats 16000000
set_option maxRecDepth 100000
def CW:Code→List Code
 | .region i o d=>[.region i o d]
 | .loop c=>CW c
 | .seq a b=>CW a++CW b
 | .block _ c=>CW c
 | .scope c=>CW c
 | .cond _ a b=>CW a++CW b
 | _=>[]
def Eu (f:Func) (k:Nat):Code:=match f.body with
 | some c=>(CW c).getD k .skip
 | none=>.skip
structure CP (w0 w:World) (l:List (Nat×TypeId×Array Value)):Prop where
 below:Below w0.heap.size w0 w
 blk:∀x∈l,Blk w x.1 x.2.1 x.2.2∧w0.heap.size≤x.1
 nodup:(l.map (·.1)).Nodup
theorem CP.nil (w:World):CP w w []:=⟨Below.refl _ _,fun _ h=>by simp at h,by simp⟩
theorem CP.add {w0 w w1:World} {l:List (Nat×TypeId×Array Value)} (h:CP w0 w l) (z:Below w.heap.size w w1) {g:Nat} {e:TypeId} {cs:Array Value} (C:Blk w1 g e cs) (E:w.heap.size≤g):CP w0 w1 ((g,e,cs)::l):=by
 refine⟨h.below.trans (z.mono h.below.size),fun x y=>?_,?_⟩
 ·rcases List.mem_cons.1 y with rfl | y
  ·exact⟨C,Nat.le_trans h.below.size E⟩
  ·exact⟨(h.blk x y).1.below z,(h.blk x y).2⟩
 ·rw [List.map_cons,List.nodup_cons]
  refine⟨fun y=>?_,h.nodup⟩
  obtain⟨x,y,e⟩:=List.mem_map.1 y
  have:=(h.blk x y).1.lt
  dsimp only at e
  omega
theorem CP.drew {w0 w:World} {l:List (Nat×TypeId×Array Value)} (h:CP w0 w l):CP w0 w.drew l:=
 ⟨h.below.trans ((Ap w).mono h.below.size),h.blk,h.nodup⟩
theorem CP.pick {w0 w:World} {l:List (Nat×TypeId×Array Value)} (h:CP w0 w l) (l':List (Nat×TypeId×Array Value)) (y:∀x∈l',x∈l) (z:(l'.map (·.1)).Nodup):CP w0 w l':=
 ⟨h.below,fun x C=>h.blk x (y x C),z⟩
def set4t (w:World) (g:Nat) (v0 v1 v2 v3:Value):World:=(((w.setCell ⟨g,0,none⟩ v0).setCell ⟨g,1,none⟩ v1).setCell ⟨g,2,none⟩ v2).setCell ⟨g,3,none⟩ v3
theorem Lg {w:World} {g:Nat} {e:TypeId} {a0 a1 z C:Value} (h:Blk w g e #[a0,a1,z,C]) (v0 v1 v2 v3:Value):∃y,set4t w g v0 v1 v2 v3=y∧Blk y g e #[v0,v1,v2,v3]∧Ac w y (fun k=>k=g):=
 ⟨_,rfl,(((h.set_ 0 v0).set_ 1 v1).set_ 2 v2).set_ 3 v3,
  ((((Ac.refl w (fun k=>k=g)).setCell (p:=⟨g,0,none⟩) (fun _=>rfl) v0).setCell (p:=⟨g,1,none⟩) (fun _=>rfl) v1).setCell (p:=⟨g,2,none⟩) (fun _=>rfl) v2).setCell (p:=⟨g,3,none⟩) (fun _=>rfl) v3⟩
theorem CP.set4t {w0 w:World} {l:List (Nat×TypeId×Array Value)} {g:Nat} {e:TypeId} {a b c d:Value} (h:CP w0 w ((g,e,#[a,b,c,d])::l)) (v0 v1 v2 v3:Value):CP w0 (set4t w g v0 v1 v2 v3) ((g,e,#[v0,v1,v2,v3])::l):=by
 have z:=(h.blk _ List.mem_cons_self)
 obtain⟨G,F,E,hk⟩:=Lg z.1 v0 v1 v2 v3
 rw [F]
 refine⟨h.below.trans (hk.below h.below.size fun b E e=>by have:=z.2; dsimp only at this; omega),fun x y=>?_,h.nodup⟩
 rcases List.mem_cons.1 y with rfl | y
 ·exact⟨E,z.2⟩
 ·have h1:=h.blk x (List.mem_cons_of_mem _ y)
  refine⟨Blk.kept h1.1 hk fun e=>?_,h1.2⟩
  have C:=h.nodup
  rw [List.map_cons,List.nodup_cons] at C
  exact C.1 (List.mem_map.2 ⟨x,y,e⟩)
section
variable {P:Program} {ops:Array Oper} {rest:List Oper} {o:Oper} {a:Act} {Q:Exit→Act→World→Prop}
theorem Ul {w:World} {t bytes sz:Nat} {z:Value} (F:(P.info? t).map (fun i=>(i.zero,i.size,i.bytes))=some (some z,sz,bytes))
  (E:o.guard=none) (ho:o.op=.alloc t)
  (h:∀g w1,Blk w1 g t z.cells→Below w.heap.size w w1→w.heap.size≤g→wpList P ops Q rest (a.put o.dst (.pointer (some ⟨g,0,none⟩))) w1):wpList P ops Q (o::rest) a w:=by
 refine wpList_plain E fun K C=>?_
 obtain⟨i,h1,y,I,J⟩:=info_parts F
 have G:(Instr.alloc t true (.tuple #[])).run P w=.ok (.pointer (some ⟨w.heap.size,0,none⟩)) (w.alloc (.cells z.cells t)):=by
  simp [Instr.alloc,zeroValue,typeInfo,go_sem,h1,y]
 unfold Oper.wp execOp
 simp only [ho,Sem.run_bind,Sem.run_pure,Result.andThen_ok,G]
 exact C _ _ (h _ _ (Blk.new _ _ _) ((Below.refl _ _).alloc (Nat.le_refl _) _) (Nat.le_refl _))
end
namespace Reg
theorem rest_walkE {P:Program} {Q:Bo} {a:Act} {w:World} {l E:List Oper} {tab D T:List Nat} (z C:List Nat) (F:z++C=T) (I:pick l.toArray z=E)
  (G:(z.all (fun i=>decide (i<l.length))&&DS P false l.toArray tab z&&D.all (fun r=>z.all fun y=>match l.toArray[r]?,l.toArray[y]? with
   | some q,some oy=>!Bq q.op||!eff P false oy||Bl tab r y
   | _,_=>true))=true)
  (h:∀Qf:Bo,(∀a w,CB P l.toArray tab Q (z++D) C a w→Qf .normal a w)→wpList P l.toArray Qf E a w):CB P l.toArray tab Q D T a w:=by
 subst F
 exact rest_walk' z C I G h
end Reg
theorem Qo:(Tryz.prog.info? 88).map (fun i=>(i.zero,i.size,i.bytes))=some (some (.agg #[.int .i64 0,.slice none 0 0,.slice none 0 0,.slice none 0 0]),4,80):=by kernel_rfl
theorem QT (z:Value) (n:Nat):madeCells #[z] (n*1)=(List.replicate n z).toArray:=by rw [HA,KH]
theorem Rg {w:World} {I n U c2 k1 k2 B:Nat} {L:Int} {v4:Value} {M O:Option Addr} {acc:List Int} (hn:n≤200000) (aX:Blk w I 35 #[.int .i64 L,.int .i64 (n:Int),.slice M k1 U,.slice O k2 c2,v4])
    (h2:Sl w B 1 Ai O acc) (Z:k2=acc.length) (y:B≤w.heap.size) (W:∀x∈acc,inN n x=true) {v2:Value}
    {u0 u3 u4 u5 u6 u7 u8 u9 b5 b6 b7 b8 b9 ba bb bc bd be a5 a6 a7 a8 a9 aa ab ad ae af ag ah ai aj ak al am an ao ap ar au av aw ax ay az aA aB aC aE aF aG aH aJ aK aL aM aN aO aQ aR aS aT u64 aU:Value}
    {Q:Exit→Act→World→Prop} (hN:Reg.NoQ Q)
    (hQ:∀(x7 x8 x9 bj bk bl bm bn bo bp bq br bs:Value) (w':World) (g3 F gm:Nat),CP w w' [(g3,88,#[.int .i64 L,.slice (some ⟨F,0,none⟩) n n,.slice M k1 U,.slice (some ⟨gm,0,none⟩) n n]),(F,75,(List.replicate n (Value.slice none 0 0)).toArray),(gm,4,((BN n acc).map Value.bool).toArray)]→
      Q .normal ⟨List.toArray (u0::(.pointer (some ⟨I,0,none⟩))::v2::(.pointer (some ⟨g3,0,none⟩))::u4::u5::u6::x7::x8::x9::bj::bk::bl::bm::bn::bo::bp::bq::br::bs::a5::a6::a7::a8::a9::aa::ab::ad::ae::af::
      ag::ah::ai::aj::ak::al::am::an::ao::ap::ar::au::av::aw::ax::ay::az::aA::aB::aC::aE::aF::aG::aH::aJ::aK::aL::aM::aN::aO::aQ::aR::aS::aT::u64::aU::[]),[]⟩ w'):
    (Eu Tryz.f41 1).wp Tryz.prog Q ⟨List.toArray (u0::(.pointer (some ⟨I,0,none⟩))::v2::u3::u4::u5::u6::u7::u8::u9::b5::b6::b7::b8::b9::ba::bb::bc::bd::be::a5::a6::a7::a8::a9::aa::ab::ad::ae::af::ag::ah::ai::aj::ak::
      al::am::an::ao::ap::ar::au::av::aw::ax::ay::az::aA::aB::aC::aE::aF::aG::aH::aJ::aK::aL::aM::aN::aO::aQ::aR::aS::aT::u64::aU::[]),[]⟩ w:=by
  conv=>arg 2; whnf
  have bw:=aX.cell
  have b2:=hide Z
  have b1:=hide W
  clear Z W
  refine Reg.region_spl [0,1,0,4,12,0,32,0,128,0,512,1920,4095,0,16383] (.node 4 11 (.node 4 13 (.node 11 13 (.node 12 13 (.leaf [0,1,2,3,5,6,7,8,9,10,4,11,12,13,14]) (.leaf [0,1,2,3,5,6,7,8,9,10,4,11,13,12,14])) (.leaf [0,1,2,3,5,6,7,8,9,10,4,13,11,12,14])) (.leaf [0,1,2,3,5,6,7,8,9,10,13,4,11,12,14])) (.node 4 13 (.node 12 13 (.leaf [0,1,2,3,5,6,7,8,9,10,11,4,12,13,14]) (.leaf [0,1,2,3,5,6,7,8,9,10,11,4,13,12,14])) (.node 11 13 (.leaf [0,1,2,3,5,6,7,8,9,10,11,13,4,12,14]) (.leaf [0,1,2,3,5,6,7,8,9,10,13,11,4,12,14])))) (by kernel_rfl) hN ?_
  dsimp only [Reg.Spl.goal]
  have z:=(CP.nil w).drew
  repeat' (with_reducible refine And.intro ?_ ?_)
  all_goals
    refine Reg.rest_walkE [0,1,2,3,5,6,7,8,9,10] _ rfl rfl (by kernel_rfl) ?_
    intro Qf h
    go_wp2_with fail
    refine h _ _ ?_
    clear h
    iterate 5
      first
      | (refine Reg.rest_act' 4 _ [1,6,8,10] rfl (by kernel_rfl) ?_
         intro Qf h
         simp only [gT,gS,gZ]
         refine LG Tryz.underlying86 Qk (by omega) (by omega) n (by omega) rfl _ _ rfl rfl rfl ?_
         intro F w1 C y E
         first | refine h _ _ ⟨Reg.same_below y _ rfl,?_⟩ | refine⟨Reg.same_below y _ rfl,?_⟩
         replace z:=z.add y C E
         try clear h
         clear C y E)
      | (refine Reg.rest_act' 11 _ [1,3,6] rfl (by kernel_rfl) ?_
         intro Qf h
         simp only [gT,gS,gZ]
         go_wp2_with fail
         rw [b2.out]
         refine Calls.ret (Q3 (h2.keep (B':=B) (fun p hp=>z.below.cell (by omega)) (Nat.le_refl _)) (by have:=z.below.size; omega) hn b1.out) ?_
         rintro v w1 ⟨y,⟨gm,-,rfl,C⟩,V⟩
         have E:=V gm rfl
         rw [Dh]
         go_wp2_with fail
         first | refine h _ _ ⟨Reg.same_below y _ rfl,?_⟩ | refine⟨Reg.same_below y _ rfl,?_⟩
         replace z:=z.add y C E
         try clear h
         clear C y E V)
      | (refine Reg.rest_walkE [13] _ rfl rfl (by kernel_rfl) ?_
         intro Qf h
         refine Ul Qo rfl rfl ?_
         intro g3 w1 C y E
         refine h _ _ ?_
         replace z:=z.add y C E
         try clear h
         clear C y E)
      | (refine Reg.rest_walkE [12] _ rfl rfl (by kernel_rfl) ?_
         intro Qf h
         go_wp2_with fail
         first | refine h _ _ ?_ | skip
         try clear h)
      | (refine Reg.rest_walkE [14] _ rfl rfl (by kernel_rfl) ?_
         intro Qf h
         have G:=(z.blk (g3,88,#[.int .i64 0,.slice none 0 0,.slice none 0 0,.slice none 0 0]) (by simp [Value.cells])).1
         have bx:=G.cell
         have bz:=G.frozen
         have bA:=G.lt
         clear G
         go_wp2_with fail
         first | refine h _ _ ?_ | skip
         try clear h)
    refine Reg.rest_end ?_
    obtain⟨aZ,b0,b4⟩:=z
    simp only [List.map_cons,List.map_nil,List.nodup_cons,List.mem_cons,List.not_mem_nil,not_or,or_false,List.nodup_nil,not_false_eq_true,and_true] at b4
    refine hQ _ _ _ _ _ _ _ _ _ _ _ _ _ _ g3 F gm ?_
    have aW:CP w w1 [(g3,88,#[.int .i64 0,.slice none 0 0,.slice none 0 0,.slice none 0 0]),(F,75,(List.replicate n (Value.slice none 0 0)).toArray),(gm,4,((BN n acc).map Value.bool).toArray)]:=by
      refine⟨aZ,?_,?_⟩
      · intro x J
        rw [←QT] at J
        refine b0 x ?_
        simp only [List.mem_cons,List.not_mem_nil,or_false] at J ⊢
        rcases J with rfl | rfl | rfl
        · first | exact .inl rfl | exact .inr (.inl rfl) | exact .inr (.inr rfl)
        · first | exact .inl rfl | exact .inr (.inl rfl) | exact .inr (.inr rfl)
        · first | exact .inl rfl | exact .inr (.inl rfl) | exact .inr (.inr rfl)
      · simp only [List.map_cons,List.map_nil,List.nodup_cons,List.mem_cons,List.not_mem_nil,not_or,or_false,List.nodup_nil,not_false_eq_true,and_true]
        omega
    exact aW.set4t _ _ _ _
end Go.Proofs.YtfcfpoemojjglaaGreatDoor
namespace Go.Proofs.YtfcfpoemojjglaaGreatDoor
open Go.RowKit
set_option maxHeartbeats 16000000
set_option maxRecDepth 100000
def Bi (n:Nat) (f:Nat→Value):Array Value:=((List.range n).map f).toArray
theorem CV {n i:Nat} (f:Nat→Value) (h:i<n):(Bi n f)[i]?=some (f i):=by simp [Bi,h]
theorem Fp (n:Nat) (f:Nat→Value):(Bi n f).size=n:=by simp [Bi]
theorem F7 (n i:Nat) (f:Nat→Value) (v:Value):(Bi n f).setIfInBounds i v=Bi n (fun x=>if x=i then v else f x):=by
 apply Array.ext_getElem?
 intro j
 rw [Array.getElem?_setIfInBounds]
 by_cases y:j<n
 ·by_cases e:i=j
  ·subst e
   rw [if_pos rfl,if_pos (by rw [Fp]; exact y),CV _ y,if_pos rfl]
  ·rw [if_neg e,CV _ y,CV _ y,if_neg (fun h=>e h.symm)]
 ·have z:∀g:Nat→Value,(Bi n g)[j]?=none:=fun g=>Array.getElem?_eq_none (by rw [Fp]; omega)
  rw [z,z]
  split
  ·rw [if_neg (by rw [Fp]; omega)]
  ·rfl
theorem D4 {n:Nat} {f g:Nat→Value} (h:∀i,i<n→f i=g i):Bi n f=Bi n g:=by
 unfold Bi
 rw [List.map_congr_left fun i y=>h i (List.mem_range.1 y)]
theorem Fo (n:Nat) (z:Value):Array.replicate n z=Bi n fun _=>z:=by
 apply Array.ext'
 simp [Bi,List.map_const']
def up1 {D:Type} (f:Nat→D) (i:Nat) (v:D):Nat→D:=fun x=>if x=i then v else f x
def up2 {D:Type} (f:Nat→Nat→D) (i x:Nat) (v:D):Nat→Nat→D:=fun a b=>if a=i∧b=x then v else f a b
theorem G7 {D:Type} (f:Nat→Nat→D) (i x:Nat) (v:D):up2 f i x v i x=v:=by simp [up2]
theorem E0 {D:Type} {f:Nat→Nat→D} {i x a b:Nat} {v:D} (h:¬(a=i∧b=x)):up2 f i x v a b=f a b:=if_neg h
structure EC (w0 wr:World) (n L i gn:Nat) (gi:Nat→Nat):Prop where
 kept:Ac w0 wr (fun k=>k=gn)
 top:Blk wr gn 75 (Bi n fun s=>if s<i then .slice (some ⟨gi s,0,none⟩) L L else .slice none 0 0)
 row:∀s,s<i→Blk wr (gi s) 24 (Bi L fun _=>.slice none 0 0)∧w0.heap.size≤gi s
 inj:∀s,s<i→∀s',s'<i→gi s=gi s'→s=s'
theorem EC.step {w0 wr w2:World} {n L i y gr:Nat} {z:Nat→Nat} (h:EC w0 wr n L i y z) (Z:i<n) (C:Below wr.heap.size wr w2) (O:Blk w2 gr 24 (Bi L fun _=>.slice none 0 0)) (V:wr.heap.size≤gr):
  EC w0 (w2.setCell ⟨y,i,none⟩ (.slice (some ⟨gr,0,none⟩) L L)) n L (i+1) y (up1 z i gr):=by
 have I:=h.kept.size
 have W:=h.top.lt
 have hk:=(Ac.refl w2 (fun k=>k=y)).setCell (p:=⟨y,i,none⟩) (fun _=>rfl) (.slice (some ⟨gr,0,none⟩) L L)
 have G:∀s,s<i→z s<wr.heap.size:=fun s I=>(h.row s I).1.lt
 refine⟨(h.kept.trans (Ac.of_below C (fun _=>False)) fun _ _ e=>e.elim).trans hk fun _ _ e=>e,?_,fun s a2=>?_,fun s h1 J U e=>?_⟩
 ·have h1:=(h.top.below C).set_ i (.slice (some ⟨gr,0,none⟩) L L)
  rw [F7] at h1
  rw [D4 (g:=fun x=>if x=i then Value.slice (some ⟨gr,0,none⟩) L L else if x<i then .slice (some ⟨z x,0,none⟩) L L else .slice none 0 0) (fun s _=>by
   unfold up1
   by_cases e:s=i
   ·subst e; simp
   ·by_cases E:s<i
    ·rw [if_pos (by omega),if_neg e,if_neg e,if_pos E]
    ·rw [if_neg (by omega),if_neg e,if_neg E])]
  exact h1
 ·unfold up1
  split
  ·exact⟨O.kept hk (fun e=>by omega),by omega⟩
  ·obtain⟨F,M⟩:=h.row s (by omega)
   exact⟨(F.below C).kept hk (fun e=>F.ne_ h.top (by decide) e),M⟩
 ·unfold up1 at e
  split at e <;> split at e
  ·omega
  ·have:=G J (by omega); omega
  ·have:=G s (by omega); omega
  ·exact h.inj s (by omega) J (by omega) e
structure Ea (w0 wr:World) (n L gn:Nat) (gi:Nat→Nat) (u:Nat→Nat→Value) (l:Nat→Nat→List Int):Prop where
 kept:Ac w0 wr (fun k=>k=gn)
 top:Blk wr gn 75 (Bi n fun s=>.slice (some ⟨gi s,0,none⟩) L L)
 row:∀s,s<n→Blk wr (gi s) 24 (Bi L (u s))∧w0.heap.size≤gi s
 inj:∀s,s<n→∀s',s'<n→gi s=gi s'→s=s'
 own:∀s,s<n→∀x,x<L→wr.ownsRow w0.heap.size 3 1 (u s x) (l s x).length ((l s x).map (Value.int .i64))
 sep:∀s,s<n→∀x,x<L→∀s',s'<n→∀x',x'<L→∀g,(u s x).ownBlock=some g→(u s' x').ownBlock=some g→s=s'∧x=x'
theorem EC.done {w0 wr:World} {n L z:Nat} {y:Nat→Nat} (h:EC w0 wr n L n z y):Ea w0 wr n L z y (fun _ _=>.slice none 0 0) (fun _ _=>[]):=by
 refine⟨h.kept,?_,h.row,h.inj,fun s _ x _=>Cb,fun s _ x _ F _ G _ g C=>by simp [Value.ownBlock] at C⟩
 have h1:=h.top
 rw [D4 (g:=fun s=>Value.slice (some ⟨y s,0,none⟩) L L) (fun s E=>by rw [if_pos E])] at h1
 exact h1
theorem Ea.keep {w0 wr w2:World} {n L E:Nat} {C:Nat→Nat} {u:Nat→Nat→Value} {l:Nat→Nat→List Int} (h:Ea w0 wr n L E C u l) (y:Below wr.heap.size wr w2):Ea w0 w2 n L E C u l:=
 ⟨h.kept.trans (Ac.of_below y (fun _=>False)) fun _ _ e=>e.elim,h.top.below y,fun s z=>⟨(h.row s z).1.below y,(h.row s z).2⟩,h.inj,fun s z x F=>Bt (h.own s z x F) y,h.sep⟩
theorem Ea.step {w0 wr w2:World} {n L Z f y:Nat} {J:Nat→Nat} {u:Nat→Nat→Value} {l:Nat→Nat→List Int} (h:Ea w0 wr n L Z J u l) (M:f<n) (hy:y<L) {F:Value} {to:Int}
  (hk:Ac wr w2 (fun k=>(u f y).ownBlock=some k)) (ho:w2.ownsRow w0.heap.size 3 1 F ((l f y).length+1) ((l f y).map (Value.int .i64)++[.int .i64 to])) (ag:BJ wr (u f y) F):
  Ea w0 (w2.setCell ⟨J f,y,none⟩ F) n L Z J (up2 u f y F) (up2 l f y (l f y++[to])):=by
 have a5:=h.own f M y hy
 have C:=h.kept.size
 have V:=(Ac.refl w2 (fun k=>k=J f)).setCell (p:=⟨J f,y,none⟩) (fun _=>rfl) F
 have W:∀s,s<n→Blk w2 (J s) 24 (Bi L (u s)):=fun s C=>(h.row s C).1.kept hk (Aw a5 (h.row s C).1 (by decide))
 have ad:Blk w2 Z 75 (Bi n fun s=>.slice (some ⟨J s,0,none⟩) L L):=h.top.kept hk (Aw a5 h.top (by decide))
 have af:∀s,s<n→∀x,x<L→∀g,(u s x).ownBlock=some g→g<wr.heap.size:=fun s C x O g z=>Cj (h.own s C x O) z
 have ab:∀s,s<n→∀x,x<L→¬(s=f∧x=y)→∀g,F.ownBlock=some g→(u s x).ownBlock≠some g:=fun s C x O ah g z e=>by
  rcases ag with h1 | ⟨g',h1,h2⟩
  ·exact ah (h.sep s C x O f M y hy g e (by rw [←h1]; exact z))
  ·rw [z] at h1
   have:=af s C x O g e
   injection h1 with h1
   omega
 refine⟨(h.kept.trans hk fun b hb e=>by have:=Bb a5 e; omega).trans V fun b hb e=>by have:=(h.row f M).2; omega,ad.kept V (fun e=>(W f M).ne_ ad (by decide) e.symm),fun s E=>⟨?_,(h.row s E).2⟩,h.inj,fun s E x O=>?_,fun s h1 x h2 s' h3 x' h4 g z U=>?_⟩
 ·by_cases e:s=f
  ·subst e
   have h1:=(W s E).set_ y F
   rw [F7] at h1
   rw [D4 (g:=fun x=>if x=y then F else u s x) (fun x _=>by simp [up2])]
   exact h1
  ·rw [D4 (g:=u s) (fun x _=>E0 fun hh=>e hh.1)]
   exact(W s E).kept V fun hh=>e (h.inj s E f M hh)
 ·by_cases e:s=f∧x=y
  ·obtain⟨rfl,rfl⟩:=e
   rw [G7,G7,List.length_append,List.map_append]
   exact AK V ho (fun g cs z hB=>by subst z; exact hB.ne_ (W s E) (by decide) rfl)
  ·rw [E0 e,E0 e]
   refine AK V (hk.ownsRow (h.own s E x O) fun g z ai=>e (h.sep s E x O f M y hy g z ai)) (fun g cs z hB=>by subst z; exact hB.ne_ (W f M) (by decide) rfl)
 ·by_cases G:s=f∧x=y <;> by_cases I:s'=f∧x'=y
  ·exact⟨G.1.trans I.1.symm,G.2.trans I.2.symm⟩
  ·rw [G.1,G.2,G7] at z
   rw [E0 I] at U
   exact absurd U (ab s' h3 x' h4 I g z)
  ·rw [I.1,I.2,G7] at U
   rw [E0 G] at z
   exact absurd z (ab s h1 x h2 G g U)
  ·rw [E0 G] at z
   rw [E0 I] at U
   exact h.sep s h1 x h2 s' h3 x' h4 g z U
theorem Rf {wr:World} {n L C B base:Nat} {y:Nat→Nat} {u:Nat→Nat→Value} {l:Nat→Nat→List Int} (top:Blk wr C 75 (Bi n fun s=>.slice (some ⟨y s,0,none⟩) L L)) (row:∀s,s<n→Blk wr (y s) 24 (Bi L (u s))) (own:∀s,s<n→∀x,x<L→wr.ownsRow base 3 1 (u s x) (l s x).length ((l s x).map (Value.int .i64))) (E:wr.heap.size≤B) (I:n≤4000000) (G:L≤4000000) (F:∀s,s<n→∀x,x<L→(l s x).length≤4000000):
  VSl R2 wr B (some ⟨C,0,none⟩) ((List.range n).map fun s=>(List.range L).map fun x=>l s x):=by
 refine⟨by simp; omega,fun _=>⟨C,0,rfl,by have:=top.lt; omega,fun s d hd=>?_⟩⟩
 have h:s<n:=by simpa using AP hd
 rw [AX (List.getElem?_range h)] at hd
 have hd:=Option.some.inj hd
 subst hd
 refine⟨.slice (some ⟨y s,0,none⟩) L L,by rw [top.cell,Nat.zero_add,CV _ h],_,L,by rw [List.length_map,List.length_range],by simp; omega,fun _=>⟨y s,0,rfl,by have:=(row s h).lt; omega,fun x d hd=>?_⟩⟩
 have z:x<L:=by simpa using AP hd
 rw [AX (List.getElem?_range z)] at hd
 have hd:=Option.some.inj hd
 subst hd
 exact⟨u s x,by rw [(row s h).cell,Nat.zero_add,CV _ z],B8 (own s h x z) rfl E (by have:=F s h x z; omega)⟩
end Go.Proofs.YtfcfpoemojjglaaGreatDoor
