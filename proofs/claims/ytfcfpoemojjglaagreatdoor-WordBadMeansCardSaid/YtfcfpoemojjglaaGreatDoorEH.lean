/-
  Part EH of a proof.
-/
import Derived.Test.YtfcfpoemojjglaaGreatDoorPA
import Derived.Test.YtfcfpoemojjglaaGreatDoorPB
import Derived.Test.YtfcfpoemojjglaaGreatDoorPI
import Derived.Test.YtfcfpoemojjglaaGreatDoorEA
import Derived.Test.YtfcfpoemojjglaaGreatDoorCA
set_option maxHeartbeats 16000000
set_option maxRecDepth 100000
set_option linter.unusedVariables false
set_option linter.unusedSimpArgs false
namespace Go.Proofs.YtfcfpoemojjglaaGreatDoor
def BW (f s:List Int) (q x:Nat):Nat:=if (q=0∧(x:Int)∈f)∨(q=1∧(x:Int)∈s) then 1 else 2
def C6 (f s:List Int):List Nat→Bool
 | []=>false
 | x::w=>decide ((x:Int)∈f)&&w.all fun y:Nat=>decide ((y:Int)∈s)
theorem Ng (f s:List Int) (q x:Nat):BW f s q x≤2:=by unfold BW; split <;> omega
theorem Hj (f s:List Int):∀w,Ay (BW f s) 2 w=2
 | []=>rfl
 | x::w=>by
  show Ay (BW f s) (BW f s 2 x) w=2
  have:BW f s 2 x=2:=by unfold BW; rw [if_neg (by omega)]
  rw [this]
  exact Hj f s w
theorem Jg (f s:List Int):∀w,decide (Ay (BW f s) 1 w=1)=w.all fun y:Nat=>decide ((y:Int)∈s)
 | []=>rfl
 | x::w=>by
  show decide (Ay (BW f s) (BW f s 1 x) w=1)=_
  rw [List.all_cons]
  by_cases h:(x:Int)∈s
  ·have:BW f s 1 x=1:=by unfold BW; rw [if_pos (.inr ⟨rfl,h⟩)]
   rw [this,Jg f s w,decide_eq_true h,Bool.true_and]
  ·have:BW f s 1 x=2:=by unfold BW; rw [if_neg]; rintro(z | z) <;> simp_all
   rw [this,Hj,decide_eq_false h]
   rfl
theorem Nf (f s:List Int):∀w,decide (Ay (BW f s) 0 w=1)=C6 f s w
 | []=>rfl
 | x::w=>by
  show decide (Ay (BW f s) (BW f s 0 x) w=1)=(decide ((x:Int)∈f)&&w.all fun y:Nat=>decide ((y:Int)∈s))
  by_cases h:(x:Int)∈f
  ·have:BW f s 0 x=1:=by unfold BW; rw [if_pos (.inl ⟨rfl,h⟩)]
   rw [this,Jg f s w,decide_eq_true h,Bool.true_and]
  ·have:BW f s 0 x=2:=by unfold BW; rw [if_neg]; rintro(z | z) <;> simp_all
   rw [this,Hj,decide_eq_false h]
   rfl
def Cf (L:Nat) (f s:List Int):WA:=⟨(L:Int),2,[0],[1],(f.map fun x=>⟨0,x,1⟩)++s.map fun x=>⟨1,x,1⟩⟩
theorem L3 {L:Nat} {f s:List Int} (G:1≤L∧L≤8) (C:∀x∈f,inN L x=true) (E:∀x∈s,inN L x=true):(Cf L f s).ok=true:=by
 rw [WA.ok_iff]
 refine⟨⟨by show(1:Int)≤(L:Int); omega,by show(L:Int)≤8; omega,by show(0:Int)≤2; omega,by show(2:Int)≤400; omega⟩,fun x y=>?_,fun x y=>?_,fun e z=>?_⟩
 ·rw [List.mem_singleton.1 y]; rfl
 ·rw [List.mem_singleton.1 y]; rfl
 ·rcases List.mem_append.1 z with h | h
  ·obtain⟨x,y,rfl⟩:=List.mem_map.1 h
   exact⟨rfl,C x y,rfl⟩
  ·obtain⟨x,y,rfl⟩:=List.mem_map.1 h
   exact⟨rfl,E x y,rfl⟩
theorem IJ {L:Nat} {f s:List Int} {q x:Nat} {y:Int}:y∈(Cf L f s).to q x↔y=1∧((q=0∧(x:Int)∈f)∨(q=1∧(x:Int)∈s)):=by
 rw [WA.mem_to]
 constructor
 ·rintro⟨e,J,I,C,E⟩
  rcases List.mem_append.1 J with h | h
  ·obtain⟨z,G,rfl⟩:=List.mem_map.1 h
   simp only at I C E
   exact⟨E.symm,.inl ⟨by omega,C ▸ G⟩⟩
  ·obtain⟨z,G,rfl⟩:=List.mem_map.1 h
   simp only at I C E
   exact⟨E.symm,.inr ⟨by omega,C ▸ G⟩⟩
 ·rintro⟨rfl,⟨rfl,h⟩ | ⟨rfl,h⟩⟩
  ·exact⟨⟨0,x,1⟩,List.mem_append_left _ (List.mem_map.2 ⟨_,h,rfl⟩),rfl,rfl,rfl⟩
  ·exact⟨⟨1,x,1⟩,List.mem_append_right _ (List.mem_map.2 ⟨_,h,rfl⟩),rfl,rfl,rfl⟩
theorem IH {L:Nat} {f s:List Int} {x:Nat} (G:x<L) (a b:Bool):(Cf L f s).nf.after [a,b] x=[false,a&&decide ((x:Int)∈f)||b&&decide ((x:Int)∈s)]:=by
 have I:(Cf L f s).nf.n=2:=WA.nf_n _
 have E:(Cf L f s).L=L:=rfl
 have C:∀q:Nat,decide ((q:Int)∈(Cf L f s).nf.to 0 x)=(decide (q=1)&&decide ((x:Int)∈f)):=fun q=>by
  rw [WA.nf_to _ (by show 0<2; omega) (by rw [E]; exact G),Bool.eq_iff_iff]
  simp only [decide_eq_true_eq,Bool.and_eq_true]
  rw [IJ]
  constructor
  ·rintro⟨z,y | y⟩
   ·exact⟨by omega,y.2⟩
   ·exact absurd y.1 (by omega)
  ·rintro⟨rfl,h⟩; exact⟨rfl,.inl ⟨rfl,h⟩⟩
 have z:∀q:Nat,decide ((q:Int)∈(Cf L f s).nf.to 1 x)=(decide (q=1)&&decide ((x:Int)∈s)):=fun q=>by
  rw [WA.nf_to _ (by show 1<2; omega) (by rw [E]; exact G),Bool.eq_iff_iff]
  simp only [decide_eq_true_eq,Bool.and_eq_true]
  rw [IJ]
  constructor
  ·rintro⟨z,y | y⟩
   ·exact absurd y.1 (by omega)
   ·exact⟨by omega,y.2⟩
  ·rintro⟨rfl,h⟩; exact⟨rfl,.inr ⟨rfl,h⟩⟩
 unfold NF.after
 rw [I]
 show [(List.range 2).any _,(List.range 2).any _]=_
 have J:List.range 2=[0,1]:=rfl
 rw [J]
 simp only [List.any_cons,List.any_nil,Bool.or_false,List.getD_eq_getElem?_getD,List.getElem?_cons_zero,List.getElem?_cons_succ,Option.getD_some]
 rw [C,z,C,z]
 simp
theorem II {L:Nat} {f s:List Int}:∀(w:List Nat) (b:Bool),okW L w→Ay (Cf L f s).nf.after [false,b] w=[false,b&&w.all fun y:Nat=>decide ((y:Int)∈s)]
 | [],b,_=>by simp [Ay]
 | x::w,b,hw=>by
  show Ay _ ((Cf L f s).nf.after [false,b] x) w=_
  rw [IH (hw x List.mem_cons_self),Bool.false_and,Bool.false_or,II w _ (fun y h=>hw y (List.mem_cons_of_mem _ h)),List.all_cons,Bool.and_assoc]
theorem L2 {L:Nat} {f s:List Int}:∀(w:List Nat),okW L w→(Cf L f s).lang w=C6 f s w
 | [],_=>rfl
 | x::w,hw=>by
  show(Cf L f s).nf.has (Ay _ ((Cf L f s).nf.after [true,false] x) w)=_
  rw [IH (hw x List.mem_cons_self),Bool.true_and,Bool.false_and,Bool.or_false,II w _ (fun y h=>hw y (List.mem_cons_of_mem _ h))]
  show((false&&false)||(((decide ((x:Int)∈f)&&w.all fun y:Nat=>decide ((y:Int)∈s))&&true)||false))=_
  simp [C6]
end Go.Proofs.YtfcfpoemojjglaaGreatDoor
namespace Go.Proofs.YtfcfpoemojjglaaGreatDoor
open Go.RowKit
set_option maxHeartbeats 16000000
set_option maxRecDepth 100000
section
variable {L n:Nat} {δ:Nat→Nat→Nat} {i:Nat} {all:List Nat}
theorem LH (h:0<n) (z:∀s x,s<n→x<L→δ s x<n) (y:Exp L δ 0 i all) {s:Nat} (E:s∈all):s<n:=by
 obtain⟨w,G,rfl⟩:=y.inv.reach s E
 exact Ew (I:=fun q=>q<n) (fun q x J C=>z q x C J) w 0 G h
theorem LI (y:0<n) (z:∀s x,s<n→x<L→δ s x<n) (h:Exp L δ 0 i all):all.length≤n:=by
 have:=D6 _ (List.range n) h.inv.nodup fun v C=>List.mem_range.2 (LH y z h C)
 simpa using this
end
theorem KO {S:Type} [DecidableEq S] (δ:S→Nat→S) (s:S) (l:List S):∀k,(AZ δ s l k).length≤l.length+k
 | 0=>Nat.le_refl _
 | k+1=>by
  rw [Cr]
  have:=KO δ s l k
  unfold Bs
  split
  ·omega
  ·rw [List.length_append,List.length_singleton]; omega
theorem Up (w:World):∃g8 g9 gs gm w1 w2 h y z,g8=w.heap.size∧g9=w1.heap.size∧gs=y.heap.size∧w.alloc (.cells #[sn0,sn0] 78)=w1∧w1.alloc (.cells #[sn0,sn0] 78)=w2∧(Instr.makeMap 181 none).run Tryz.prog w2=.ok (.map (some gm)) h∧
  (Instr.mapUpdate 181 (.map (some gm)) (.int .i64 0) (.int .i64 0)).run Tryz.prog h=.ok () y∧y.alloc (.cells #[.int .i64 0] 3)=z∧
  QM w z g8 g8 g9 gm #[sn0,sn0] [0] [0] [] [] (.slice (some ⟨gs,0,none⟩) 1 1) sn0 sn0 [] (fun _=>True):=by
 obtain⟨w2,h2,U,I,ag⟩:=Ae w #[sn0,sn0] 78
 obtain⟨h,h3,E,M,ah⟩:=Ae w2 #[sn0,sn0] 78
 obtain⟨gm,y,h4,a8,V,af⟩:=F1 181 h
 obtain⟨z,h5,O,aa,aj⟩:=EY Fj Tryz.underlying181 (l:=[]) a8 0 (by simp)
 have ab:=Ac.of_grown aa
 obtain⟨G,h6,J,a7,ai⟩:=Ae z #[.int .i64 0] 3
 have s2:=U.size
 have s3:=E.size
 have s4:=V.size
 have s6:=J.size
 have l2:=I.lt
 have l3:=M.lt
 have W:Below w.heap.size w h:=U.trans (E.mono (by omega))
 have Z:Below h.heap.size y G:=(ab.below s4 fun b hb e=>by have:=Option.some.inj e; omega).trans (J.mono (by omega))
 have C:Below h.heap.size h G:=V.trans Z
 have hO:G.ownsRow w.heap.size 3 1 (.slice (some ⟨z.heap.size,0,none⟩) 1 1) 1 ((Ak [0]).map (Value.int .i64)):=by
  have:=DD (base:=w.heap.size) (n:=1) a7 (by omega) rfl (by omega)
  exact this
 exact⟨_,_,_,gm,w2,h,y,z,G,rfl,rfl,rfl,h2,h3,h4,h5,h6,
  ⟨W.trans (C.mono (by omega)),(I.below E).below C,(I.below E).below C,M.below C,O.keep (J.block _ O.lt),hO,Cb,Cb,.nil,⟨by omega,by omega⟩,⟨Nat.le_refl _,by omega,by omega,by omega⟩⟩⟩
structure XpI (w0 wr:World) (g8 g9 gm:Nat) (L:Nat) (δ:Nat→Nat→Nat) (f:Nat→Bool) (i:Nat) (all:List Nat) (vS vN vA:Value) (ws:List Value):Prop where
 mem:QM w0 wr g8 g8 g9 gm #[sn0,sn0] all all (AM L δ all i) ((all.take i).map f) vS vN vA ws (fun _=>True)
 exp:Exp L δ 0 i all
structure XpJ (w0 wr:World) (g8 g9 gm:Nat) (L:Nat) (δ:Nat→Nat→Nat) (f:Nat→Bool) (i q gr x:Nat) (all all':List Nat) (vS vN vA:Value) (ws:List Value):Prop where
 mem:QM w0 wr g8 g8 g9 gm #[sn0,sn0] all' all' (AM L δ all i) ((all.take i).map f) vS vN vA ws (fun g=>g≠gr)
 eq:all'=AZ δ q all x
 sep:vS.ownBlock≠some gr
 blk:Blk wr gr 3 (Bi L fun y=>if y<x then Value.int .i64 (Ax all' (δ q y):Int) else .int .i64 0)
section
variable {w0 wr:World} {g8 g9 gm L i q gr x:Nat} {δ:Nat→Nat→Nat} {f:Nat→Bool} {all all':List Nat} {vS vN vA:Value} {ws:List Value}
theorem XpJ.below (h:XpJ w0 wr g8 g9 gm L δ f i q gr x all all' vS vN vA ws) {w1:World} (y:Below wr.heap.size wr w1):XpJ w0 w1 g8 g9 gm L δ f i q gr x all all' vS vN vA ws:=⟨h.mem.keep y,h.eq,h.sep,h.blk.below y⟩
theorem XpJ.old (h:XpJ w0 wr g8 g9 gm L δ f i q gr x all all' vS vN vA ws) (z:δ q x∈all') (y:w0.heap.size≤gr):
  XpJ w0 (wr.setCell ⟨gr,x,none⟩ (.int .i64 (Ax all' (δ q x):Int))) g8 g9 gm L δ f i q gr (x+1) all all' vS vN vA ws:=by
 have hk:=(Ac.refl wr (fun k=>k=gr)).setCell (p:=⟨gr,x,none⟩) (fun _=>rfl) (.int .i64 (Ax all' (δ q x):Int))
 refine⟨h.mem.other (fun _ h=>h) h.sep h.blk y hk,?_,h.sep,GH (f:=δ q) (fun _ _=>rfl) rfl h.blk⟩
 rw [Cr,←h.eq,F0 z]
theorem XpJ.new (h:XpJ w0 wr g8 g9 gm L δ f i q gr x all all' vS vN vA ws) {s:Nat} {vS':Value} {z w1:World} (J:δ q x=s) (G:s∉all') (U:w0.heap.size≤gr)
  (a3:Bw z gm ((all'++[s]).map CR)) (V:wr.grownBy z (some gm)) (W:z.heap.size=wr.heap.size)
  (Z:Ac z w1 (fun k=>vS.ownBlock=some k)) (a2:w1.ownsRow w0.heap.size 3 1 vS' (all'.length+1) ((Ak all').map (Value.int .i64)++[.int .i64 (s:Int)])) (I:BJ z vS vS'):
  Blk w1 gr 3 (Bi L fun y=>if y<x then Value.int .i64 (Ax all' (δ q y):Int) else .int .i64 0)∧
  XpJ w0 (w1.setCell ⟨gr,x,none⟩ (.int .i64 (all'.length:Int))) g8 g9 gm L δ f i q gr (x+1) all (all'++[s]) vS' vN vA ws:=by
 obtain⟨hQ,O⟩:=h.mem.addS (kv:=s) (s:=s) a3 V W Z a2 I
 have E:=h.blk.kept O (by
  rintro(e | e)
  ·exact BT h.blk h.mem.map e.symm
  ·exact h.sep e)
 have M:vS'.ownBlock≠some gr:=fun e=>by
  rcases I with C | ⟨g',C,a6⟩
  ·exact h.sep (by rw [←C]; exact e)
  ·rw [e] at C
   have:=Option.some.inj C
   have:=h.blk.lt
   omega
 have hk:=(Ac.refl w1 (fun k=>k=gr)).setCell (p:=⟨gr,x,none⟩) (fun _=>rfl) (.int .i64 (all'.length:Int))
 refine⟨E,hQ.other (fun _ h=>h) M E U hk,?_,M,GH (k:=all') (f:=δ q) (fun y hy=>?_) ?_ E⟩
 ·rw [Cr,←h.eq,J,FZ G]
 ·refine ET (List.prefix_append _ _) ?_
  rw [h.eq]
  exact Gb _ _ hy
 ·rw [J,ES G]
end
theorem PQ {w:World} {a b L n:Nat} {δ:Nat→Nat→Nat} {f:Nat→Bool}
  (a8:∀O,Below w.heap.size w O→∀s x:Nat,s<n→x<L→Calls Tryz.prog 73 #[.int .i64 (s:Int),.int .i64 (x:Int),.pointer (some ⟨a,0,none⟩),.pointer (some ⟨b,0,none⟩)] O (Ret fun v w'=>v=.int .i64 (δ s x:Int)∧Below O.heap.size O w'))
  (bm:∀(O:World) (s:Nat),s<n→Calls Tryz.prog 76 #[.int .i64 (s:Int)] O (Ret fun v w'=>v=.bool (f s)∧Below O.heap.size O w'))
  (bz:∀s x,s<n→x<L→δ s x<n) (aK:0<n) (hn:n≤1000) (hL:L≤8) (hT:BV w):
  Calls Tryz.prog 75 #[.int .i64 (L:Int),.int .i64 0,.func (.func 73) #[] #[.pointer (some ⟨a,0,none⟩),.pointer (some ⟨b,0,none⟩)],.func (.func 76) #[] #[]] w (Ret fun r w'=>Below w.heap.size w w'∧∃t ac,BH L t ac (fun z=>f (Ay δ 0 z))∧ac.length≤n∧∀w'',Ac w' w'' (fun k=>k<w.heap.size)→Br w'' w''.heap.size r t ac):=by
 obtain⟨g8,g9,gs,gm,w1,w2,w3,w4,w5,e8,e9,es,d9,da,db,dc,de,hQ⟩:=Up w
 subst e8 e9 es
 have bZ:Hid (XpI w w5 w.heap.size w1.heap.size gm L δ f 0 [0] (.slice (some ⟨w4.heap.size,0,none⟩) 1 1) sn0 sn0 []):=⟨hQ,.start⟩
 have cq:=hide a8
 have c8:=hide bm
 have aH:=hide bz
 have c7:=hide hT
 clear a8 bm bz hT hQ
 go_enter Tryz.func75,Tryz.ntmps75
 go_wp2_with fail
 go_loopw [11,12] (fun vv Z wr=>∃(i:Nat) (all:List Nat) (vN vA:Value) (ws:List Value),Z=.int .i64 (i:Int)∧i≤1000∧Hid (XpI w wr w.heap.size w1.heap.size gm L δ f i all vv vN vA ws)) (fun _ Z _=>1001 - (intOf Z).toNat)
 case atStart=>exact⟨0,_,_,_,_,rfl,Nat.zero_le _,bZ⟩
 case round=>
  obtain⟨i,all,vN,vA,ws,rfl,hi,hI⟩:=hrel
  have C:=hI.out
  have cO:all.length≤1000:=Nat.le_trans (LI aK aH.out C.exp) hn
  have ch:=C.exp.inv.le
  obtain⟨AS,cS,rfl⟩:=AH C.mem.sts
  by_cases cj:i<all.length
  ·obtain⟨q,hq⟩:=An cj
   have bH:q<n:=LH aK aH.out C.exp (List.mem_of_getElem? hq)
   obtain⟨gr,w9,d7,ax,c9,d0⟩:=Et wr L (by omega)
   rw [Fo] at ax
   have d8:=C.mem.below.size
   have c0:Hid (XpJ w w9 w.heap.size w1.heap.size gm L δ f i q gr 0 all all (.slice AS all.length cS) vN vA ws):=by
    refine⟨(C.mem.weak (N':=fun g=>g≠gr) (fun g hg _ e=>by omega)).keep c9,rfl,fun e=>?_,?_⟩
    ·have:=Cj C.mem.sts e; omega
    ·rw [D4 (g:=fun _=>Value.int .i64 0) (fun y _=>by rw [if_neg (by omega)])]
     exact ax
   have aE:w.heap.size≤gr:=by omega
   have bG:=hide hq
   clear C hq ax
   go_wp2_with fail
   go_loopw [11,33] (fun vv Z wz=>∃(x:Nat) (all':List Nat),Z=.int .i64 (x:Int)∧x≤L∧Hid (XpJ w wz w.heap.size w1.heap.size gm L δ f i q gr x all all' vv vN vA ws)) (fun _ Z _=>L - (intOf Z).toNat)
   case atStart=>exact⟨0,all,rfl,Nat.zero_le _,c0⟩
   case round=>
    rename World=>wz
    obtain⟨x,all',rfl,hx,G⟩:=hrel
    have h:=G.out
    have cQ:all'.length≤2000:=by
     have:=KO δ q all x
     rw [←h.eq] at this
     omega
    have ap:all'[i]?=some q:=by rw [h.eq]; exact Ds (DK _ _ _) bG.out
    have d2:i<all'.length:=AP ap
    obtain⟨cM,bV,cD⟩:=AH h.mem.sts
    subst cD
    by_cases aU:x<L
    ·obtain⟨bs,bU,e,cd⟩:=C7 h.mem.sts (AX (f:=Value.int .i64) (AX (f:=fun x:Nat=>(x:Int)) ap))
     cases e
     have az:=cq.out wz h.mem.below q x bH aU
     clear h
     go_wp2_with fail
     refine Calls.ret az ?_
     rintro v wy ⟨rfl,ay⟩
     have bg:=hide (G.out.below ay)
     have h:=bg.out
     have a7:=h.mem.map
     have a6:=Ft Fj Tryz.underlying181 Fa a7 (δ q x)
     simp only [CR] at a6
     have cV:wy.cell? ⟨gr,x,none⟩=some (.int .i64 0):=by rw [h.blk.cell,CV _ aU,if_neg (by omega)]
     have cY:=h.blk.frozen x
     have d6:=h.blk.lt
     have bM:=h.mem.below.size
     obtain⟨z,W⟩:∃z,δ q x=z:=⟨_,rfl⟩
     by_cases J:δ q x∈all'
     ·have bC:=hide (h.old J aE)
      simp only [J,if_true,decide_true] at a6
      rw [W] at a6 bC ⊢
      clear az h a7 J ay W
      go_wp2_with fail
      exact⟨⟨x+1,all',by go_num,by omega,bC⟩,by simp [intOf]; omega⟩
     ·simp only [J,if_false,decide_false] at a6
      obtain⟨wm,bN,aJ,aF,bK⟩:=EY Fj Tryz.underlying181 a7 (δ q x) J
      simp only [CR] at bN
      have bu:Ac wy wm (fun k=>gm=k):=(Ac.of_grown aF).mono fun b _ e=>Option.some.inj e
      have cw:=bu.ownsRow h.mem.sts fun g hg e=>Di h.mem.sts a7 (by rw [hg,e])
      have cy:w.heap.size≤wm.heap.size:=by omega
      rw [W] at a6 bN aJ J ⊢
      have cF:=hide W
      have ck:=hide J
      have cm:=hide aJ
      have cg:=hide aF
      have cv:=hide bK
      clear az h a7 J ay aJ aF bK bu W
      go_wp2_with (
       at_builtin
       refine BP (w:=wm) C9 rfl _ _ rfl w.heap.size (.slice (some ⟨bs,0,none⟩) all'.length bV) all'.length _ rfl cw [.int .i64 (z:Int)] 1 rfl rfl (by simp [Value.oneCell']) (by omega) cy ?_
       intro ga ae wa a9 a5 ao cf
       obtain⟨am,bB⟩:=bg.out.new cF.out ck.out aE cm.out cg.out cv.out a5 a9 ao
       have aA:wa.cell? ⟨gr,x,none⟩=some (.int .i64 0):=by rw [am.cell,CV _ aU,if_neg (by omega)]
       have bq:=am.frozen x
       have bw:=am.lt
       have cp:=hide bB
       clear bB am a9 a5 ao)
      exact⟨⟨x+1,all'++[z],by go_num,by omega,cp⟩,by simp [intOf]; omega⟩
    ·obtain rfl:x=L:=by omega
     obtain⟨AN,cN,rfl⟩:=AH h.mem.nxt
     have aQ:=D5 (L:=x) (δ:=δ) ch
     have a8:=h.mem.nxt
     have cc:=h.mem.b5.cell
     rw [aQ] at a8 cc
     obtain⟨M,aq⟩:∃M,M=(List.range x).map fun y=>Ax all' (δ q y):=⟨_,rfl⟩
     have aN:M.length=x:=by rw [aq]; simp
     have bE:wz.ownsRow w.heap.size 3 1 (.slice (some ⟨gr,0,none⟩) M.length x) M.length ((Ak M).map (Value.int .i64)):=by
      have:=DD h.blk aE (Fp _ _) (by omega)
      rw [aN]
      have e:(Bi x fun y=>if y<x then Value.int .i64 (Ax all' (δ q y):Int) else .int .i64 0).toList=(Ak M).map (Value.int .i64):=by
       rw [aq]
       simp only [Bi,Ak,List.map_map]
       exact List.map_congr_left fun y hy=>by rw [if_pos (List.mem_range.1 hy)]; rfl
      rw [e] at this
      exact this
     have bM:=h.mem.below.size
     have ct:=hide aq
     have cu:=hide aN
     have cr:=hide bE
     have aR:=hide aQ
     have aM:=hide ap
     clear h aq aN bE aQ ap
     go_wp2_with (
      at_builtin
      refine BP (w:=wz) F9 rfl _ _ rfl w.heap.size (.slice AN i cN) i _ rfl a8 [.slice (some ⟨gr,0,none⟩) x x] 1 rfl rfl (by simp [Value.oneCell']) (by omega) bM ?_
      intro ga ae wa a9 a5 ao cf
      have an:=a5
      rw [←aR.out] at an
      have aj:=G.out.mem.b5.kept an (Aw G.out.mem.nxt G.out.mem.b5 (by decide))
      have hR:=G.out.mem.addR (vN':=.slice (some ⟨ga,0,none⟩) (i+1) ae) cr.out G.out.sep an (by rw [aR.out,cu.out]; exact a9)
      have aA:=aj.cell
      rw [aR.out] at aA
      have bq:=aj.frozen 0
      have bw:=aj.lt
      have bj:=hide hR
      clear hR aj a9 a5 an ao)
     obtain⟨wb,bO⟩:∃wb,wa.setCell ⟨w1.heap.size,0,none⟩ (.slice (some ⟨ga,0,none⟩) (i+1) ae)=wb:=⟨_,rfl⟩
     rw [bO] at bj ⊢
     have a4:=bj.out
     obtain⟨AA,cA,rfl⟩:=AH a4.acc
     have I:((all.take i).map f).length=i:=by simp; omega
     obtain⟨bs,bU,e,cd⟩:=C7 a4.sts (AX (f:=Value.int .i64) (AX (f:=fun x:Nat=>(x:Int)) aM.out))
     cases e
     have bo:=a4.b5.cell
     rw [I] at bo
     have c4:=hide (a4.keep (Ap wb))
     have V:=hide I
     clear a4 aA bq bw I bO
     refine Reg.cC [0,1,0,0,0,24,56,124,252,511,1023,2047] [0,1,2,3,4,5,6,7,8,9,10,11] ?_
     refine Reg.rest_walk' [0,1,2,3,4,5,6] [7,8,9,10,11] rfl (by kernel_rfl) ?_
     intro Qf E
     go_wp2_with fail
     first | refine E _ _ ?_ | skip
     try clear E
     refine Reg.rest_act' 7 [8,9,10,11] [1] rfl (by kernel_rfl) ?_
     intro Qf E
     simp only [gT,gS,gZ]
     go_wp2_with fail
     refine Calls.ret (c8.out _ q bH) ?_
     rintro v wc ⟨rfl,ak⟩
     go_wp2_with fail
     first | refine E _ _ ⟨Reg.same_below ak _ rfl,?_⟩ | refine⟨Reg.same_below ak _ rfl,?_⟩
     try clear E
     have U:=hide (c4.out.keep ak)
     have bn:=U.out.acc
     have cx:=U.out.below.size
     rw [V.out] at bn
     have bp:=U.out.b5.cell
     rw [V.out] at bp
     clear ak bo
     refine Reg.rest_walk' [8] [9,10,11] rfl (by kernel_rfl) ?_
     intro Qf E
     go_wp2_with fail
     first | refine E _ _ ?_ | skip
     try clear E
     refine Reg.rest_act' 9 [10,11] [] rfl (by kernel_rfl) ?_
     intro Qf E
     simp only [gT,gS,gZ]
     refine BP (w:=wc) GM rfl _ _ rfl w.heap.size (.slice AA i cA) i _ rfl bn [.bool (f q)] 1 rfl rfl (by simp [Value.oneCell']) (by omega) cx ?_
     intro g' b9 w7 bD bt cn cZ
     have aG:Ac wc w7 (fun b=>(Value.slice AA ((all.take i).map f).length cA).ownBlock=some b):=by rw [V.out]; exact bt
     have bh:=U.out.addA (b:=f q) (vA':=.slice (some ⟨g',0,none⟩) (i+1) b9) aG (by rw [V.out]; exact bD)
     have ai:=U.out.b5.kept aG (Aw U.out.acc U.out.b5 (by decide))
     have cb:=ai.cell
     rw [V.out] at cb
     have cX:=ai.frozen 1
     have d4:=ai.lt
     have c3:=hide bh
     refine E _ _ ⟨Reg.nm,?_⟩
     clear E bh bD bt aG cn ai bp
     refine Reg.rest_walk' [10,11] [] rfl (by kernel_rfl) ?_
     intro Qf E
     go_wp2_with fail
     first | refine E _ _ ?_ | skip
     try clear E
     refine Reg.rest_end ?_
     go_wp2_with fail
     refine⟨⟨i+1,all',.slice (some ⟨ga,0,none⟩) (i+1) ae,.slice (some ⟨g',0,none⟩) (i+1) b9,ws++[.slice (some ⟨gr,0,none⟩) M.length x],by go_num,by omega,?_⟩,by simp [intOf]; omega⟩
     have bF:all<+:all':=by rw [G.out.eq]; exact DK _ _ _
     have cz:all'.take (i+1)=all.take i++[q]:=(B5 aM.out).trans (by
      obtain⟨u,hu⟩:=bF
      rw [←hu,List.take_append_of_le_length (by omega)])
     refine hide ⟨?_,?_⟩
     ·have:=c3.out
      rw [cz,List.map_append,GP aM.out,GO hI.out.exp bF,←ct.out]
      exact this
     ·rw [G.out.eq]
      exact .row hI.out.exp bG.out
  ·obtain rfl:i=all.length:=by omega
   have ag:Bf L δ 0 all:=C.exp
   have bv:=LI aK aH.out ag
   have bJ:(AM L δ all all.length).length=all.length:=D5 (Nat.le_refl _)
   have aD:=(C.mem.finO (Ac.refl _ _)).read (fun r hr=>by
    unfold AM at hr
    obtain⟨s,_,rfl⟩:=List.mem_map.1 hr
    simp; omega) (by rw [bJ]; omega) (by simp; omega)
   rw [List.take_length] at aD
   have aB:=Fq ag (ac:=all.map f) (by simp)
   have bA:=Q8 aD aB hL (by rw [List.length_map]; omega) (c7.out.below C.mem.below)
   have cU:=C.mem.b5.cell
   have bb:=hide C.mem.b4
   have a2:=hide C.mem.below
   have bY:=hide ag
   have ci:=hide bv
   have ce:=hide aB
   clear C aD ag bv aB bJ
   go_wp2_with fail
   refine Calls.ret bA ?_
   rintro d wd ⟨al,cl,st,hW,bL,aO,bf,av⟩
   obtain⟨A5,c5,A6,c6,rfl,-,-⟩:=av wd (Ac.refl _ _)
   have a3:=bb.out.below al
   have cW:=a3.frozen
   have d3:=a3.lt
   have cT:=a3.cell
   obtain⟨wF,aT,bd,aw⟩:=Dm a3 (.slice A5 (AM L (AF (dnx (AM L δ all all.length)) cl) (st.map fun s=>cl.getD s 0) st.length).length c5) (.slice A6 (st.map (dac (all.map f))).length c6)
   have au:=bd.cell
   have d5:=bb.out.lt
   have ca:=hide ((a2.out.trans (al.mono a2.out.size)).trans (aw.below (by have:=a2.out.size; have:=al.size; omega) fun b hb e=>by omega))
   have aC:=hide (fun w'' (hk:Ac wF w'' (fun k=>k<w.heap.size))=>av w'' ((aw.mono (fun b _ e=>by have:=a2.out.size; omega)).trans hk (fun b _ e=>by have:=a2.out.size; omega)))
   have be:=hide ((HG ce.out hW bL bf).congr (Λ':=fun z=>f (Ay δ 0 z)) fun z W=>(KS bY.out f W).symm)
   have aP:Hid ((st.map (dac (all.map f))).length≤n):=by
    show _≤_
    rw [List.length_map]
    rw [List.length_map] at aO
    exact Nat.le_trans aO ci.out
   clear av a3 bd aw al bf bA hW bL aO
   unfold CY at aT
   obtain⟨tt,aS⟩:∃tt,tt=AM L (AF (dnx (AM L δ all all.length)) cl) (st.map fun s=>cl.getD s 0) st.length:=⟨_,rfl⟩
   obtain⟨aa,ah⟩:∃aa,aa=st.map (dac (all.map f)):=⟨_,rfl⟩
   rw [←aS,←ah] at aC be
   rw [←ah] at aP
   rw [←aS,←ah] at aT au ⊢
   clear aS ah
   obtain⟨lr,bx⟩:∃lr,lr=tt.length:=⟨_,rfl⟩
   obtain⟨la,I⟩:∃la,la=aa.length:=⟨_,rfl⟩
   rw [←bx,←I] at aT au aC ⊢
   rw [←I] at aP
   have V:=hide I
   clear bx I
   go_wp2_with fail
   refine bodyPost_ret (v:=.agg #[.slice A5 lr c5,.slice A6 la c6]) (by simp [results,Tryz.results75,go_sem,au]) rfl ⟨ca.out,tt,aa,be.out,by rw [←V.out]; exact aP.out,aC.out⟩
end Go.Proofs.YtfcfpoemojjglaaGreatDoor
namespace Go.Proofs.YtfcfpoemojjglaaGreatDoor
open Go.RowKit
set_option maxHeartbeats 16000000
set_option maxRecDepth 100000
theorem Qq (s:Nat) (w:World):Calls Tryz.prog 76 #[.int .i64 (s:Int)] w (Ret fun v w'=>v=.bool (decide (s=1))∧Below w.heap.size w w'):=by
 have e:((s:Int)==1)=decide (s=1):=by
  by_cases h:s=1
  ·subst h; rfl
  ·rw [decide_eq_false h]; simp; omega
 have y:=hide (Below.refl w.heap.size w)
 go_enter Tryz.func76,Tryz.ntmps76
 go_wp2_with fail
 go_ret
 refine⟨?_,y.out⟩
 simp
theorem Qp {w:World} {a b B1 B2 c1 c2:Nat} {E G:Option Addr} {f s:List Int} (U:Blk w a 24 #[.slice E f.length c1]) (V:Blk w b 24 #[.slice G s.length c2]) (W:Sl w B1 1 Ai E f) (Z:Sl w B2 1 Ai G s) (q x:Nat):
  Calls Tryz.prog 73 #[.int .i64 (q:Int),.int .i64 (x:Int),.pointer (some ⟨a,0,none⟩),.pointer (some ⟨b,0,none⟩)] w (Ret fun v w'=>v=.int .i64 (BW f s q x:Int)∧Below w.heap.size w w'):=by
 have I:=hide (fun(h:World) (e:h=w)=>show Calls Tryz.prog 74 #[.slice E f.length c1,.int .i64 (x:Int)] h fun r w'=>r=.returned (.bool (decide ((x:Int)∈f)))∧h=w' from by subst e; exact K.containsI_any W)
 have J:=hide (fun(h:World) (e:h=w)=>show Calls Tryz.prog 74 #[.slice G s.length c2,.int .i64 (x:Int)] h fun r w'=>r=.returned (.bool (decide ((x:Int)∈s)))∧h=w' from by subst e; exact K.containsI_any Z)
 have ca:=U.cell
 have cb:=V.cell
 have C:=hide (Below.refl w.heap.size w)
 obtain⟨p,M⟩:∃p,decide ((x:Int)∈f)=p:=⟨_,rfl⟩
 obtain⟨r,O⟩:∃r,decide ((x:Int)∈s)=r:=⟨_,rfl⟩
 have hd:Hid (BW f s q x=if (decide (q=0)&&p)||(decide (q=1)&&r) then 1 else 2):=by
  show BW f s q x=_
  unfold BW
  subst M O
  by_cases y:q=0 <;> by_cases z:q=1 <;> by_cases h2:(x:Int)∈f <;> by_cases h3:(x:Int)∈s <;> simp [y,z,h2,h3]
 rw [M] at I
 rw [O] at J
 clear U V W Z M O
 by_cases y:q=0
 ·subst y
  cases p
  ·go_enter Tryz.func73,Tryz.ntmps73
   go_wp2_with (go_at_call 74; refine(I.out _ rfl).mono ?_; rintro e w' ⟨rfl,rfl⟩)
   go_ret
   exact⟨by rw [hd.out]; rfl,C.out⟩
  ·go_enter Tryz.func73,Tryz.ntmps73
   go_wp2_with (go_at_call 74; refine(I.out _ rfl).mono ?_; rintro e w' ⟨rfl,rfl⟩)
   go_ret
   exact⟨by rw [hd.out]; rfl,C.out⟩
 ·have e0:((q:Int)==0)=false:=by simp; omega
  by_cases z:q=1
  ·subst z
   cases r
   ·go_enter Tryz.func73,Tryz.ntmps73
    go_wp2_with (go_at_call 74; refine(J.out _ rfl).mono ?_; rintro e w' ⟨rfl,rfl⟩)
    go_ret
    exact⟨by rw [hd.out]; simp,C.out⟩
   ·go_enter Tryz.func73,Tryz.ntmps73
    go_wp2_with (go_at_call 74; refine(J.out _ rfl).mono ?_; rintro e w' ⟨rfl,rfl⟩)
    go_ret
    exact⟨by rw [hd.out]; simp,C.out⟩
  ·have e1:((q:Int)==1)=false:=by simp; omega
   have a6:Hid (BW f s q x=2):=by
    show _=_
    rw [hd.out,decide_eq_false y,decide_eq_false z]; rfl
   clear y z
   go_enter Tryz.func73,Tryz.ntmps73
   go_wp2_with fail
   go_ret
   exact⟨by rw [a6.out]; rfl,C.out⟩
end Go.Proofs.YtfcfpoemojjglaaGreatDoor
namespace Go.Proofs.YtfcfpoemojjglaaGreatDoor
open Go.RowKit
set_option maxHeartbeats 16000000
set_option maxRecDepth 100000
theorem LJ {w:World} {a b c1 c2 L:Nat} {C E:Option Addr} {f s:List Int} (U:Blk w a 24 #[.slice C f.length c1]) (V:Blk w b 24 #[.slice E s.length c2]) (Z:Sl w w.heap.size 1 Ai C f) (hs:Sl w w.heap.size 1 Ai E s) (M:L≤8) (O:BV w):
  Calls Tryz.prog 75 #[.int .i64 (L:Int),.int .i64 0,.func (.func 73) #[] #[.pointer (some ⟨a,0,none⟩),.pointer (some ⟨b,0,none⟩)],.func (.func 76) #[] #[]] w (Ret fun r w'=>Below w.heap.size w w'∧∃t ac,BH L t ac (C6 f s)∧ac.length≤3∧∀w'',Ac w' w'' (fun k=>k<w.heap.size)→Br w'' w''.heap.size r t ac):=by
 refine Calls.ret (PQ (n:=3) (δ:=BW f s) (f:=fun q=>decide (q=1)) (fun G h q x _ _=>?_) (fun G q _=>Qq q G) (fun q x _ _=>by have:=Ng f s q x; omega) (by omega) (by omega) M O) ?_
 ·exact Qp (U.below h) (V.below h) (Z.keep (fun p y=>h.cell y) h.size) (hs.keep (fun p y=>h.cell y) h.size) q x
 ·rintro r w' ⟨W,t,ac,I,hn,J⟩
  exact⟨W,t,ac,I.congr fun z _=>(Nf f s z).symm,hn,J⟩
end Go.Proofs.YtfcfpoemojjglaaGreatDoor
