/-
  Part HA of a proof.
-/
import Derived.Test.YtfcfpoemojjglaaGreatDoorPA
import Derived.Test.YtfcfpoemojjglaaGreatDoorPH
import Derived.Test.YtfcfpoemojjglaaGreatDoorFB
import Derived.Test.YtfcfpoemojjglaaGreatDoorPB
import Derived.Test.YtfcfpoemojjglaaGreatDoorPI
import Derived.Test.YtfcfpoemojjglaaGreatDoorEA
import Derived.Test.YtfcfpoemojjglaaGreatDoorCE
import Derived.Test.YtfcfpoemojjglaaGreatDoorCA
import Derived.Test.YtfcfpoemojjglaaGreatDoorAA
set_option maxHeartbeats 16000000
set_option maxRecDepth 100000
set_option linter.unusedVariables false
set_option linter.unusedSimpArgs false
namespace Go.Proofs.YtfcfpoemojjglaaGreatDoor
theorem Lu {S:Type} [DecidableEq S]:∀(l fin:List S),l.Nodup->(∀v∈l,v∈fin)->l.length<=fin.length
 | [],_,_,_=>Nat.zero_le _
 | a::l,fin,hn,h=>by
  obtain⟨j,y⟩:=List.nodup_cons.1 hn;have:=Lu l (fin.erase a) y fun v d=>(List.mem_erase_of_ne (fun(e:v=a)=>j (e ▸ d))).2 (h v (List.mem_cons_of_mem _ d));have C:=List.length_erase_of_mem (h a List.mem_cons_self);have E:=List.length_pos_of_mem (h a List.mem_cons_self);simp only [List.length_cons];omega
section
variable {L:Nat} {S:Type} [DecidableEq S] {δ:S->Nat->S} {s0:S} {i:Nat} {all:List S}
theorem Uq {I:S->Prop} (d:I s0) (j:∀s x,I s->x<L->I (δ s x)) (h:Exp L δ s0 i all) {s:S} (y:s∈all):I s:=by
 obtain⟨w,C,rfl⟩:=h.inv.reach s y;exact Ew (I:=I) (fun q x E l=>j q x l E) w s0 C d
theorem Wb {I:S->Prop} {fin:List S} (h:I s0) (l:∀s x,I s->x<L->I (δ s x)) (j:∀s,I s->s∈fin) (d:Exp L δ s0 i all):all.length<=fin.length:=
 Lu _ fin d.inv.nodup fun v y=>j v (Uq h l d y)
end
end Go.Proofs.YtfcfpoemojjglaaGreatDoor
namespace Go.Proofs.YtfcfpoemojjglaaGreatDoor
open Go.RowKit
set_option maxHeartbeats 16000000
set_option maxRecDepth 100000
section
variable {S:Type} [DecidableEq S] {P:Program} {K:TypeId}
theorem VI {enc:S->Value} (G:∀w s t,(Op.equal K (enc s) (enc t)).run P w=.ok (decide (s=t)) w) (s:S) (w:World) (es:List MapEntry):∀(l:List S) (i:Nat),es.map (·.key)=l.map enc->
  (Instr.findAsking K (enc s) es i).run P w=.ok (if s∈l then some (i+l.idxOf s,((es[l.idxOf s]?).map (·.val)).getD .nilFunc) else none) w:=by
 induction es with
 | nil=>
  intro l i h;have:l=[]:=by cases l <;> simp_all
  subst this;simp [Instr.findAsking]
 | cons e es ih=>
  intro l i h;cases l with
  | nil=>simp at h
  | cons t l=>
   simp only [List.map_cons,List.cons.injEq] at h;obtain⟨C,E⟩:=h;unfold Instr.findAsking;rw [C];simp only [Sem.run_bind,G,Result.andThen_ok];by_cases d:s=t
   ·subst d;simp
   ·simp only [d,decide_false,Bool.false_eq_true,if_false];rw [ih l (i+1) E];have I:(t::l).idxOf s=l.idxOf s+1:=by
     rw [List.idxOf_cons];have:(t==s)=false:=by simpa using fun e=>d e.symm
     rw [this]; rfl
    by_cases j:s∈l
    ·simp only [j,I,List.mem_cons,or_true,if_true,List.getElem?_cons_succ];have y:i+1+l.idxOf s=i+(l.idxOf s+1):=by omega
     rw [y]
    ·simp [j,d]
theorem VK {enc:S->Value} {d:TypeDesc} (C:P.underlying K=some d) (J:∀s t,Instr.sameNow d (enc s) (enc t)=none) (E:∀j w s,(Instr.checkKey j 10000 K (enc s)).run P w=.ok () w)
  (y:∀w s t,(Op.equal K (enc s) (enc t)).run P w=.ok (decide (s=t)) w):El P K enc where
 check:=E
 find:=fun w s es l h=>by
  unfold Instr.findKey;simp only [Sem.run_bind,run_underlying C,Result.andThen_ok];cases es with
  | nil=>
   have:l=[]:=by cases l <;> simp_all
   subst this;simp [Instr.findNow]
  | cons e es=>
   cases l with
   | nil=>simp at h
   | cons t l=>
    have G:=h;simp only [List.map_cons,List.cons.injEq] at h;have I:Instr.findNow d (enc s) (e::es) 0=none:=by
     unfold Instr.findNow;rw [h.1,J]
    rw [I];have:=VI y s w (e::es) (t::l) 0 G;simpa using this
end
end Go.Proofs.YtfcfpoemojjglaaGreatDoor
namespace Go.Proofs.YtfcfpoemojjglaaGreatDoor
theorem U2 {S:Type} {δ:S->Nat->S} {L:Nat} {I:List Nat->S->Prop} (d:∀p s x,x<L->I p s->I (p++[x]) (δ s x)):∀(w p:List Nat) (s:S),okW L w->I p s->I (p++w) (Ay δ s w)
 | [],p,s,_,h=>by rw [List.append_nil]; exact h
 | x::w,p,s,hw,h=>by
  have:=U2 d w (p++[x]) (δ s x) (fun y j=>hw y (List.mem_cons_of_mem _ j)) (d p s x (hw x List.mem_cons_self) h);rw [List.append_assoc] at this;exact this
def UB (l:List Int) (w:List Nat):Nat:=w.countP fun y:Nat=>decide ((y:Int)∈l)
theorem Vs (l:List Int) (w:List Nat) (x:Nat):UB l (w++[x])=if (x:Int)∈l then UB l w+1 else UB l w:=by
 unfold UB;rw [List.countP_append];by_cases h:(x:Int)∈l <;> simp [h]
structure AdS where
 ne:Bool
 la:Bool
 fo:Bool
 he:Bool
deriving DecidableEq
def adN (a b:Int) (s:AdS) (x:Nat):AdS:=⟨true,decide ((x:Int)=a),s.fo||(s.la&&decide ((x:Int)=b)),s.he||(!s.ne&&decide ((x:Int)=b))⟩
def ad0:AdS:=⟨false,false,false,false⟩
def AdS.is (ring:Bool) (s:AdS):Bool:=s.fo||(ring&&s.la&&s.he)
def adW (a b:Int) (ring:Bool) (w:List Nat):Bool:=(Ay (adN a b) ad0 w).is ring
theorem WA.after_get {a:WA} (h:a.In) {m:List Bool} {x q:Nat} (j:x<a.L) (d:q<a.n):(a.nf.after m x)[q]?=some (a.edges.any fun e=>decide (e.letter=(x:Int))&&m.getD e.frm.toNat false&&decide (e.to=(q:Int))):=by
 rw [<-WA.afterE_all h j (Nat.le_refl _),WA.afterE_get d,List.take_length]
def Wd (L:Nat) (a b:Int) (ring:Bool):WA:=
 ⟨(L:Int),if ring then 6 else 3,if ring then [0,3] else [0],if ring then [2,5] else [2],
  ((List.range L).flatMap fun z:Nat=>[⟨0,(z:Int),0⟩,⟨2,(z:Int),2⟩])++[⟨0,a,1⟩,⟨1,b,2⟩]++
  if ring then ((List.range L).map fun z:Nat=>(⟨4,(z:Int),4⟩:Edg))++[⟨3,b,4⟩,⟨4,a,5⟩]++(if a=b then [⟨3,a,5⟩] else []) else []⟩
def adM (ring:Bool) (s:AdS):List Bool:=[true,s.la,s.fo]++if ring then [!s.ne,s.he,s.la&&s.he] else []
theorem aA9 {L:Nat} {a b:Int} {ring:Bool} (j:inN L a=true) (l:inN L b=true):(Wd L a b ring).In:=by
 cases ring
 ·refine⟨fun x d=>?_,fun x d=>?_,fun e he=>?_⟩
  ·rw [List.mem_singleton.1 d]; rfl
  ·rw [List.mem_singleton.1 d]; rfl
  ·simp only [Wd,Bool.false_eq_true,if_false,List.append_nil,List.mem_append,List.mem_flatMap,List.mem_cons,List.not_mem_nil,or_false] at he;rcases he with⟨z,h,rfl | rfl⟩ | rfl | rfl
   ·exact⟨rfl,D3.2 ⟨by simp,by have:=List.mem_range.1 h; simp [Wd]; omega⟩,rfl⟩
   ·exact⟨rfl,D3.2 ⟨by simp,by have:=List.mem_range.1 h; simp [Wd]; omega⟩,rfl⟩
   ·exact⟨rfl,j,rfl⟩
   ·exact⟨rfl,l,rfl⟩
 ·refine⟨fun x d=>?_,fun x d=>?_,fun e he=>?_⟩
  ·rcases List.mem_cons.1 d with rfl | d
   ·rfl
   ·rw [List.mem_singleton.1 d]; rfl
  ·rcases List.mem_cons.1 d with rfl | d
   ·rfl
   ·rw [List.mem_singleton.1 d]; rfl
  ·simp only [Wd,if_true,List.mem_append,List.mem_flatMap,List.mem_map,List.mem_cons,List.not_mem_nil,or_false] at he;rcases he with(⟨z,h,rfl | rfl⟩ | rfl | rfl) | (⟨z,h,rfl⟩ | rfl | rfl) | he
   ·exact⟨rfl,D3.2 ⟨by simp,by have:=List.mem_range.1 h; simp [Wd]; omega⟩,rfl⟩
   ·exact⟨rfl,D3.2 ⟨by simp,by have:=List.mem_range.1 h; simp [Wd]; omega⟩,rfl⟩
   ·exact⟨rfl,j,rfl⟩
   ·exact⟨rfl,l,rfl⟩
   ·exact⟨rfl,D3.2 ⟨by simp,by have:=List.mem_range.1 h; simp [Wd]; omega⟩,rfl⟩
   ·exact⟨rfl,l,rfl⟩
   ·exact⟨rfl,j,rfl⟩
   ·split at he
    ·rw [List.mem_singleton.1 he]; exact⟨rfl,j,rfl⟩
    ·simp at he
theorem aA8 {L:Nat} {a b:Int} {ring:Bool} (ha:inN L a=true) (hb:inN L b=true) {x:Nat} (J:x<L) (s:AdS):(Wd L a b ring).nf.after (adM ring s) x=adM ring (adN a b s x):=by
 have hI:=aA9 (ring:=ring) ha hb;have hL:(Wd L a b ring).L=L:=by simp [WA.L,Wd]
 have O:(Wd L a b ring).nf.n=(adM ring s).length:=by rw [WA.nf_n]; cases ring <;> rfl
 have a7:x<(Wd L a b ring).L:=by rw [hL]; exact J
 have hr:List.range L=List.range L:=rfl;have G:∀q:Nat,(((List.range L).flatMap fun z:Nat=>[(⟨0,(z:Int),0⟩:Edg),⟨2,(z:Int),2⟩]).any fun e=>decide (e.letter=(x:Int))&&(adM ring s).getD e.frm.toNat false&&decide (e.to=(q:Int)))=(decide (q=0)||(s.fo&&decide (q=2))):=by
  intro q;rw [List.any_flatMap];have j:∀z:Nat,([(⟨0,(z:Int),0⟩:Edg),⟨2,(z:Int),2⟩].any fun e=>decide (e.letter=(x:Int))&&(adM ring s).getD e.frm.toNat false&&decide (e.to=(q:Int)))=(decide ((z:Int)=(x:Int))&&(decide (q=0)||(s.fo&&decide (q=2)))):=by
   intro z;have V:decide ((0:Int)=(q:Int))=decide (q=0):=by rw [Bool.eq_iff_iff]; simp; omega
   have W:decide ((2:Int)=(q:Int))=decide (q=2):=by rw [Bool.eq_iff_iff]; simp; omega
   simp only [List.any_cons,List.any_nil,Bool.or_false,V,W];have d:(adM ring s).getD (0:Int).toNat false=true:=rfl;have g2:(adM ring s).getD (2:Int).toNat false=s.fo:=rfl;rw [d,g2];cases decide ((z:Int)=(x:Int)) <;> simp
  rw [funext j,Bool.eq_iff_iff,List.any_eq_true];constructor
  ·rintro⟨z,_,h⟩; rw [Bool.and_eq_true] at h; exact h.2
  ·intro h; exact⟨x,List.mem_range.2 J,by rw [h]; simp⟩
 have M:∀q:Nat,ring=true->(((List.range L).map fun z:Nat=>(⟨4,(z:Int),4⟩:Edg)).any fun e=>decide (e.letter=(x:Int))&&(adM ring s).getD e.frm.toNat false&&decide (e.to=(q:Int)))=(s.he&&decide (q=4)):=by
  rintro q rfl;rw [List.any_map,Bool.eq_iff_iff,List.any_eq_true];have g4:(adM true s).getD (4:Int).toNat false=s.he:=rfl;constructor
  ·rintro⟨z,_,h⟩;simp only [Function.comp,Bool.and_eq_true,decide_eq_true_eq,g4] at h;rw [Bool.and_eq_true,decide_eq_true_eq];exact⟨h.1.2,by omega⟩
  ·intro h;rw [Bool.and_eq_true,decide_eq_true_eq] at h;refine⟨x,List.mem_range.2 J,?_⟩;simp only [Function.comp,Bool.and_eq_true,decide_eq_true_eq,g4];exact⟨⟨trivial,h.1⟩,by omega⟩
 apply List.ext_getElem?;intro q;by_cases C:q<(adM ring s).length
 ·rw [WA.after_get hI a7 (by rw [<-WA.nf_n,O]; exact C)];cases ring
  ·have d:(adM false s).getD (0:Int).toNat false=true:=rfl;have g1:(adM false s).getD (1:Int).toNat false=s.la:=rfl;simp only [Wd,Bool.false_eq_true,if_false,List.append_nil,List.any_append,G,List.any_cons,List.any_nil,Bool.or_false,d,g1];have:q=0\/q=1\/q=2:=by simp [adM] at C; omega
   rcases this with rfl | rfl | rfl
   all_goals
    simp [adM,adN,eq_comm,Bool.and_comm]
  ·have d:(adM true s).getD (0:Int).toNat false=true:=rfl;have g1:(adM true s).getD (1:Int).toNat false=s.la:=rfl;have g3:(adM true s).getD (3:Int).toNat false= !s.ne:=rfl;have g4:(adM true s).getD (4:Int).toNat false=s.he:=rfl;obtain⟨n,l,f,h⟩:=s;have I:∀y:Int,decide (y=(x:Int))=decide ((x:Int)=y):=fun y=>by rw [Bool.eq_iff_iff]; simp only [decide_eq_true_eq]; exact eq_comm
   have U:q=0\/q=1\/q=2\/q=3\/q=4\/q=5:=by simp [adM] at C; omega
   by_cases E:a=b
   ·subst E;simp only [Wd,if_true,List.any_append,G,M _ rfl,List.any_cons,List.any_nil,Bool.or_false,d,g1,g3,g4,I a];rcases U with rfl | rfl | rfl | rfl | rfl | rfl
    all_goals
     simp only [adM,adN];generalize decide ((x:Int)=a)=A;cases A <;> cases n <;> cases l <;> cases f <;> cases h <;> rfl
   ·have a2:(decide ((x:Int)=a)&&decide ((x:Int)=b))=false:=by
     by_cases j:(x:Int)=a
     ·rw [decide_eq_false (p:=(x:Int)=b) (fun Z=>E (j.symm.trans Z)),Bool.and_false]
     ·rw [decide_eq_false j,Bool.false_and]
    simp only [Wd,E,if_true,if_false,List.append_nil,List.any_append,G,M _ rfl,List.any_cons,List.any_nil,Bool.or_false,d,g1,g3,g4,I a,I b];rcases U with rfl | rfl | rfl | rfl | rfl | rfl
    all_goals
     simp only [adM,adN];revert a2;generalize decide ((x:Int)=a)=A;generalize decide ((x:Int)=b)=B;cases A <;> cases B <;> cases n <;> cases l <;> cases f <;> cases h <;> first | (intro _; rfl) | (intro e; cases e)
 ·rw [List.getElem?_eq_none (by rw [NF.after_len,O]; omega),List.getElem?_eq_none (by simp [adM] at C ⊢; cases ring <;> simp_all)]
end Go.Proofs.YtfcfpoemojjglaaGreatDoor
namespace Go.Proofs.YtfcfpoemojjglaaGreatDoor
theorem aBb {L:Nat} {a b:Int} {ring:Bool} (d:inN L a=true) (h:inN L b=true):∀(w:List Nat) (s:AdS),okW L w->Ay (Wd L a b ring).nf.after (adM ring s) w=adM ring (Ay (adN a b) s w)
 | [],_,_=>rfl
 | x::w,s,hw=>by
  show Ay _ ((Wd L a b ring).nf.after (adM ring s) x) w=_
  rw [aA8 d h (hw x List.mem_cons_self)];exact aBb d h w _ (fun y j=>hw y (List.mem_cons_of_mem _ j))
theorem aBv {L:Nat} {a b:Int} {ring:Bool} (j:inN L a=true) (y:inN L b=true) {w:List Nat} (C:okW L w):(Wd L a b ring).lang w=adW a b ring w:=by
 have d:(Wd L a b ring).nf.st=adM ring ad0:=by cases ring <;> rfl
 show(Wd L a b ring).nf.has (Ay _ (Wd L a b ring).nf.st w)=_
 rw [d,aBb j y w _ C];unfold adW;generalize Ay (adN a b) ad0 w=s;obtain⟨n,l,f,h⟩:=s;unfold NF.has;rw [WA.nf_n];cases ring
 ·have:(Wd L a b false).n=3:=rfl;rw [this];cases n <;> cases l <;> cases f <;> cases h <;> rfl
 ·have:(Wd L a b true).n=6:=rfl;rw [this];cases n <;> cases l <;> cases f <;> cases h <;> rfl
def Wf (L:Nat) (l:List Int) (k:Nat):List (List Nat):=(List.range (k+1)).map fun i=>(List.range L).map fun x:Nat=>if (x:Int)∈l/\i<k then i+1 else i
def We (k:Nat):List Bool:=(List.range (k+1)).map fun i=>decide (i=k)
theorem aA5 (L:Nat) (l:List Int) (k:Nat):DOK L (Wf L l k) (We k):=by
 refine⟨by simp [Wf,We],by simp [We],fun r h=>?_⟩;obtain⟨i,d,rfl⟩:=List.mem_map.1 h;refine⟨by simp,fun y j=>?_⟩;obtain⟨x,_,rfl⟩:=List.mem_map.1 j;have:=List.mem_range.1 d;simp only [We,List.length_map,List.length_range];split <;> omega
theorem aBl {L:Nat} {l:List Int} {k i x:Nat} (h:i<=k) (d:x<L):dnx (Wf L l k) i x=if (x:Int)∈l/\i<k then i+1 else i:=by
 unfold dnx Wf;simp only [List.getD_eq_getElem?_getD,List.getElem?_map];rw [List.getElem?_range (by omega)];simp only [Option.map_some,Option.getD_some,List.getElem?_map];rw [List.getElem?_range d];rfl
theorem aBL {L:Nat} {l:List Int} {k:Nat} {w:List Nat} (j:okW L w):Ay (dnx (Wf L l k)) 0 w=min (UB l w) k:=by
 have:=U2 (L:=L) (δ:=dnx (Wf L l k)) (I:=fun p s=>s=min (UB l p) k) (fun p s x y d=>by
  subst d;rw [aBl (by omega) y,Vs];by_cases h:(x:Int)∈l
  ·simp only [h,true_and,if_true];split <;> omega
  ·simp only [h,false_and,if_false]) w [] 0 j (by simp [UB])
 simpa using this
theorem aBK {L:Nat} {l:List Int} {k:Nat} {w:List Nat} (d:okW L w):(AG L (Wf L l k) (We k)).lang w=decide (k<=UB l w):=by
 rw [Kl (aA5 L l k) d,aBL d];unfold dac We;rw [List.getD_eq_getElem?_getD,List.getElem?_map,List.getElem?_range (by omega)];simp only [Option.map_some,Option.getD_some];rw [Bool.eq_iff_iff];simp only [decide_eq_true_eq];omega
structure ScS where
 som:Bool
 cn:List Nat
 fo:Bool
 op:Bool
 cl:Bool
deriving DecidableEq
def scN (bad:List (List Int×Nat)) (adj:Option (Int×Int)) (ring:Bool) (s:ScS) (x:Nat):ScS:=
 let cn:=(s.cn.zip bad).map fun c=>if (x:Int)∈c.2.1 then min (c.1+1) c.2.2 else c.1
 match adj with
 | none=>⟨true,cn,s.fo,s.op&&!s.fo,s.cl&&!s.fo⟩
 | some (a,b)=>
  if s.fo then ⟨true,cn,true,false,false⟩
  else if s.op&&decide ((x:Int)=b) then ⟨true,cn,true,false,false⟩
  else ⟨true,cn,false,decide ((x:Int)=a),ring&&(s.cl||!s.som&&decide ((x:Int)=b))⟩
def sc0 (bad:List (List Int×Nat)):ScS:=⟨false,bad.map fun _=>0,false,false,false⟩
def scB (bad:List (List Int×Nat)) (adj:Option (Int×Int)) (s:ScS):Bool:=(s.cn.zip bad).all (fun c=>decide (c.2.2<=c.1))&&s.som&&(adj.isNone||s.fo||s.op&&s.cl)
def UZ (adj:Option (Int×Int)) (ring:Bool) (w:List Nat):Bool:=match adj with
 | none=>true
 | some (a,b)=>adW a b ring w
def UK (bad:List (List Int×Nat)) (adj:Option (Int×Int)) (ring:Bool) (w:List Nat):Bool:=bad.all (fun c=>decide (c.2<=UB c.1 w))&&!w.isEmpty&&UZ adj ring w
structure ScI (bad:List (List Int×Nat)) (adj:Option (Int×Int)) (ring:Bool) (w:List Nat) (s:ScS):Prop where
 som:s.som= !w.isEmpty
 cn:s.cn=bad.map fun c=>min (UB c.1 w) c.2
 no:adj=none->s.fo=false/\s.op=false/\s.cl=false
 yes:∀a b,adj=some (a,b)->s.fo=(Ay (adN a b) ad0 w).fo/\s.op=(!(Ay (adN a b) ad0 w).fo&&(Ay (adN a b) ad0 w).la)/\s.cl=(!(Ay (adN a b) ad0 w).fo&&(ring&&(Ay (adN a b) ad0 w).he))/\(Ay (adN a b) ad0 w).ne= !w.isEmpty
theorem U4 {α β γ:Type} (l:List α) (f:α->β) (g:β×α->γ):((l.map f).zip l).map g=l.map fun c=>g (f c,c):=by
 induction l with
 | nil=>rfl
 | cons a l ih=>simp only [List.map_cons,List.zip_cons_cons,ih]
theorem ScI.step {bad:List (List Int×Nat)} {adj:Option (Int×Int)} {ring:Bool} {w:List Nat} {s:ScS} (h:ScI bad adj ring w s) (x:Nat):ScI bad adj ring (w++[x]) (scN bad adj ring s x):=by
 have G:((s.cn.zip bad).map fun c=>if (x:Int)∈c.2.1 then min (c.1+1) c.2.2 else c.1)=bad.map fun c=>min (UB c.1 (w++[x])) c.2:=by
  rw [h.cn,U4];refine List.map_congr_left fun c _=>?_;show(if (x:Int)∈c.1 then min (min (UB c.1 w) c.2+1) c.2 else min (UB c.1 w) c.2)=_
  rw [Vs];by_cases d:(x:Int)∈c.1
  ·rw [if_pos d,if_pos d]; omega
  ·rw [if_neg d,if_neg d]
 have E:(!(w++[x]).isEmpty)=true:=by simp
 cases adj with
 | none=>
  obtain⟨j,y,C⟩:=h.no rfl;refine⟨by rw [E]; rfl,G,fun _=>⟨j,?_,?_⟩,fun a b e=>by cases e⟩
  ·show(s.op&&!s.fo)=false; rw [y]; rfl
  ·show(s.cl&&!s.fo)=false; rw [C]; rfl
 | some ab=>
  obtain⟨a,b⟩:=ab;obtain⟨j,y,C,J⟩:=h.yes a b rfl;have I:=h.som;refine⟨?_,?_,fun e=>(by cases e),fun a' O e=>?_⟩
  ·rw [E]; simp only [scN]; split <;> (try split) <;> rfl
  ·simp only [scN]; split <;> (try split) <;> exact G
  ·cases e;rw [Fs,E];rw [<-J] at I;revert j y C I;generalize Ay (adN a b) ad0 w=t;obtain⟨n,l,f,e⟩:=t;obtain⟨M,cn,fo,op,cl⟩:=s;simp only [scN,adN];generalize decide ((x:Int)=a)=A;generalize decide ((x:Int)=b)=B;rintro rfl rfl rfl rfl;cases A <;> cases B <;> cases M <;> cases l <;> cases fo <;> cases e <;> cases ring <;> (first | exact⟨rfl,rfl,rfl,rfl⟩ | exact⟨rfl,rfl,rfl,trivial⟩)
theorem V4 (bad:List (List Int×Nat)) (adj:Option (Int×Int)) (ring:Bool) (w:List Nat) {L:Nat} (h:okW L w):ScI bad adj ring w (Ay (scN bad adj ring) (sc0 bad) w):=by
 have:=U2 (L:=L) (δ:=scN bad adj ring) (I:=fun p s=>ScI bad adj ring p s) (fun p s x _ d=>d.step x) w [] (sc0 bad) h
  ⟨rfl,by simp [sc0,UB],fun _=>⟨rfl,rfl,rfl⟩,fun a b _=>⟨rfl,rfl,(by cases ring <;> rfl),rfl⟩⟩
 simpa using this
theorem V3 (bad:List (List Int×Nat)) (adj:Option (Int×Int)) (ring:Bool) {w:List Nat} {L:Nat} (M:okW L w):scB bad adj (Ay (scN bad adj ring) (sc0 bad) w)=UK bad adj ring w:=by
 have h:=V4 bad adj ring w M;unfold scB UK;rw [h.som];congr 1
 ·congr 1;rw [h.cn,Bool.eq_iff_iff,List.all_eq_true,List.all_eq_true];constructor
  ·intro j c d;have:=j (min (UB c.1 w) c.2,c) (by
    have:(min (UB c.1 w) c.2,c)∈((bad.map fun c=>min (UB c.1 w) c.2).zip bad).map id:=by
     rw [U4]; exact List.mem_map.2 ⟨c,d,rfl⟩
    simpa using this)
   simp only [decide_eq_true_eq] at this ⊢;omega
  ·intro j ⟨m,c⟩ d;have:(m,c)∈((bad.map fun c=>min (UB c.1 w) c.2).zip bad).map id:=by simpa using d
   rw [U4] at this;obtain⟨O,J,e⟩:=List.mem_map.1 this;simp only [id] at e;have y:=(Prod.mk.inj e).1;have C:=(Prod.mk.inj e).2;have:=j _ J;rw [C] at this y;simp only [decide_eq_true_eq] at this ⊢;omega
 ·cases adj with
  | none=>simp [UZ]
  | some ab=>
   obtain⟨a,b⟩:=ab;obtain⟨E,G,I,U⟩:=h.yes a b rfl;rw [E,G,I];show _=adW a b ring w
   unfold adW AdS.is;generalize Ay (adN a b) ad0 w=t;obtain⟨n,l,f,e⟩:=t;cases l <;> cases f <;> cases e <;> cases ring <;> rfl
theorem aBh {bad:List (List Int×Nat)} {adj:Option (Int×Int)} {ring:Bool} (h:adj=none->∃c∈bad,1<=c.2) (w:List Nat):UK bad adj ring w=(bad.all (fun c=>decide (c.2<=UB c.1 w))&&UZ adj ring w):=by
 unfold UK;cases w with
 | cons x w=>simp
 | nil=>
  cases adj with
  | none=>
   obtain⟨c,d,j⟩:=h rfl;have:(bad.all fun c=>decide (c.2<=UB c.1 []))=false:=by
    rw [List.all_eq_false];exact⟨c,d,by simp [UB]; omega⟩
   rw [this]; rfl
  | some ab=>
   obtain⟨a,b⟩:=ab;have:UZ (some (a,b)) ring []=false:=by cases ring <;> rfl
   rw [this]; simp
end Go.Proofs.YtfcfpoemojjglaaGreatDoor
namespace Go.Proofs.YtfcfpoemojjglaaGreatDoor
structure Sc3 where
 som:Bool
 c0:Nat
 c1:Nat
 c2:Nat
 fo:Bool
 op:Bool
 cl:Bool
deriving DecidableEq
def scU (bad:List (List Int×Nat)) (x k c:Nat):Nat:=match bad[k]? with
 | some d=>if (x:Int)∈d.1 then min (c+1) d.2 else c
 | none=>c
def scK (bad:List (List Int×Nat)) (x i k c:Nat):Nat:=if k<i then scU bad x k c else c
def UE (bad:List (List Int×Nat)) (x i:Nat) (s:Sc3):Sc3:={ s with c0:=scK bad x i 0 s.c0,c1:=scK bad x i 1 s.c1,c2:=scK bad x i 2 s.c2 }
def Uz (adj:Option (Int×Int)) (ring:Bool) (s:Sc3) (x:Nat):Sc3:=match adj with
 | none=>{ s with som:=true,op:=s.op&&!s.fo,cl:=s.cl&&!s.fo }
 | some (a,b)=>
  if s.fo then { s with som:=true,fo:=true,op:=false,cl:=false }
  else if s.op&&decide ((x:Int)=b) then { s with som:=true,fo:=true,op:=false,cl:=false }
  else { s with som:=true,fo:=false,op:=decide ((x:Int)=a),cl:=ring&&(s.cl||!s.som&&decide ((x:Int)=b)) }
def Ux (bad:List (List Int×Nat)) (adj:Option (Int×Int)) (ring:Bool) (s:Sc3) (x:Nat):Sc3:=Uz adj ring (UE bad x bad.length s) x
def UD:Sc3:=⟨false,0,0,0,false,false,false⟩
def Sc3.to (b:Nat) (s:Sc3):ScS:=⟨s.som,[s.c0,s.c1,s.c2].take b,s.fo,s.op,s.cl⟩
def UG (bad:List (List Int×Nat)) (adj:Option (Int×Int)) (s:Sc3):Bool:=scB bad adj (s.to bad.length)
theorem VV {bad:List (List Int×Nat)} (J:bad.length<=3) (adj:Option (Int×Int)) (ring:Bool) (s:Sc3) (x:Nat):(Ux bad adj ring s x).to bad.length=scN bad adj ring (s.to bad.length) x:=by
 have y:[(UE bad x bad.length s).c0,(UE bad x bad.length s).c1,(UE bad x bad.length s).c2].take bad.length=(([s.c0,s.c1,s.c2].take bad.length).zip bad).map fun c=>if (x:Int)∈c.2.1 then min (c.1+1) c.2.2 else c.1:=by
  rcases bad with _ | ⟨a,_ | ⟨b,_ | ⟨c,_ | ⟨d,l⟩⟩⟩⟩
  ·rfl
  ·simp [UE,scK,scU]
  ·simp [UE,scK,scU]
  ·simp [UE,scK,scU]
  ·exact absurd J (by simp)
 cases adj with
 | none=>
  unfold Ux Uz scN Sc3.to;rw [<-y];rfl
 | some ab=>
  obtain⟨a,b⟩:=ab;unfold Ux Uz scN Sc3.to;rw [<-y];have C:(UE bad x bad.length s).fo=s.fo:=rfl;have E:(UE bad x bad.length s).op=s.op:=rfl;have G:(UE bad x bad.length s).cl=s.cl:=rfl;have I:(UE bad x bad.length s).som=s.som:=rfl;simp only [C,E,G,I];by_cases h:s.fo=true
  ·simp only [h,if_true]
  ·by_cases j:(s.op&&decide ((x:Int)=b))=true
   ·simp only [h,j,if_true]; rfl
   ·simp only [h,j]; rfl
theorem Ve {bad:List (List Int×Nat)} (d:bad.length<=3) (adj:Option (Int×Int)) (ring:Bool):∀(w:List Nat) (s:Sc3),(Ay (Ux bad adj ring) s w).to bad.length=Ay (scN bad adj ring) (s.to bad.length) w
 | [],_=>rfl
 | x::w,s=>by
  show(Ay (Ux bad adj ring) (Ux bad adj ring s x) w).to bad.length=Ay (scN bad adj ring) (scN bad adj ring (s.to bad.length) x) w
  rw [<-VV d];exact Ve d adj ring w _
theorem VU (bad:List (List Int×Nat)) (h:bad.length<=3):UD.to bad.length=sc0 bad:=by
 unfold UD Sc3.to sc0;rcases bad with _ | ⟨a,_ | ⟨b,_ | ⟨c,_ | ⟨d,l⟩⟩⟩⟩
 ·rfl
 ·rfl
 ·rfl
 ·rfl
 ·exact absurd h (by simp)
theorem VS {bad:List (List Int×Nat)} (d:bad.length<=3) (adj:Option (Int×Int)) (ring:Bool) {w:List Nat} {L:Nat} (h:okW L w):UG bad adj (Ay (Ux bad adj ring) UD w)=UK bad adj ring w:=by
 unfold UG;rw [Ve d,VU bad d,V3 bad adj ring h]
def Sc3.Le (s:Sc3):Prop:=s.c0<=3/\s.c1<=3/\s.c2<=3
theorem V0 {bad:List (List Int×Nat)} (j:∀d∈bad,d.2<=3) {x k c:Nat} (l:c<=3):scU bad x k c<=3:=by
 unfold scU;cases h:bad[k]? with
 | none=>exact l
 | some d=>
  have:=j d (List.mem_of_getElem? h);simp only;split <;> omega
theorem UO {bad:List (List Int×Nat)} (j:∀d∈bad,d.2<=3) {x i k c:Nat} (h:c<=3):scK bad x i k c<=3:=by
 unfold scK;split
 ·exact V0 j h
 ·exact h
theorem VY {bad:List (List Int×Nat)} (h:∀d∈bad,d.2<=3) {x i:Nat} {s:Sc3} (j:s.Le):(UE bad x i s).Le:=⟨UO h j.1,UO h j.2.1,UO h j.2.2⟩
theorem VZ {adj:Option (Int×Int)} {ring:Bool} {x:Nat} {s:Sc3} (d:s.Le):(Uz adj ring s x).Le:=by
 unfold Uz;cases adj with
 | none=>exact d
 | some ab=>simp only; split <;> (try split) <;> exact d
theorem VT {bad:List (List Int×Nat)} (h:∀d∈bad,d.2<=3) {adj:Option (Int×Int)} {ring:Bool} {x:Nat} {s:Sc3} (j:s.Le):(Ux bad adj ring s x).Le:=VZ (VY h j)
def UW:List Sc3:=[false,true].flatMap fun a=>[0,1,2,3].flatMap fun c0=>[0,1,2,3].flatMap fun c1=>[0,1,2,3].flatMap fun c2=>[false,true].flatMap fun f=>[false,true].flatMap fun o=>[false,true].map fun c=>⟨a,c0,c1,c2,f,o,c⟩
theorem VW:UW.length=1024:=by decide+kernel
theorem VX {s:Sc3} (h:s.Le):s∈UW:=by
 obtain⟨a,c0,c1,c2,f,o,c⟩:=s;obtain⟨l,y,C⟩:=h;simp only at l y C;have d:∀b:Bool,b∈[false,true]:=by decide
 have j:∀n:Nat,n<=3->n∈[0,1,2,3]:=fun n j=>by
  have:n=0\/n=1\/n=2\/n=3:=by omega
  rcases this with rfl | rfl | rfl | rfl <;> decide
 unfold UW;exact List.mem_flatMap.2 ⟨a,d a,List.mem_flatMap.2 ⟨c0,j _ l,List.mem_flatMap.2 ⟨c1,j _ y,List.mem_flatMap.2 ⟨c2,j _ C,List.mem_flatMap.2 ⟨f,d f,List.mem_flatMap.2 ⟨o,d o,List.mem_map.2 ⟨c,d c,rfl⟩⟩⟩⟩⟩⟩⟩
end Go.Proofs.YtfcfpoemojjglaaGreatDoor
namespace Go.Proofs.YtfcfpoemojjglaaGreatDoor
open Go.RowKit
set_option maxHeartbeats 16000000
set_option maxRecDepth 100000
set_option linter.unusedSimpArgs false
def BE (s:Sc3):List Value:=[.bool s.som,.int .i64 (s.c0:Int),.int .i64 (s.c1:Int),.int .i64 (s.c2:Int),.bool s.fo,.bool s.op,.bool s.cl]
def UA (s:Sc3):Value:=.agg #[.bool s.som,.int .i64 (s.c0:Int),.int .i64 (s.c1:Int),.int .i64 (s.c2:Int),.bool s.fo,.bool s.op,.bool s.cl]
theorem Vh:Tryz.t3.size=1:=by kernel_rfl
theorem UQ:Tryz.t4.size=1:=by kernel_rfl
theorem UP:Tryz.t131.size=3:=by kernel_rfl
theorem VF (a b:Int) (d:Nat) (w:World):(Op.equalIn (d+1) 3 (.int .i64 a) (.int .i64 b)).run Tryz.prog w=.ok (a==b) w:=by
 simp [Op.equalIn,go_sem]
theorem US (a b:Bool) (d:Nat) (w:World):(Op.equalIn (d+1) 4 (.bool a) (.bool b)).run Tryz.prog w=.ok (a==b) w:=by
 simp [Op.equalIn,go_sem]
theorem UR (x y z h j l:Int) (d:Nat) (w:World):(Op.equalIn (d+1+1) 131 (.agg #[.int .i64 x,.int .i64 y,.int .i64 z]) (.agg #[.int .i64 h,.int .i64 j,.int .i64 l])).run Tryz.prog w=.ok (x==h&&(y==j&&z==l)) w:=by
 rw [Op.equalIn];by_cases C:x=h <;> by_cases E:y=j <;> by_cases G:z=l <;> simp [go_sem,List.range',VF,part,isAgg,sizeOf,Vh,C,E,G]
theorem VE (a a' f f' o C c j:Bool) (x y z E G I:Int) (w:World):(Op.equalIn (9997+1+1+1) 133 (.agg #[.bool a,.int .i64 x,.int .i64 y,.int .i64 z,.bool f,.bool o,.bool c]) (.agg #[.bool a',.int .i64 E,.int .i64 G,.int .i64 I,.bool f',.bool C,.bool j])).run Tryz.prog w=.ok (a==a'&&(x==E&&(y==G&&z==I))&&f==f'&&o==C&&c==j) w:=by
 rw [Op.equalIn];by_cases d:a=a'
 ·by_cases h:(x==E&&(y==G&&z==I))=true
  ·by_cases l:f=f'
   ·by_cases J:o=C
    ·by_cases M:c=j <;> simp [go_sem,US,UR,part,isAgg,sizeOf,UQ,UP,d,h,l,J,M]
    ·simp [go_sem,US,UR,part,isAgg,sizeOf,UQ,UP,d,h,l,J]
   ·simp [go_sem,US,UR,part,isAgg,sizeOf,UQ,UP,d,h,l]
  ·simp [go_sem,US,UR,part,isAgg,sizeOf,UQ,UP,d,h]
 ·simp [go_sem,US,UR,part,isAgg,sizeOf,UQ,UP,d]
theorem VG (w:World) (s t:Sc3):(Op.equal 133 (UA s) (UA t)).run Tryz.prog w=.ok (decide (s=t)) w:=by
 obtain⟨a,x,y,z,f,o,c⟩:=s;obtain⟨a',l,C,E,f',j,d⟩:=t;refine(VE a a' f f' o j c d x y z l C E w).trans ?_;congr 1;rw [Bool.eq_iff_iff];simp only [Bool.and_eq_true,beq_iff_eq,decide_eq_true_eq,Sc3.mk.injEq];constructor
 ·rintro⟨⟨⟨⟨rfl,h⟩,rfl⟩,rfl⟩,rfl⟩;exact⟨rfl,by omega,by omega,by omega,rfl,rfl,rfl⟩
 ·rintro⟨rfl,rfl,rfl,rfl,rfl,rfl,rfl⟩;simp
theorem Vr (d:Nat) (h:Bool) (w:World) (s:Sc3):(Instr.checkKey h (d+1+1+1) 133 (UA s)).run Tryz.prog w=.ok () w:=by
 unfold UA;simp [Instr.checkKey,go_sem,List.range',part,isAgg,sizeOf,Vh,UQ,UP]
theorem U0:El Tryz.prog 133 UA:=VK Tryz.underlying133 (fun _ _=>rfl) (fun d w s=>Vr 9997 d w s) VG
theorem VJ:(Tryz.prog.info? 133).map (fun i=>(i.zero,i.size,i.bytes))=some (some (.agg #[.bool false,.int .i64 0,.int .i64 0,.int .i64 0,.bool false,.bool false,.bool false]),7,40):=by kernel_rfl
theorem VQ:Dd Tryz.prog 186 133 7:=EX Tryz.underlying186 VJ rfl (by omega) (by omega)
theorem U9:∀{l:List Sc3} {k j:Nat} {d:Sc3},l[k]?=some d->j<7->(l.flatMap BE)[k*7+j]?=(BE d)[j]?
 | [],_,_,_,h,_=>by simp at h
 | d::l,0,j,e,h,hj=>by
  have:d=e:=by simpa using h
  subst this;rw [List.flatMap_cons,List.getElem?_append_left (by simp [BE]; omega)];congr 1;omega
 | d::l,k+1,j,e,h,hj=>by
  rw [List.flatMap_cons,List.getElem?_append_right (by simp [BE]; omega)];have C:=U9 (l:=l) (k:=k) (j:=j) (by simpa using h) hj;have y:(k+1)*7+j - (BE d).length=k*7+j:=by simp [BE]; omega
  rw [y];exact C
theorem VO {w:World} {base n:Nat} {v:Value} {l:List Sc3} (h:w.ownsRow base 133 7 v n (l.flatMap BE)) (O:l.length=n) {k:Nat} {d:Sc3} (C:l[k]?=some d):
  ∃g y,v=.slice (some ⟨g,0,none⟩) n y/\base<=g/\g<w.heap.size/\∀j,j<7->w.cell? ⟨g,k*7+j,none⟩=(BE d)[j]?:=by
 subst O;rcases h.2 with⟨rfl,J⟩ | ⟨g,y,I,rfl,M,E,U,V,W,ht⟩
 ·have:l=[]:=List.length_eq_zero_iff.1 J;subst this;simp at C
 ·refine⟨g,y,rfl,M,(Array.getElem?_eq_some_iff.1 E).1,fun j G=>?_⟩;rw [cell_of_row w g _ I 133 (0,0) E];have:=U9 C G;rw [<-ht,List.getElem?_take] at this;split at this
  ·rw [<-this]; simp
  ·rw [List.getElem?_eq_getElem (by simpa [BE] using G)] at this;cases this
structure QS (w0 wr:World) (g2 g4 g5 gm:Nat) (c2:Array Value) (kst st:List Sc3) (t:List (List Nat)) (as':List Bool) (vS vN vA:Value) (ws:List Value) (N:Nat->Prop):Prop where
 below:Below w0.heap.size w0 wr
 b2:Blk wr g2 78 c2
 b4:Blk wr g4 78 #[sn0,sn0]
 b5:Blk wr g5 78 #[vN,vA]
 map:Bw wr gm (kst.map UA)
 sts:wr.ownsRow w0.heap.size 133 7 vS st.length (st.flatMap BE)
 acc:wr.ownsRow w0.heap.size 4 1 vA as'.length (as'.map Value.bool)
 nxt:wr.ownsRow w0.heap.size 24 1 vN t.length ws
 nxtR:Cl wr w0.heap.size (fun g=>N g/\vS.ownBlock≠some g) ws (t.map Ak)
 ne:g2≠g5/\g4≠g5
 ge:w0.heap.size<=g2/\w0.heap.size<=g4/\w0.heap.size<=g5/\w0.heap.size<=gm
section
variable {w0 wr w':World} {g2 g4 g5 gm:Nat} {c2:Array Value} {kst st:List Sc3} {t:List (List Nat)} {as':List Bool} {vS vN vA:Value} {ws:List Value} {N:Nat->Prop}
theorem QS.keep (h:QS w0 wr g2 g4 g5 gm c2 kst st t as' vS vN vA ws N) (d:Below wr.heap.size wr w'):QS w0 w' g2 g4 g5 gm c2 kst st t as' vS vN vA ws N:=
 ⟨h.below.trans (d.mono h.below.size),h.b2.below d,h.b4.below d,h.b5.below d,h.map.keep (d.block _ h.map.lt),Bt h.sts d,Bt h.acc d,Bt h.nxt d,
  h.nxtR.keep (Ac.of_below d (fun _=>False)) (fun _ _ _ e=>e.elim) (fun _ _ x=>x) (Nat.le_refl _),h.ne,h.ge⟩
theorem QS.weak {N':Nat->Prop} (h:QS w0 wr g2 g4 g5 gm c2 kst st t as' vS vN vA ws N) (d:∀g,g<wr.heap.size->N g->N' g):QS w0 wr g2 g4 g5 gm c2 kst st t as' vS vN vA ws N':=
 ⟨h.below,h.b2,h.b4,h.b5,h.map,h.sts,h.acc,h.nxt,h.nxtR.keep (Ac.refl wr (fun _=>False)) (fun _ _ _ e=>e.elim) (fun g j x=>⟨d g j x.1,x.2⟩) (Nat.le_refl _),h.ne,h.ge⟩
theorem QS.other (h:QS w0 wr g2 g4 g5 gm c2 kst st t as' vS vN vA ws N) {gr:Nat} {c3:Array Value} (C:∀g,N g->g≠gr) (hS:vS.ownBlock≠some gr) (j:Blk wr gr 3 c3) (y:w0.heap.size<=gr) (d:Ac wr w' (fun k=>k=gr)):QS w0 w' g2 g4 g5 gm c2 kst st t as' vS vN vA ws N:=
 ⟨h.below.trans (d.below h.below.size fun b G e=>by omega),h.b2.kept d (h.b2.ne_ j (by decide)),h.b4.kept d (h.b4.ne_ j (by decide)),h.b5.kept d (h.b5.ne_ j (by decide)),
  h.map.kept d (fun e=>BT j h.map e.symm),d.ownsRow h.sts (fun g y e=>hS (by rw [y,e])),
  AK d h.acc (fun g cs e l=>by subst e; exact l.ne_ j (by decide) rfl),AK d h.nxt (fun g cs e l=>by subst e; exact l.ne_ j (by decide) rfl),
  h.nxtR.keep d (fun g cs E e _=>C g E.1 e) (fun _ _ x=>x) (Nat.le_refl _),h.ne,h.ge⟩
theorem QS.addS {kv s:Sc3} {vS':Value} {l w1:World} (h:QS w0 wr g2 g4 g5 gm c2 kst st t as' vS vN vA ws N) (M:Bw l gm ((kst++[kv]).map UA)) (C:wr.grownBy l (some gm)) (a4:l.heap.size=wr.heap.size)
  (I:Ac l w1 (fun k=>vS.ownBlock=some k)) (W:w1.ownsRow w0.heap.size 133 7 vS' (st.length+1) (st.flatMap BE++BE s)) (U:BJ l vS vS'):
  QS w0 w1 g2 g4 g5 gm c2 (kst++[kv]) (st++[s]) t as' vS' vN vA ws N/\Ac wr w1 (fun k=>gm=k\/vS.ownBlock=some k):=by
 have J:Ac wr l (fun k=>gm=k):=(Ac.of_grown C).mono fun b _ e=>Option.some.inj e;have d:Ac wr w1 (fun k=>gm=k\/vS.ownBlock=some k):=(J.mono fun _ _ e=>.inl e).trans I fun _ _ e=>.inr e;have y:∀{e:TypeId},e≠133->∀g cs,(gm=g\/vS.ownBlock=some g)->¬Blk wr g e cs:=by
  rintro e G g cs (E | E) hB
  ·exact BT hB h.map E.symm
  ·exact Aw h.sts hB (fun j=>G j.symm) E
 have Z:=J.ownsRow h.sts fun g C e=>Di h.sts h.map (by rw [C,e])
 refine⟨⟨h.below.trans (d.below h.below.size ?_),h.b2.kept d fun x=>y (by decide) _ _ x h.b2,h.b4.kept d fun x=>y (by decide) _ _ x h.b4,h.b5.kept d fun x=>y (by decide) _ _ x h.b5,
  M.kept I (Di Z M),?_,AK d h.acc (y (by decide)),AK d h.nxt (y (by decide)),?_,h.ne,h.ge⟩,d⟩
 ·rintro b hb (e | e)
  ·have:=h.ge; omega
  ·have:=Bb h.sts e; omega
 ·rw [List.length_append,List.flatMap_append];simpa using W
 ·refine h.nxtR.keep d ?_ ?_ (Nat.le_refl _)
  ·rintro g cs V (e | e) hB
   ·exact BT hB h.map e.symm
   ·exact V.2 e
  ·rintro g C ⟨G,O⟩;refine⟨G,fun e=>?_⟩;rcases U with j | ⟨g',j,a5⟩
   ·exact O (by rw [<-j]; exact e)
   ·rw [e] at j;have:=Option.some.inj j;omega
theorem QS.addA {b:Bool} {vA':Value} {w1:World} (h:QS w0 wr g2 g4 g5 gm c2 kst st t as' vS vN vA ws N) (E:Ac wr w1 (fun k=>vA.ownBlock=some k)) (V:w1.ownsRow w0.heap.size 4 1 vA' (as'.length+1) (as'.map Value.bool++[.bool b])):
  QS w0 (w1.setCell ⟨g5,1,none⟩ vA') g2 g4 g5 gm c2 kst st t (as'++[b]) vS vN vA' ws N:=by
 have I:=h.b5.kept E (Aw h.acc h.b5 (by decide));have G:=(Ac.refl w1 (fun k=>k=g5)).setCell (p:=⟨g5,1,none⟩) (fun _=>rfl) vA';have d:Ac wr (w1.setCell ⟨g5,1,none⟩ vA') (fun k=>vA.ownBlock=some k\/k=g5):=(E.mono fun _ _ e=>.inl e).trans G fun _ _ e=>.inr e;have y:∀{e:TypeId},e≠4->e≠78->∀g cs,(vA.ownBlock=some g\/g=g5)->¬Blk wr g e cs:=by
  rintro e J M g cs (l | l) j
  ·exact Aw h.acc j (fun O=>J O.symm) l
  ·exact j.ne_ h.b5 M l
 have C:∀{g:Nat} {cs:Array Value},Blk wr g 78 cs->g≠g5->¬(vA.ownBlock=some g\/g=g5):=by
  rintro g cs j U (e | e)
  ·exact Aw h.acc j (by decide) e
  ·exact U e
 refine⟨h.below.trans (d.below h.below.size ?_),h.b2.kept d (C h.b2 h.ne.1),h.b4.kept d (C h.b4 h.ne.2),I.set_ 1 vA',h.map.kept d ?_,AK d h.sts (y (by decide) (by decide)),?_,AK d h.nxt (y (by decide) (by decide)),
  h.nxtR.keep d (fun g cs _ e=>y (by decide) (by decide) g cs e) (fun _ _ x=>x) (Nat.le_refl _),h.ne,h.ge⟩
 ·rintro b W (e | e)
  ·have:=Bb h.acc e; omega
  ·have:=h.ge; omega
 ·rintro(e | e)
  ·exact Di h.acc h.map e
  ·exact BT h.b5 h.map e.symm
 ·rw [List.length_append,List.map_append];exact AK G V (fun g cs e j=>by subst e; exact j.ne_ I (by decide) rfl)
theorem QS.addR {row:List Nat} {gr c:Nat} {vN':Value} {w1:World} (h:QS w0 wr g2 g4 g5 gm c2 kst st t as' vS vN vA ws N)
  (hr:wr.ownsRow w0.heap.size 3 1 (.slice (some ⟨gr,0,none⟩) row.length c) row.length ((Ak row).map (Value.int .i64))) (hS:vS.ownBlock≠some gr)
  (E:Ac wr w1 (fun k=>vN.ownBlock=some k)) (Z:w1.ownsRow w0.heap.size 24 1 vN' (t.length+1) (ws++[.slice (some ⟨gr,0,none⟩) row.length c])):
  QS w0 (w1.setCell ⟨g5,0,none⟩ vN') g2 g4 g5 gm c2 kst st (t++[row]) as' vS vN' vA (ws++[.slice (some ⟨gr,0,none⟩) row.length c]) (fun _=>True):=by
 have I:=h.b5.kept E (Aw h.nxt h.b5 (by decide));have G:=(Ac.refl w1 (fun k=>k=g5)).setCell (p:=⟨g5,0,none⟩) (fun _=>rfl) vN';have d:Ac wr (w1.setCell ⟨g5,0,none⟩ vN') (fun k=>vN.ownBlock=some k\/k=g5):=(E.mono fun _ _ e=>.inl e).trans G fun _ _ e=>.inr e;have l:∀{e:TypeId},e≠24->e≠78->∀g cs,(vN.ownBlock=some g\/g=g5)->¬Blk wr g e cs:=by
  rintro e M O g cs (y | y) j
  ·exact Aw h.nxt j (fun V=>M V.symm) y
  ·exact j.ne_ h.b5 O y
 have C:∀{g:Nat} {cs:Array Value},Blk wr g 78 cs->g≠g5->¬(vN.ownBlock=some g\/g=g5):=by
  rintro g cs j W (e | e)
  ·exact Aw h.nxt j (by decide) e
  ·exact W e
 refine⟨h.below.trans (d.below h.below.size ?_),h.b2.kept d (C h.b2 h.ne.1),h.b4.kept d (C h.b4 h.ne.2),I.set_ 0 vN',h.map.kept d ?_,AK d h.sts (l (by decide) (by decide)),AK d h.acc (l (by decide) (by decide)),?_,?_,h.ne,h.ge⟩
 ·rintro b hb (e | e)
  ·have:=Bb h.nxt e; omega
  ·have:=h.ge; omega
 ·rintro(e | e)
  ·exact Di h.nxt h.map e
  ·exact BT h.b5 h.map e.symm
 ·rw [List.length_append];exact AK G Z (fun g cs e j=>by subst e; exact j.ne_ I (by decide) rfl)
 ·rw [List.map_append];refine Cl.snoc (h.nxtR.keep d (fun g cs _ e=>l (by decide) (by decide) g cs e) (fun _ _ x=>⟨trivial,x.2⟩) (Nat.le_refl _)) ?_ ?_
  ·have:=AK d hr (l (by decide) (by decide));have J:(Ak row).length=row.length:=by simp [Ak]
   rw [J];exact this
  ·intro g U;refine⟨trivial,fun e=>hS ?_⟩;have:gr=g:=by simpa [Value.ownBlock] using U
   rw [this];exact e
theorem QS.finO {wF:World} (h:QS w0 wr g2 g4 g5 gm c2 kst st t as' vS vN vA ws N) (y:Ac wr wF (fun k=>k=g4\/k<w0.heap.size)):
  Do wF w0.heap.size (.agg #[vN,vA]) t as':=by
 have G:=h.ge;have E:=y.ownsRow h.nxt fun g j e=>by
  rcases e with e | e
  ·exact Aw h.nxt h.b4 (by decide) (by rw [j,e])
  ·have:=Bb h.nxt j; omega
 have C:=y.ownsRow h.acc fun g j e=>by
  rcases e with e | e
  ·exact Aw h.acc h.b4 (by decide) (by rw [j,e])
  ·have:=Bb h.acc j; omega
 exact⟨vN,vA,ws,rfl,C,E,h.nxtR.imp fun v d l=>⟨y.ownsRow l.1 fun g j e=>by
  rcases e with e | e
  ·exact Aw l.1 h.b4 (by decide) (by rw [j,e])
  ·have:=Bb l.1 j; omega,fun _ _=>trivial⟩⟩
end
end Go.Proofs.YtfcfpoemojjglaaGreatDoor
namespace Go.Proofs.YtfcfpoemojjglaaGreatDoor
open Go.RowKit
set_option maxHeartbeats 16000000
set_option maxRecDepth 100000
theorem UT (a:Bool) (c0 c1 c2:Nat) (f o c:Bool):UA ⟨a,c0,c1,c2,f,o,c⟩=.agg #[.bool a,.int .i64 (c0:Int),.int .i64 (c1:Int),.int .i64 (c2:Int),.bool f,.bool o,.bool c]:=rfl
theorem U1 {w:World} {base n:Nat} {v:Value} {l:List Sc3} (h:w.ownsRow base 133 7 v n (l.flatMap BE)) (I:l.length=n) {k:Nat} {a f o c:Bool} {c0 c1 c2:Nat} (G:l[k]?=some ⟨a,c0,c1,c2,f,o,c⟩):
  ∃g d,v=.slice (some ⟨g,0,none⟩) n d/\base<=g/\g<w.heap.size/\(loadCellsFrom ⟨g,k*7,none⟩ 0 7 #[]).run Tryz.prog w=.ok #[.bool a,.int .i64 (c0:Int),.int .i64 (c1:Int),.int .i64 (c2:Int),.bool f,.bool o,.bool c] w:=by
 obtain⟨g,d,e,C,J,E⟩:=VO h I G;refine⟨g,d,e,C,J,?_⟩;have:=run_loadCells_list (P:=Tryz.prog) w ⟨g,k*7,none⟩ (BE ⟨a,c0,c1,c2,f,o,c⟩) (fun j v y=>by
  rw [Addr.add_mid,E j (by have:=AP y; simpa [BE] using this)];exact y)
 simpa [loadCells,BE] using this
theorem Vc {S:Type} [DecidableEq S] (δ:S->Nat->S) (s:S) (l:List S):∀k,(AZ δ s l k).length<=l.length+k
 | 0=>Nat.le_refl _
 | k+1=>by
  rw [Cr];have:=Vc δ s l k;unfold Bs;split
  ·omega
  ·rw [List.length_append,List.length_singleton]; omega
theorem Wc (w:World):∃g8 g9 gs gm w1 w2 d j h y,g8=w1.heap.size/\g9=w2.heap.size/\gs=h.heap.size/\w.alloc (.cells #[.bool false,.int .i64 0,.int .i64 0,.int .i64 0,.bool false,.bool false,.bool false] 133)=w1/\w1.alloc (.cells #[sn0,sn0] 78)=w2/\w2.alloc (.cells #[sn0,sn0] 78)=d/\(Instr.makeMap 185 none).run Tryz.prog d=.ok (.map (some gm)) j/\
  (Instr.mapUpdate 185 (.map (some gm)) (.agg #[.bool false,.int .i64 0,.int .i64 0,.int .i64 0,.bool false,.bool false,.bool false]) (.int .i64 0)).run Tryz.prog j=.ok () h/\h.alloc (.cells #[.bool false,.int .i64 0,.int .i64 0,.int .i64 0,.bool false,.bool false,.bool false] 133)=y/\
  Blk j w.heap.size 133 #[.bool false,.int .i64 0,.int .i64 0,.int .i64 0,.bool false,.bool false,.bool false]/\Blk h w.heap.size 133 #[.bool false,.int .i64 0,.int .i64 0,.int .i64 0,.bool false,.bool false,.bool false]/\
  QS w y g8 g8 g9 gm #[sn0,sn0] [UD] [UD] [] [] (.slice (some ⟨gs,0,none⟩) 1 1) sn0 sn0 [] (fun _=>True):=by
 obtain⟨w1,h1,W,J,aj⟩:=Ae w #[.bool false,.int .i64 0,.int .i64 0,.int .i64 0,.bool false,.bool false,.bool false] 133;obtain⟨w2,h2,G,M,ak⟩:=Ae w1 #[sn0,sn0] 78;obtain⟨d,h3,C,U,al⟩:=Ae w2 #[sn0,sn0] 78;obtain⟨gm,j,h4,ab,I,ai⟩:=F1 185 d;obtain⟨h,h5,V,ae,an⟩:=EY U0 Tryz.underlying185 (l:=[]) ab UD (by simp);have Z:=Ac.of_grown ae;obtain⟨y,h6,O,aa,am⟩:=Ae h #[.bool false,.int .i64 0,.int .i64 0,.int .i64 0,.bool false,.bool false,.bool false] 133;have s1:=W.size;have s2:=G.size;have s3:=C.size;have s4:=I.size;have s6:=O.size;have l1:=J.lt;have l2:=M.lt;have l3:=U.lt;have a2:Below w.heap.size w d:=W.trans ((G.trans (C.mono (by omega))).mono (by omega));have af:Below d.heap.size j h:=Z.below s4 fun b hb e=>by have:=Option.some.inj e; omega
 have a3:Below d.heap.size j y:=af.trans (O.mono (by omega));have E:Below d.heap.size d y:=I.trans a3;have hO:y.ownsRow w.heap.size 133 7 (.slice (some ⟨h.heap.size,0,none⟩) 1 1) 1 ([UD].flatMap BE):=by
  refine⟨rfl,.inr ⟨_,1,_,rfl,by omega,aa,Nat.le_refl _,by unfold maxLen; omega,rfl,rfl⟩⟩
 exact⟨_,_,_,gm,w1,w2,d,j,h,y,rfl,rfl,rfl,h1,h2,h3,h4,h5,h6,((J.below G).below C).below I,(((J.below G).below C).below I).kept Z (fun e=>by have:=Option.some.inj e; omega),
  ⟨a2.trans (E.mono (by omega)),(M.below C).below E,(M.below C).below E,U.below E,V.keep (O.block _ V.lt),hO,Cb,Cb,.nil,⟨by omega,by omega⟩,⟨by omega,by omega,by omega,by omega⟩⟩⟩
theorem Vb {w1:World} {gr x L:Nat} {S:Type} [DecidableEq S] {k h:List S} {f:Nat->S} (C:∀y,y<x->Ax h (f y)=Ax k (f y)) {u:Value} (E:u=.int .i64 (Ax h (f x):Int)) (l:Blk w1 gr 3 (Bi L fun y=>if y<x then Value.int .i64 (Ax k (f y):Int) else .int .i64 0)):
  Blk (w1.setCell ⟨gr,x,none⟩ u) gr 3 (Bi L fun y=>if y<x+1 then Value.int .i64 (Ax h (f y):Int) else .int .i64 0):=by
 have j:=l.set_ x u;rw [F7] at j;rw [D4 (g:=fun y=>if y=x then u else if y<x then Value.int .i64 (Ax k (f y):Int) else .int .i64 0) (fun y _=>by
  by_cases e:y=x
  ·subst e; rw [if_pos (by omega),if_pos rfl,E]
  ·by_cases d:y<x
   ·rw [if_pos (by omega),if_neg e,if_pos d,C y d]
   ·rw [if_neg (by omega),if_neg e,if_neg d])]
 exact j
structure XsI (w0 wr:World) (g8 g9 gm:Nat) (L:Nat) (δ:Sc3->Nat->Sc3) (f:Sc3->Bool) (i:Nat) (all:List Sc3) (vS vN vA:Value) (ws:List Value):Prop where
 mem:QS w0 wr g8 g8 g9 gm #[sn0,sn0] all all (AM L δ all i) ((all.take i).map f) vS vN vA ws (fun _=>True)
 exp:Exp L δ UD i all
structure XsJ (w0 wr:World) (g8 g9 gm:Nat) (L:Nat) (δ:Sc3->Nat->Sc3) (f:Sc3->Bool) (i:Nat) (q:Sc3) (gr x:Nat) (all all':List Sc3) (vS vN vA:Value) (ws:List Value):Prop where
 mem:QS w0 wr g8 g8 g9 gm #[sn0,sn0] all' all' (AM L δ all i) ((all.take i).map f) vS vN vA ws (fun g=>g≠gr)
 eq:all'=AZ δ q all x
 sep:vS.ownBlock≠some gr
 blk:Blk wr gr 3 (Bi L fun y=>if y<x then Value.int .i64 (Ax all' (δ q y):Int) else .int .i64 0)
section
variable {w0 wr:World} {g8 g9 gm L i gr x:Nat} {q:Sc3} {δ:Sc3->Nat->Sc3} {f:Sc3->Bool} {all all':List Sc3} {vS vN vA:Value} {ws:List Value}
theorem XsJ.below (h:XsJ w0 wr g8 g9 gm L δ f i q gr x all all' vS vN vA ws) {w1:World} (d:Below wr.heap.size wr w1):XsJ w0 w1 g8 g9 gm L δ f i q gr x all all' vS vN vA ws:=⟨h.mem.keep d,h.eq,h.sep,h.blk.below d⟩
theorem XsJ.old (h:XsJ w0 wr g8 g9 gm L δ f i q gr x all all' vS vN vA ws) (l:δ q x∈all') (d:w0.heap.size<=gr):
  XsJ w0 (wr.setCell ⟨gr,x,none⟩ (.int .i64 (Ax all' (δ q x):Int))) g8 g9 gm L δ f i q gr (x+1) all all' vS vN vA ws:=by
 have j:=(Ac.refl wr (fun k=>k=gr)).setCell (p:=⟨gr,x,none⟩) (fun _=>rfl) (.int .i64 (Ax all' (δ q x):Int));refine⟨h.mem.other (fun _ h=>h) h.sep h.blk d j,?_,h.sep,Vb (f:=δ q) (fun _ _=>rfl) rfl h.blk⟩;rw [Cr,<-h.eq,F0 l]
theorem XsJ.new (h:XsJ w0 wr g8 g9 gm L δ f i q gr x all all' vS vN vA ws) {s:Sc3} {vS':Value} {d w1:World} (G:δ q x=s) (C:s∉all') (M:w0.heap.size<=gr)
  (a2:Bw d gm ((all'++[s]).map UA)) (O:wr.grownBy d (some gm)) (U:d.heap.size=wr.heap.size)
  (W:Ac d w1 (fun k=>vS.ownBlock=some k)) (Z:w1.ownsRow w0.heap.size 133 7 vS' (all'.length+1) (all'.flatMap BE++BE s)) (E:BJ d vS vS'):
  Blk w1 gr 3 (Bi L fun y=>if y<x then Value.int .i64 (Ax all' (δ q y):Int) else .int .i64 0)/\
  XsJ w0 (w1.setCell ⟨gr,x,none⟩ (.int .i64 (all'.length:Int))) g8 g9 gm L δ f i q gr (x+1) all (all'++[s]) vS' vN vA ws:=by
 obtain⟨hQ,J⟩:=h.mem.addS (kv:=s) (s:=s) a2 O U W Z E;have l:=h.blk.kept J (by
  rintro(e | e)
  ·exact BT h.blk h.mem.map e.symm
  ·exact h.sep e)
 have I:vS'.ownBlock≠some gr:=fun e=>by
  rcases E with j | ⟨g',j,a5⟩
  ·exact h.sep (by rw [<-j]; exact e)
  ·rw [e] at j;have:=Option.some.inj j;have:=h.blk.lt;omega
 have V:=(Ac.refl w1 (fun k=>k=gr)).setCell (p:=⟨gr,x,none⟩) (fun _=>rfl) (.int .i64 (all'.length:Int));refine⟨l,hQ.other (fun _ h=>h) I l M V,?_,I,Vb (k:=all') (f:=δ q) (fun y hy=>?_) ?_ l⟩
 ·rw [Cr,<-h.eq,G,FZ C]
 ·refine ET (List.prefix_append _ _) ?_;rw [h.eq];exact Gb _ _ hy
 ·rw [G,ES C]
end
end Go.Proofs.YtfcfpoemojjglaaGreatDoor
namespace Go.Proofs.YtfcfpoemojjglaaGreatDoor
open Go.RowKit
open K (Am AB D9)
set_option maxHeartbeats 16000000
set_option maxRecDepth 100000
theorem U5 {α:Type} {f:α->Int} {l:List α}:K.Aj f l=0↔∀x∈l,f x=0:=by
 induction l with
 | nil=>simp [K.Aj]
 | cons a l ih=>
  unfold K.Aj;simp only [List.mem_cons,forall_eq_or_imp];rw [AY,ih]
def Uw (q:AB):List (List Int×Nat):=q.bad.map fun c=>(c.states,c.least.toNat)
def Uy (q:AB):Option (Int×Int):=match q.adj with
 | [a,b]=>some (a,b)
 | _=>none
structure UJ (p:Am) (q:AB):Prop where
 L:1<=p.states.length/\p.states.length<=6
 b3:q.bad.length<=3
 le:∀c∈q.bad,1<=c.least/\c.least<=3
 adj:q.adj=[]\/∃a b,q.adj=[a,b]/\inN (p.states.length:Int) a=true/\inN (p.states.length:Int) b=true
 ne:q.adj=[]->q.bad≠[]
 tp:p.topo=2\/p.topo=3
theorem U7 {p:Am} {q:AB} (h:K.propE K.nameOK p q=0) (hk:q.kind=1) (ht:p.topo=2\/p.topo=3):UJ p q:=by
 have hi:=Qt h;unfold K.propE at h;obtain⟨-,J⟩:=AY.1 h;obtain⟨-,M⟩:=AY.1 J;obtain⟨-,O⟩:=AY.1 M;obtain⟨-,U⟩:=AY.1 O;obtain⟨-,V⟩:=AY.1 U;obtain⟨-,C⟩:=AY.1 V;rw [if_neg (by omega)] at C;obtain⟨k1,W⟩:=AY.1 C;obtain⟨k2,Z⟩:=AY.1 W;obtain⟨k3,E⟩:=AY.1 Z;have k1:=(Gg (by decide)).1 k1;have k2:=(Gg (by decide)).1 k2;unfold K.BA at E;obtain⟨-,k5⟩:=AY.1 E;obtain⟨d,k7⟩:=AY.1 k5;have d:=(Gg (by decide)).1 d;have a2:=U5.1 k7;refine⟨hi.L,by simpa using k2,fun c hc=>?_,?_,fun G I=>?_,ht⟩
 ·have:=U5.1 k3 c hc;unfold K.AV at this;obtain⟨-,g⟩:=AY.1 this;have g:=(Gg (by decide)).1 g;simp only [Bool.or_eq_false_iff,Bool.not_eq_false',Bool.and_eq_true,decide_eq_true_eq] at g;exact g.2
 ·have y:∀x∈q.adj,inN (p.states.length:Int) x=true:=fun x hx=>by
   have:=(Gg (by decide)).1 (a2 x hx);simp only [Bool.not_eq_false'] at this;unfold K.inE at this;rw [D3];simp only [Bool.and_eq_true,decide_eq_true_eq] at this;omega
  rcases j:q.adj with _ | ⟨a,_ | ⟨b,_ | ⟨c,l⟩⟩⟩
  ·exact .inl rfl
  ·rw [j] at d; simp at d
  ·rw [j] at y;exact .inr ⟨a,b,rfl,y a (by simp),y b (by simp)⟩
  ·rw [j] at d; simp at d
 ·rw [G,I] at k1;cases k1
theorem UU {p:Am} {q:AB} (h:UJ p q):∀d∈Uw q,d.2<=3:=by
 intro d l;obtain⟨c,j,rfl⟩:=List.mem_map.1 l;have:=h.le c j;show c.least.toNat<=3
 omega
theorem UV (q:AB):(Uw q).length=q.bad.length:=by simp [Uw]
theorem U6 {q:AB} {i:Nat} {c:D9} (h:q.bad[i]?=some c):(Uw q)[i]?=some (c.states,c.least.toNat):=by simp [Uw,h]
theorem UM {bad:List (List Int×Nat)} {x i k c:Nat} (h:k≠i):scK bad x (i+1) k c=scK bad x i k c:=by
 unfold scK;by_cases d:k<i
 ·rw [if_pos (by omega),if_pos d]
 ·rw [if_neg (by omega),if_neg d]
theorem UY (bad:List (List Int×Nat)) (x i c:Nat):scK bad x i i c=c:=if_neg (by omega)
theorem UX (bad:List (List Int×Nat)) (x i c:Nat):scK bad x (i+1) i c=scU bad x i c:=if_pos (by omega)
end Go.Proofs.YtfcfpoemojjglaaGreatDoor
