/-
  WordChecks: the program and the document find words for the same families and properties, with the same errors. The tied card.
-/
import Derived.Test.YtlakpndhhelliaaGreatDoorTie
import Derived.Test.YtlakpndhhelliaaGreatDoorCards
import Derived.Test.YtlakpndhhelliaaGreatDoorPA
import Derived.Test.YtlakpndhhelliaaGreatDoorCZ
import Derived.Test.YtlakpndhhelliaaGreatDoorDA
import Derived.Test.YtlakpndhhelliaaGreatDoorDB
set_option maxHeartbeats 16000000
set_option maxRecDepth 100000
set_option linter.unusedVariables false
set_option linter.unusedSimpArgs false
namespace Go.Proofs.YtlakpndhhelliaaGreatDoor.K
open Go.ChangeShapes Go.WideShapes Go.ChangeAt Go.WideMaps Go.WideElems Go.RowKit
theorem Kj {H:Type} {enc:TypeId×Value→H} {w:World} {base:Nat} {spare:Nat→Bool} {held:Bool} {r:Go.Reach} {f:Nat} {v:Value} {d:DataW H} {p:List MemPlace} (y:Value.okWide Tryz.prog w r f 27 v) (h:DataW.Trod enc Tryz.prog w base spare held 27 v d p):∃cs:List Value,∃q:Ao,v=.agg cs.toArray∧Ax w w.heap.size cs q∧q.Fits:=by
 obtain⟨cs,rfl,z⟩:=okWide_struct Tryz.underlying27 y
 obtain⟨l⟩:=cs
 have C:Tryz.prog.cellsOf 27=10:=by kernel_rfl
 obtain⟨fuel,E⟩:=h
 obtain⟨q,F,G⟩:=OS (cs:=l) (z.trans C) E
 exact⟨l,q,rfl,F,G⟩
theorem Pc {H:Type} {enc:TypeId×Value→H} {w:World} {base:Nat} {spare:Nat→Bool} {held:Bool} {r:Go.Reach} {f:Nat} {v:Value} {d:DataW H} {p:List MemPlace} (y:Value.okWide Tryz.prog w r f 30 v) (h:DataW.Trod enc Tryz.prog w base spare held 30 v d p):∃cs:List Value,∃q:Bd,v=.agg cs.toArray∧BE w w.heap.size cs q∧q.Fits:=by
 obtain⟨cs,rfl,z⟩:=okWide_struct Tryz.underlying30 y
 obtain⟨l⟩:=cs
 have C:Tryz.prog.cellsOf 30=6:=by kernel_rfl
 obtain⟨fuel,E⟩:=h
 obtain⟨q,F,G⟩:=KN (cs:=l) (z.trans C) E
 exact⟨l,q,rfl,F,G⟩
section
variable {H:Type} {enc:TypeId×Value→H} {P:Program}
theorem Oo {f:Func} {s:ChangeSpec} {F fresh Z a2:Bool} {W C:World} {args:Array Value} {v:Value} {ds:List (DataW H)} {h:List MemPlace} (a3:s.vars=[])
  (E:DataW.Whole enc P f.params.toList s.vars F W args.toList ds [] h)
  (G:∀(b:Nat) (z:Nat→Bool) (hd:Bool),DataW.TrodAll enc P C b z hd f.resultTypes.toList (v.resultList f.resultTypes.size) (s.fn H (ds++[])).results [])
  (I:∀z:Nat→Bool,(∀p∈h,z p.block=true)→DataW.TrodAll enc P C 0 z true f.params.toList args.toList (s.fn H (ds++[])).args h) (a4:(s.fn H (ds++[])).vars=[])
  (J:Below W.heap.size W C)
  (a5:∀(j:Nat) (t:TypeId) (r:Value),f.resultTypes[j]?=some t→(v.resultList f.resultTypes.size)[j]?=some r→Value.okWide P C .any 0 t r):
  s.post enc P f F fresh Z a2 W args v C:=by
 have M:∀p∈h,p.block<W.heap.size:=fun p y=>E.lt p y
 have a6:∀p∈h,(fun b=>decide (b<W.heap.size)) p.block=true:=fun p y=>by simpa using M p y
 have O:∀z:Nat→Bool,DataW.TrodVars enc P C z s.vars (s.fn H (ds++[])).vars []:=fun z=>by rw [a3,a4]; rfl
 refine⟨ds,[],h,[],h,[],E,G _ _ _,I _ a6,O _,World.keptBut_mono (fun p y=>⟨y,?_⟩) (J.frame (·∈h)),fun _=>?_⟩
 ·exact Or.inr (Or.inl y)
 ·obtain⟨_,_,_,_,_,hz,hn⟩:=E
  refine⟨a5,_,_,([]++h)++[],⟨[]++h,[],trodAll_append (I _ (fun _ _=>rfl)) (G _ _ _),O _,rfl,?_,?_⟩,?_⟩
  ·intro b U y
   have V:MemPlace.cell b U∈h:=by simpa using y
   rw [J.frozen (M _ V)]
   exact hz b U V
  ·intro ha
   simpa using hn ha
  ·intro p y _
   simpa using y
end
theorem QA (os:Os) (V:os.Started) (H:Type) (enc:TypeId×Value→H):
  ReturnsInHanded {} Tryz.checked os 3 .any (fun w args=>(Rows.wordChecksSpec.pre enc Tryz.prog Tryz.f3 Rows.wordChecksRow.domain false w args∧laidMetH Tryz.prog Rows.wordChecksRow.laid w)∧sizedMet enc Tryz.prog Tryz.f3 (OpenSpec.ofChange Rows.wordChecksSpec) false w args)
   (Rows.wordChecksSpec.post enc Tryz.prog Tryz.f3 false true false false):=by
 refine returnsInHanded_of_change_and (C:=Tryz.checked) (X:=fun w _=>laidMetH Tryz.prog Rows.wordChecksRow.laid w) (fun _ _ _ Z h=>h.of_heap Z) Ks V (by kernel_rfl) Tryz.func3
  (ChangeSpec.witness_shaped (enc:=enc) (C:=Tryz.checked) (os:=os) (X:=fun w _=>laidMetH Tryz.prog Rows.wordChecksRow.laid w) false (World.doorLaid Tryz.prog 400 os) #[.agg #[.string ⟨#[]⟩,.int .i64 0,.slice none 0 0,.slice none 0 0,.slice none 0 0,.int .i64 0,.slice none 0 0,.slice none 0 0,.slice none 0 0,.slice none 0 0],.agg #[.string ⟨#[]⟩,.int .i64 0,.slice none 0 0,.slice none 0 0,.slice none 0 0,.slice none 0 0]] 8 rfl (World.shaped_of_RefB (by kernel_rfl) (by kernel_rfl)) (by kernel_rfl) (by kernel_rfl) (by kernel_rfl) (Kx os _)) ?_
 intro W base args ds gs aa a2 F _ _ G _
 have y:∀(j:Nat) t v,Tryz.f3.params[j]?=some t→args[j]?=some v→Value.okWide Tryz.prog W .any base t v:=a2
 have z:=F
 obtain⟨p,q,a3,hV,rfl,ab,ad⟩:=F
 have I:DataW.TrodAll enc Tryz.prog W 0 (fun _=>true) true Tryz.f3.params.toList args.toList ds p:=a3
 rw [Tryz.params3] at I y
 obtain⟨v0,v1,d0,d1,p0,p1,rfl,rfl,rfl,J,M⟩:=trodAll_two I
 obtain⟨rfl,rfl⟩:=trodVars_none hV
 obtain⟨cs,pd,rfl,hp,a6⟩:=Kj (y 0 27 v0 rfl rfl) J
 obtain⟨es,qd,rfl,hq,a8⟩:=Pc (y 1 30 v1 rfl rfl) M
 simp only [List.append_nil] at z
 have O:=z.lt
 refine Calls.ret (Qw hp hq a6 a8 (Ix G).1 (Ix G).2) fun v W' ⟨hv,E⟩=>?_
 subst hv
 exact⟨_,rfl,Oo rfl z (fun _ _ _=>trodAll_mk1 (shut_bool Tryz.underlying4 _)) (fun sp U=>by
  rw [Tryz.params3]
  exact trodAll_mk2 (WideElems.Trod_stays Hq (by kernel_rfl) (of_decide_eq_true (by kernel_rfl)) J (fun x f=>E.same (O x (List.mem_append_left _ f))) (fun x f=>U x (List.mem_append_left _ f)))
   (WideElems.Trod_stays Hq (by kernel_rfl) (of_decide_eq_true (by kernel_rfl)) M (fun x f=>E.same (O x (List.mem_append_right _ f))) (fun x f=>U x (List.mem_append_right _ f)))) rfl E (ok_one (by kernel_rfl) rfl (okWide_bool_mk Tryz.underlying4 _))⟩
theorem Kq:joinedFacts Tryz.checked.prog 3 Tryz.f3 Rows.wordChecksSpec Rows.wordChecksRow=true:=
 QJ (by kernel_rfl) PQ Nx (by kernel_rfl) (by kernel_rfl) (by kernel_rfl) NS (by kernel_rfl) NQ (by kernel_rfl) (by kernel_rfl) (by kernel_rfl) (by kernel_rfl) (by kernel_rfl) (by kernel_rfl) (by kernel_rfl) (by kernel_rfl) (by kernel_rfl) (by kernel_rfl) (by kernel_rfl) (by kernel_rfl) (by kernel_rfl) KQ (by kernel_rfl) P1 Kf QG PM (by kernel_rfl) (by kernel_rfl) (by kernel_rfl) (by kernel_rfl)
theorem wordChecks_row:Rows.WordChecksSaid:=
 OpenClaim.holds_of_wide 3 Tryz.f3 rfl rfl rfl rfl rfl rfl rfl ⟨rfl,rfl,rfl,rfl,rfl⟩ rfl rfl rfl rfl rfl (by kernel_rfl) Tryz.func3 Kq
  (of_decide_eq_true (by kernel_rfl)) (by unfold Func.isWrapper; first | (rw [if_pos (by decide+kernel)]; kernel_rfl) | (rw [if_neg (by decide+kernel)]; exact⟨rfl,rfl⟩))
  (fun os f H enc _=>QA os f H enc)
end Go.Proofs.YtlakpndhhelliaaGreatDoor.K
namespace Go.Proofs.YtlakpndhhelliaaGreatDoor
open Go
theorem Ki:false=Rows.wordChecksRow.goesBy Tryz.checked.prog:=by kernel_rfl
theorem wordChecks_card:Rows.WordChecksCardSaid:=
 Claim7.holds_tied_plain_at .later [] [.data,.data,.data,.listed,.data] true (true,"757347b20b265df57a0362e84d9777f4897b71c239c7c7496d6b51f5d3f1d689") true
  K.wordChecks_row (fun _ h=>by cases h) (by kernel_rfl) (fun _ h=>by cases h) wordChecks_row_tie rfl ⟨rfl,rfl⟩ OP rfl
  (fun f fn y z=>by
   obtain rfl:f=3:=Option.some.inj ((show Tryz.prog.funcNamed "familycheck/familychecklaw06.WordChecks" =some 3 by kernel_rfl).symm.trans y) |>.symm
   obtain rfl:fn=Tryz.f3:=(Option.some.inj (Tryz.func3.symm.trans z)).symm
   exact⟨O7,fun j t ht=>by
    rw [Tryz.params3] at ht
    have C:t∈[27,30]:=by simpa using Array.mem_of_getElem? ht
    have E:([27,30].all fun u=>!Tryz.prog.wantsStandIn u)=true:=by kernel_rfl
    exact(show Tryz.prog.wantsStandIn t=false by simpa using List.all_eq_true.1 E t C)⟩)
  Ki
#print axioms wordChecks_card
end Go.Proofs.YtlakpndhhelliaaGreatDoor
