/-
  Part XB of a proof.
-/
import Derived.Lib.Fields
import Derived.Test.YtbjdgepfhhafjaaDoorRows
import Derived.WalkSpells
import Derived.WalkLawsBesides
import Derived.Lib.Hide
import Derived.Deep.AppendLies
import Derived.Deep.Draws
import Derived.Deep.LoopGhost
import Derived.Deep.QuietTactic
import Derived.BigQuiet
import Derived.BigCall
import Derived.Maps.AppendAt
import Derived.Laws.MakeOwn
import Derived.Test.YtbjdgepfhhafjaaDoorXA
set_option maxHeartbeats 16000000
set_option maxRecDepth 100000
namespace Go.Proofs.YtbjdgepfhhafjaaDoor
instance decBytes : DecidableEq ByteArray := fun a b => decidable_of_iff (a.data = b.data) ⟨ByteArray.ext, fun e => by rw [e]⟩
instance lawBytes : LawfulBEq ByteArray where
 eq_of_beq {a b} h := by
  have h2 : (a.data == b.data) = true := h
  exact ByteArray.ext (eq_of_beq h2)
 rfl {a} := by
  show (a.data == a.data) = true
  simp
theorem bytes_eq (a b : ByteArray) : (a.toList == b.toList) = decide (a = b) := by
 rw [ByteArray.toList_eq, ByteArray.toList_eq, Bool.eq_iff_iff, beq_iff_eq, decide_eq_true_eq]
 exact ⟨fun h => ByteArray.ext (Array.toList_inj.1 h), fun h => by rw [h]⟩
structure Lin where
 c : Int
 n : Int
 t : Int
 f : Int
structure Thr where
 msg : Int
 coef : Int
 bound : Lin
structure RuleD where
 name : ByteArray
 kind : Int
 fr : Int
 to : Int
 pf : Int
 pt : Int
 resp : List Int
 guards : List Thr
 ex : List Int
 fa : List Int
 rd : Int
 wr : Int
 send : List Int
 at_ : Int
 left : List Int
 right : List Int
 parent : List Int
 dir : Int
structure ProtD where
 name : ByteArray
 topo : Int
 states : List ByteArray
 messages : List ByteArray
 values : List ByteArray
 fault : Int
 res : List Lin
 initial : List Int
 leader : List Int
 rules : List RuleD
structure CountD where
 states : List Int
 least : Int
structure PropD where
 name : ByteArray
 kind : Int
 start : List Int
 bad : List CountD
 adj : List Int
 goal : List Int
deriving instance DecidableEq for Lin
deriving instance DecidableEq for Thr
def orE (a b : Int) : Int := if a = 0 then b else a
def whenE (b : Bool) (e : Int) : Int := if b then e else 0
def allE {A : Type} (f : A → Int) : List A → Int
 | [] => 0
 | x :: l => orE (f x) (allE f l)
theorem orE_zero (b : Int) : orE 0 b = b := rfl
theorem orE_ne {a b : Int} (h : a ≠ 0) : orE a b = a := if_neg h
theorem orE_assoc (a b c : Int) : orE (orE a b) c = orE a (orE b c) := by
 unfold orE
 split <;> simp_all
theorem orE_self0 (a : Int) : orE a 0 = a := by
 unfold orE
 split <;> simp_all
theorem allE_append {A : Type} (f : A → Int) : ∀ l m : List A, allE f (l ++ m) = orE (allE f l) (allE f m)
 | [], m => rfl
 | x :: l, m => by rw [List.cons_append, allE, allE, allE_append f l m, orE_assoc]
theorem allE_take {A : Type} (f : A → Int) {l : List A} {k : Nat} {x : A} (hx : l[k]? = some x) (h : allE f (l.take k) = 0) : allE f (l.take (k + 1)) = f x := by
 rw [show l.take (k + 1) = l.take k ++ [x] by rw [List.take_add_one, hx]; rfl, allE_append, h, orE_zero, allE, allE, orE_self0]
theorem allE_stop {A : Type} (f : A → Int) : ∀ {l : List A} {k : Nat} {x : A}, l[k]? = some x → allE f (l.take k) = 0 → f x ≠ 0 → allE f l = f x
 | y :: l, 0, x, hx, _, hf => by
  have : y = x := by simpa using hx
  subst this
  rw [allE, orE_ne hf]
 | y :: l, k + 1, x, hx, h, hf => by
  rw [List.take_succ_cons, allE] at h
  have h1 : f y = 0 := by
   unfold orE at h
   split at h
   ·assumption
   ·exact absurd h ‹_›
  rw [h1, orE_zero] at h
  rw [allE, h1, orE_zero]
  exact allE_stop f (by simpa using hx) h hf
def lowB (c : UInt8) : Bool := decide (97 ≤ c.toNat) && decide (c.toNat ≤ 122)
def digB (c : UInt8) : Bool := decide (48 ≤ c.toNat) && decide (c.toNat ≤ 57)
def nmB (c : UInt8) : Bool := lowB c || digB c || decide (c.toNat = 95)
def nameForm : List UInt8 → Bool
 | [] => false
 | c :: l => decide (l.length < 12) && lowB c && l.all nmB
def inE (i n : Int) : Bool := decide (0 ≤ i) && decide (i < n)
def risL : List Int → Bool
 | [] => true
 | [_] => true
 | a :: b :: l => decide (a < b) && risL (b :: l)
def setE (l : List Int) (n : Int) : Int := orE (whenE (!l.all (inE · n)) 5) (whenE (!risL l) 1)
def facB (n : Int) : Bool := decide (-100 ≤ n) && decide (n ≤ 100)
def linB (l : Lin) : Bool := facB l.c && facB l.n && facB l.t && facB l.f
def names3 (p : ProtD) : List ByteArray := p.states ++ p.messages ++ p.values
def namesE (ok : ByteArray → Bool) (l : List ByteArray) : Int := allE (fun i => whenE (!ok (l.getD i .empty) || decide (l.getD i .empty ∈ l.take i)) 2) (List.range l.length)
def unusedR (topo : Int) (r : RuleD) : Bool :=
 (!decide (r.kind = 1) && (!r.guards.isEmpty || !r.ex.isEmpty || !r.fa.isEmpty || !r.send.isEmpty)) ||
 ((!decide (r.kind = 1) && !decide (r.kind = 2) && !decide (r.kind = 3)) && (!decide (r.rd = -1) || !decide (r.wr = -1))) ||
 ((!decide (r.kind = 2) && !decide (r.kind = 5)) && (!decide (r.pf = 0) || !decide (r.pt = 0))) ||
 (!decide (r.kind = 3) && !r.resp.isEmpty) || (!decide (r.kind = 5) && !decide (r.dir = 0)) ||
 (!decide (r.kind = 4) && (!decide (r.at_ = 0) || !r.left.isEmpty || !r.right.isEmpty)) ||
 (!r.parent.isEmpty && !(decide (r.kind = 4) && decide (topo = 4)))
def guardE (m : Int) (g : Thr) : Int := orE (whenE (!inE g.msg m) 5) (orE (whenE (!(decide (1 ≤ g.coef) && decide (g.coef ≤ 100))) 1) (whenE (!linB g.bound) 4))
def respE (n : Int) (l : List Int) : Int := if (l.length : Int) ≠ n then 1 else allE (fun x => whenE (!inE x n) 5) l
def valB (v k : Int) : Bool := decide (-1 ≤ v) && decide (v < k)
def ruleE (ok : ByteArray → Bool) (topo n m k : Int) (taken : Bool) (r : RuleD) : Int :=
 orE (whenE (!ok r.name || taken) 2)
 (orE (whenE (!(decide (1 ≤ r.kind) && decide (r.kind ≤ 5)) || (decide (r.kind ≤ 3) != decide (topo = 1)) || unusedR topo r) 6)
 (orE (whenE (!inE r.fr n || !inE r.to n || (decide (r.kind = 2) || decide (r.kind = 5)) && (!inE r.pf n || !inE r.pt n)) 5)
 (orE (if r.kind = 3 then respE n r.resp else 0)
 (orE (allE (guardE m) r.guards)
 (orE (whenE (decide (2 < r.guards.length)) 4)
 (orE (setE r.ex n)
 (orE (setE r.fa n)
 (orE (whenE (!valB r.rd k || !valB r.wr k) 5)
 (orE (setE r.send m)
 (orE (setE r.left n)
 (orE (setE r.right n)
 (orE (setE r.parent n)
 (orE (whenE (decide (r.kind = 4) && (!(decide (0 ≤ r.at_) && decide (r.at_ ≤ 2)) || (!decide (r.at_ = 0) && decide (topo = 3)))) 1)
 (orE (whenE (decide (r.kind = 5) && decide (topo = 4) && !(decide (3 ≤ r.dir) && decide (r.dir ≤ 4))) 1)
 (whenE (decide (r.kind = 5) && !decide (topo = 4) && !(decide (1 ≤ r.dir) && decide (r.dir ≤ 2))) 1)))))))))))))))
def ruleAtE (ok : ByteArray → Bool) (p : ProtD) (i : Nat) : Int :=
 match p.rules[i]? with
 | none => 0
 | some r => ruleE ok p.topo p.states.length p.messages.length p.values.length ((p.rules.take i).any fun x => decide (x.name = r.name)) r
def addT (l : List Thr) (g : Thr) : List Thr := if g ∈ l then l else l ++ [g]
def thrsL (l : List RuleD) : List Thr := (l.flatMap RuleD.guards).foldl addT []
def protE (ok : ByteArray → Bool) (p : ProtD) : Int :=
 orE (whenE (!ok p.name) 2)
 (orE (whenE (!(decide (1 ≤ p.topo) && decide (p.topo ≤ 4)) || !(decide (0 ≤ p.fault) && decide (p.fault ≤ 3))) 1)
 (orE (whenE p.states.isEmpty 1)
 (orE (whenE (decide (6 < p.states.length) || decide (3 < p.messages.length) || decide (3 < p.values.length) || decide (4 < p.res.length) || decide (8 < p.rules.length)) 4)
 (orE (namesE ok (names3 p))
 (orE (whenE ((!decide (p.topo = 1) && (!p.messages.isEmpty || !p.values.isEmpty || !p.res.isEmpty || !decide (p.fault = 0))) || (decide (p.topo = 1) && !p.leader.isEmpty)) 1)
 (orE (whenE (!p.res.all linB) 4)
 (orE (setE p.initial p.states.length)
 (orE (whenE p.initial.isEmpty 1)
 (orE (setE p.leader p.states.length)
 (orE (allE (ruleAtE ok p) (List.range p.rules.length))
 (whenE (decide (3 < (thrsL p.rules).length)) 4)))))))))))
def countE (n : Int) (c : CountD) : Int := orE (setE c.states n) (whenE (c.states.isEmpty || !(decide (1 ≤ c.least) && decide (c.least ≤ 3))) 1)
def adjE (topo n : Int) (l : List Int) : Int :=
 orE (whenE (!l.isEmpty && decide (topo = 1)) 6) (orE (whenE (!l.isEmpty && !decide (l.length = 2)) 1) (allE (fun x => whenE (!inE x n) 5) l))
def propE (ok : ByteArray → Bool) (p : ProtD) (q : PropD) : Int :=
 orE (protE ok p)
 (orE (whenE (!ok q.name) 2)
 (orE (whenE (!decide (q.kind = 1) && !decide (q.kind = 2)) 1)
 (orE (whenE ((decide (q.kind = 1) && !q.goal.isEmpty) || (decide (q.kind = 2) && (!q.bad.isEmpty || !q.adj.isEmpty))) 1)
 (orE (setE q.start p.states.length)
 (orE (whenE (!q.start.all fun x => decide (x ∈ p.initial)) 5)
 (if q.kind = 2 then orE (setE q.goal p.states.length) (whenE q.goal.isEmpty 1) else
  orE (whenE (q.bad.isEmpty && q.adj.isEmpty) 1)
  (orE (whenE (decide (3 < q.bad.length)) 4)
  (orE (allE (countE p.states.length) q.bad) (adjE p.topo p.states.length q.adj)))))))))
def checkE (ok : ByteArray → Bool) (p : ProtD) (q : PropD) : Int := orE (propE ok p q) (whenE (!decide (p.topo = 4) || !decide (q.kind = 1)) 7)
end Go.Proofs.YtbjdgepfhhafjaaDoor
namespace Go.Proofs.YtbjdgepfhhafjaaDoor
open Go.RowKit
def Sl {D : Type} (w : World) (B sz : Nat) (enc : D → Nat → Value) (A : Option Addr) (ds : List D) : Prop :=
 ds.length ≤ 9223372036854775807 ∧ (ds ≠ [] → ∃ b off, A = some ⟨b, off, none⟩ ∧ b < B ∧ ∀ k d, ds[k]? = some d → ∀ j, j < sz → w.cell? ⟨b, off + k * sz + j, none⟩ = some (enc d j))
section
variable {D : Type} {w w' : World} {B B' sz : Nat} {enc : D → Nat → Value} {A : Option Addr} {ds : List D}
theorem Sl.nil (h : ds = []) : Sl w B sz enc A ds := by subst h; exact ⟨by simp, fun h => absurd rfl h⟩
theorem Sl.at (h : Sl w B sz enc A ds) {k : Nat} (hk : k < ds.length) :
  ∃ b off d, A = some ⟨b, off, none⟩ ∧ b < B ∧ ds[k]? = some d ∧ ∀ j, j < sz → w.cell? ⟨b, off + k * sz + j, none⟩ = some (enc d j) := by
 obtain ⟨b, off, e, hb, hc⟩ := h.2 (by rintro rfl; simp at hk)
 exact ⟨b, off, ds[k], e, hb, List.getElem?_eq_getElem hk, fun j hj => hc k _ (List.getElem?_eq_getElem hk) j hj⟩
theorem Sl.keep (h : Sl w B sz enc A ds) (hk : ∀ p : Addr, p.block < B → w'.cell? p = w.cell? p) (hB : B ≤ B') : Sl w' B' sz enc A ds :=
 ⟨h.1, fun hn => by
  obtain ⟨b, off, e, hb, hc⟩ := h.2 hn
  exact ⟨b, off, e, by omega, fun k d hd j hj => (hk _ hb).trans (hc k d hd j hj)⟩⟩
theorem Sl.below (h : Sl w B sz enc A ds) (hb : Below B w w') : Sl w' B sz enc A ds := h.keep (fun _ hp => hb.cell hp) (Nat.le_refl _)
theorem Sl.mono (h : Sl w B sz enc A ds) (hB : B ≤ B') : Sl w B' sz enc A ds := h.keep (fun _ _ => rfl) hB
end
def encI (x : Int) (_ : Nat) : Value := .int .i64 x
def encB (x : Bool) (_ : Nat) : Value := .bool x
structure Leaf where
 letter : Int
 to : Int
structure Branch where
 letter : Int
 first : Int
 second : Int
 to : Int
def encL (l : Leaf) : Nat → Value
 | 0 => .int .i64 l.letter
 | _ => .int .i64 l.to
def encBr (b : Branch) : Nat → Value
 | 0 => .int .i64 b.letter
 | 1 => .int .i64 b.first
 | 2 => .int .i64 b.second
 | _ => .int .i64 b.to
structure TA where
 letters : Int
 states : Int
 accept : List Int
 leaves : List Leaf
 branches : List Branch
def IsTA (w : World) (B : Nat) (v : Value) (a : TA) : Prop :=
 ∃ A1 c1 A2 c2 A3 c3, v = .agg #[.int .i64 a.letters, .int .i64 a.states, .slice A1 a.accept.length c1, .slice A2 a.leaves.length c2, .slice A3 a.branches.length c3] ∧
  Sl w B 1 encI A1 a.accept ∧ Sl w B 2 encL A2 a.leaves ∧ Sl w B 4 encBr A3 a.branches
theorem IsTA.keep {w w' : World} {B B' : Nat} {v : Value} {a : TA} (h : IsTA w B v a) (hk : ∀ p : Addr, p.block < B → w'.cell? p = w.cell? p) (hB : B ≤ B') : IsTA w' B' v a := by
 obtain ⟨A1, c1, A2, c2, A3, c3, e, h1, h2, h3⟩ := h
 exact ⟨A1, c1, A2, c2, A3, c3, e, h1.keep hk hB, h2.keep hk hB, h3.keep hk hB⟩
theorem IsTA.below {w w' : World} {B : Nat} {v : Value} {a : TA} (h : IsTA w B v a) (hb : Below B w w') : IsTA w' B v a := h.keep (fun _ hp => hb.cell hp) (Nat.le_refl _)
theorem hide {p : Prop} (h : p) : Hid p := h
theorem run_mf (fn : Fn) (first cap : Array Value) (w : World) : (Instr.makeFunc fn first cap).run Tryd.prog w = .ok (.func fn first cap) w := rfl
def callVal (f : Value) (args : Array Value) : Sem Next := do
 let d ← Deferred.ofValue f args
 invoke d.target d.args
theorem execOp_call_tmp (ρ : Operand → Value) (dst : Option Tmp) (t : Tmp) (xs : Array Operand) (ats : Array TypeId) (ty : TypeId) (pos : String) (after : Array Edge) (guard : Option (Nat × Bool)) :
  execOp ρ { dst, op := .call { callee := .value (.tmp t), args := xs, argTypes := ats }, type := ty, pos, after, guard } = callVal (ρ (.tmp t)) (xs.map ρ) := rfl
theorem callVal_func (n : FuncId) (first caps args : Array Value) : callVal (.func (.func n) first caps) args = callFunc n (first ++ args ++ caps) := rfl
theorem run_callFunc_go {P : Program} {f : FuncId} {fn : Func} (hf : P.funcs[f]? = some fn) (hn : (fn.name == "runtime.NumGoroutine") = false) (hb : fn.body.isNone = false) (args : Array Value) (w : World) :
  (callFunc f args).run P w = .ok (.enter f args) w := by
 unfold callFunc
 simp only [Sem.run_bind, run_program, Result.andThen_ok, hf, hn, hb]
 rfl
theorem enter3 (args : Array Value) (w : World) : (callFunc 3 args).run Tryd.prog w = .ok (.enter 3 args) w := run_callFunc_go Tryd.func3 (by kernel_rfl) (by kernel_rfl) args w
theorem enter4 (args : Array Value) (w : World) : (callFunc 4 args).run Tryd.prog w = .ok (.enter 4 args) w := run_callFunc_go Tryd.func4 (by kernel_rfl) (by kernel_rfl) args w
theorem enter5 (args : Array Value) (w : World) : (callFunc 5 args).run Tryd.prog w = .ok (.enter 5 args) w := run_callFunc_go Tryd.func5 (by kernel_rfl) (by kernel_rfl) args w
theorem enter6 (args : Array Value) (w : World) : (callFunc 6 args).run Tryd.prog w = .ok (.enter 6 args) w := run_callFunc_go Tryd.func6 (by kernel_rfl) (by kernel_rfl) args w
theorem enter7 (args : Array Value) (w : World) : (callFunc 7 args).run Tryd.prog w = .ok (.enter 7 args) w := run_callFunc_go Tryd.func7 (by kernel_rfl) (by kernel_rfl) args w
theorem enter8 (args : Array Value) (w : World) : (callFunc 8 args).run Tryd.prog w = .ok (.enter 8 args) w := run_callFunc_go Tryd.func8 (by kernel_rfl) (by kernel_rfl) args w
theorem enter9 (args : Array Value) (w : World) : (callFunc 9 args).run Tryd.prog w = .ok (.enter 9 args) w := run_callFunc_go Tryd.func9 (by kernel_rfl) (by kernel_rfl) args w
theorem enter10 (args : Array Value) (w : World) : (callFunc 10 args).run Tryd.prog w = .ok (.enter 10 args) w := run_callFunc_go Tryd.func10 (by kernel_rfl) (by kernel_rfl) args w
theorem enter11 (args : Array Value) (w : World) : (callFunc 11 args).run Tryd.prog w = .ok (.enter 11 args) w := run_callFunc_go Tryd.func11 (by kernel_rfl) (by kernel_rfl) args w
theorem enter12 (args : Array Value) (w : World) : (callFunc 12 args).run Tryd.prog w = .ok (.enter 12 args) w := run_callFunc_go Tryd.func12 (by kernel_rfl) (by kernel_rfl) args w
theorem enter13 (args : Array Value) (w : World) : (callFunc 13 args).run Tryd.prog w = .ok (.enter 13 args) w := run_callFunc_go Tryd.func13 (by kernel_rfl) (by kernel_rfl) args w
theorem enter14 (args : Array Value) (w : World) : (callFunc 14 args).run Tryd.prog w = .ok (.enter 14 args) w := run_callFunc_go Tryd.func14 (by kernel_rfl) (by kernel_rfl) args w
theorem enter15 (args : Array Value) (w : World) : (callFunc 15 args).run Tryd.prog w = .ok (.enter 15 args) w := run_callFunc_go Tryd.func15 (by kernel_rfl) (by kernel_rfl) args w
theorem enter16 (args : Array Value) (w : World) : (callFunc 16 args).run Tryd.prog w = .ok (.enter 16 args) w := run_callFunc_go Tryd.func16 (by kernel_rfl) (by kernel_rfl) args w
theorem enter17 (args : Array Value) (w : World) : (callFunc 17 args).run Tryd.prog w = .ok (.enter 17 args) w := run_callFunc_go Tryd.func17 (by kernel_rfl) (by kernel_rfl) args w
theorem enter18 (args : Array Value) (w : World) : (callFunc 18 args).run Tryd.prog w = .ok (.enter 18 args) w := run_callFunc_go Tryd.func18 (by kernel_rfl) (by kernel_rfl) args w
theorem enter19 (args : Array Value) (w : World) : (callFunc 19 args).run Tryd.prog w = .ok (.enter 19 args) w := run_callFunc_go Tryd.func19 (by kernel_rfl) (by kernel_rfl) args w
theorem enter20 (args : Array Value) (w : World) : (callFunc 20 args).run Tryd.prog w = .ok (.enter 20 args) w := run_callFunc_go Tryd.func20 (by kernel_rfl) (by kernel_rfl) args w
theorem enter21 (args : Array Value) (w : World) : (callFunc 21 args).run Tryd.prog w = .ok (.enter 21 args) w := run_callFunc_go Tryd.func21 (by kernel_rfl) (by kernel_rfl) args w
theorem enter22 (args : Array Value) (w : World) : (callFunc 22 args).run Tryd.prog w = .ok (.enter 22 args) w := run_callFunc_go Tryd.func22 (by kernel_rfl) (by kernel_rfl) args w
theorem enter23 (args : Array Value) (w : World) : (callFunc 23 args).run Tryd.prog w = .ok (.enter 23 args) w := run_callFunc_go Tryd.func23 (by kernel_rfl) (by kernel_rfl) args w
theorem enter24 (args : Array Value) (w : World) : (callFunc 24 args).run Tryd.prog w = .ok (.enter 24 args) w := run_callFunc_go Tryd.func24 (by kernel_rfl) (by kernel_rfl) args w
theorem enter25 (args : Array Value) (w : World) : (callFunc 25 args).run Tryd.prog w = .ok (.enter 25 args) w := run_callFunc_go Tryd.func25 (by kernel_rfl) (by kernel_rfl) args w
theorem enter26 (args : Array Value) (w : World) : (callFunc 26 args).run Tryd.prog w = .ok (.enter 26 args) w := run_callFunc_go Tryd.func26 (by kernel_rfl) (by kernel_rfl) args w
theorem enter27 (args : Array Value) (w : World) : (callFunc 27 args).run Tryd.prog w = .ok (.enter 27 args) w := run_callFunc_go Tryd.func27 (by kernel_rfl) (by kernel_rfl) args w
theorem enter28 (args : Array Value) (w : World) : (callFunc 28 args).run Tryd.prog w = .ok (.enter 28 args) w := run_callFunc_go Tryd.func28 (by kernel_rfl) (by kernel_rfl) args w
theorem enter29 (args : Array Value) (w : World) : (callFunc 29 args).run Tryd.prog w = .ok (.enter 29 args) w := run_callFunc_go Tryd.func29 (by kernel_rfl) (by kernel_rfl) args w
theorem enter30 (args : Array Value) (w : World) : (callFunc 30 args).run Tryd.prog w = .ok (.enter 30 args) w := run_callFunc_go Tryd.func30 (by kernel_rfl) (by kernel_rfl) args w
theorem enter31 (args : Array Value) (w : World) : (callFunc 31 args).run Tryd.prog w = .ok (.enter 31 args) w := run_callFunc_go Tryd.func31 (by kernel_rfl) (by kernel_rfl) args w
theorem enter32 (args : Array Value) (w : World) : (callFunc 32 args).run Tryd.prog w = .ok (.enter 32 args) w := run_callFunc_go Tryd.func32 (by kernel_rfl) (by kernel_rfl) args w
theorem enter33 (args : Array Value) (w : World) : (callFunc 33 args).run Tryd.prog w = .ok (.enter 33 args) w := run_callFunc_go Tryd.func33 (by kernel_rfl) (by kernel_rfl) args w
theorem enter34 (args : Array Value) (w : World) : (callFunc 34 args).run Tryd.prog w = .ok (.enter 34 args) w := run_callFunc_go Tryd.func34 (by kernel_rfl) (by kernel_rfl) args w
theorem enter35 (args : Array Value) (w : World) : (callFunc 35 args).run Tryd.prog w = .ok (.enter 35 args) w := run_callFunc_go Tryd.func35 (by kernel_rfl) (by kernel_rfl) args w
theorem enter36 (args : Array Value) (w : World) : (callFunc 36 args).run Tryd.prog w = .ok (.enter 36 args) w := run_callFunc_go Tryd.func36 (by kernel_rfl) (by kernel_rfl) args w
theorem enter37 (args : Array Value) (w : World) : (callFunc 37 args).run Tryd.prog w = .ok (.enter 37 args) w := run_callFunc_go Tryd.func37 (by kernel_rfl) (by kernel_rfl) args w
theorem enter38 (args : Array Value) (w : World) : (callFunc 38 args).run Tryd.prog w = .ok (.enter 38 args) w := run_callFunc_go Tryd.func38 (by kernel_rfl) (by kernel_rfl) args w
theorem enter39 (args : Array Value) (w : World) : (callFunc 39 args).run Tryd.prog w = .ok (.enter 39 args) w := run_callFunc_go Tryd.func39 (by kernel_rfl) (by kernel_rfl) args w
theorem enter40 (args : Array Value) (w : World) : (callFunc 40 args).run Tryd.prog w = .ok (.enter 40 args) w := run_callFunc_go Tryd.func40 (by kernel_rfl) (by kernel_rfl) args w
theorem enter41 (args : Array Value) (w : World) : (callFunc 41 args).run Tryd.prog w = .ok (.enter 41 args) w := run_callFunc_go Tryd.func41 (by kernel_rfl) (by kernel_rfl) args w
theorem enter42 (args : Array Value) (w : World) : (callFunc 42 args).run Tryd.prog w = .ok (.enter 42 args) w := run_callFunc_go Tryd.func42 (by kernel_rfl) (by kernel_rfl) args w
theorem enter43 (args : Array Value) (w : World) : (callFunc 43 args).run Tryd.prog w = .ok (.enter 43 args) w := run_callFunc_go Tryd.func43 (by kernel_rfl) (by kernel_rfl) args w
theorem enter44 (args : Array Value) (w : World) : (callFunc 44 args).run Tryd.prog w = .ok (.enter 44 args) w := run_callFunc_go Tryd.func44 (by kernel_rfl) (by kernel_rfl) args w
theorem enter45 (args : Array Value) (w : World) : (callFunc 45 args).run Tryd.prog w = .ok (.enter 45 args) w := run_callFunc_go Tryd.func45 (by kernel_rfl) (by kernel_rfl) args w
theorem enter46 (args : Array Value) (w : World) : (callFunc 46 args).run Tryd.prog w = .ok (.enter 46 args) w := run_callFunc_go Tryd.func46 (by kernel_rfl) (by kernel_rfl) args w
theorem enter47 (args : Array Value) (w : World) : (callFunc 47 args).run Tryd.prog w = .ok (.enter 47 args) w := run_callFunc_go Tryd.func47 (by kernel_rfl) (by kernel_rfl) args w
theorem enter48 (args : Array Value) (w : World) : (callFunc 48 args).run Tryd.prog w = .ok (.enter 48 args) w := run_callFunc_go Tryd.func48 (by kernel_rfl) (by kernel_rfl) args w
theorem enter49 (args : Array Value) (w : World) : (callFunc 49 args).run Tryd.prog w = .ok (.enter 49 args) w := run_callFunc_go Tryd.func49 (by kernel_rfl) (by kernel_rfl) args w
theorem enter50 (args : Array Value) (w : World) : (callFunc 50 args).run Tryd.prog w = .ok (.enter 50 args) w := run_callFunc_go Tryd.func50 (by kernel_rfl) (by kernel_rfl) args w
theorem enter51 (args : Array Value) (w : World) : (callFunc 51 args).run Tryd.prog w = .ok (.enter 51 args) w := run_callFunc_go Tryd.func51 (by kernel_rfl) (by kernel_rfl) args w
theorem enter52 (args : Array Value) (w : World) : (callFunc 52 args).run Tryd.prog w = .ok (.enter 52 args) w := run_callFunc_go Tryd.func52 (by kernel_rfl) (by kernel_rfl) args w
theorem enter53 (args : Array Value) (w : World) : (callFunc 53 args).run Tryd.prog w = .ok (.enter 53 args) w := run_callFunc_go Tryd.func53 (by kernel_rfl) (by kernel_rfl) args w
theorem enter54 (args : Array Value) (w : World) : (callFunc 54 args).run Tryd.prog w = .ok (.enter 54 args) w := run_callFunc_go Tryd.func54 (by kernel_rfl) (by kernel_rfl) args w
theorem enter55 (args : Array Value) (w : World) : (callFunc 55 args).run Tryd.prog w = .ok (.enter 55 args) w := run_callFunc_go Tryd.func55 (by kernel_rfl) (by kernel_rfl) args w
theorem enter56 (args : Array Value) (w : World) : (callFunc 56 args).run Tryd.prog w = .ok (.enter 56 args) w := run_callFunc_go Tryd.func56 (by kernel_rfl) (by kernel_rfl) args w
theorem enter57 (args : Array Value) (w : World) : (callFunc 57 args).run Tryd.prog w = .ok (.enter 57 args) w := run_callFunc_go Tryd.func57 (by kernel_rfl) (by kernel_rfl) args w
theorem enter58 (args : Array Value) (w : World) : (callFunc 58 args).run Tryd.prog w = .ok (.enter 58 args) w := run_callFunc_go Tryd.func58 (by kernel_rfl) (by kernel_rfl) args w
theorem enter59 (args : Array Value) (w : World) : (callFunc 59 args).run Tryd.prog w = .ok (.enter 59 args) w := run_callFunc_go Tryd.func59 (by kernel_rfl) (by kernel_rfl) args w
theorem enter60 (args : Array Value) (w : World) : (callFunc 60 args).run Tryd.prog w = .ok (.enter 60 args) w := run_callFunc_go Tryd.func60 (by kernel_rfl) (by kernel_rfl) args w
theorem enter61 (args : Array Value) (w : World) : (callFunc 61 args).run Tryd.prog w = .ok (.enter 61 args) w := run_callFunc_go Tryd.func61 (by kernel_rfl) (by kernel_rfl) args w
theorem enter62 (args : Array Value) (w : World) : (callFunc 62 args).run Tryd.prog w = .ok (.enter 62 args) w := run_callFunc_go Tryd.func62 (by kernel_rfl) (by kernel_rfl) args w
theorem enter63 (args : Array Value) (w : World) : (callFunc 63 args).run Tryd.prog w = .ok (.enter 63 args) w := run_callFunc_go Tryd.func63 (by kernel_rfl) (by kernel_rfl) args w
theorem enter64 (args : Array Value) (w : World) : (callFunc 64 args).run Tryd.prog w = .ok (.enter 64 args) w := run_callFunc_go Tryd.func64 (by kernel_rfl) (by kernel_rfl) args w
theorem enter65 (args : Array Value) (w : World) : (callFunc 65 args).run Tryd.prog w = .ok (.enter 65 args) w := run_callFunc_go Tryd.func65 (by kernel_rfl) (by kernel_rfl) args w
theorem enter66 (args : Array Value) (w : World) : (callFunc 66 args).run Tryd.prog w = .ok (.enter 66 args) w := run_callFunc_go Tryd.func66 (by kernel_rfl) (by kernel_rfl) args w
theorem enter67 (args : Array Value) (w : World) : (callFunc 67 args).run Tryd.prog w = .ok (.enter 67 args) w := run_callFunc_go Tryd.func67 (by kernel_rfl) (by kernel_rfl) args w
theorem enter68 (args : Array Value) (w : World) : (callFunc 68 args).run Tryd.prog w = .ok (.enter 68 args) w := run_callFunc_go Tryd.func68 (by kernel_rfl) (by kernel_rfl) args w
theorem enter69 (args : Array Value) (w : World) : (callFunc 69 args).run Tryd.prog w = .ok (.enter 69 args) w := run_callFunc_go Tryd.func69 (by kernel_rfl) (by kernel_rfl) args w
theorem enter70 (args : Array Value) (w : World) : (callFunc 70 args).run Tryd.prog w = .ok (.enter 70 args) w := run_callFunc_go Tryd.func70 (by kernel_rfl) (by kernel_rfl) args w
theorem enter71 (args : Array Value) (w : World) : (callFunc 71 args).run Tryd.prog w = .ok (.enter 71 args) w := run_callFunc_go Tryd.func71 (by kernel_rfl) (by kernel_rfl) args w
theorem enter72 (args : Array Value) (w : World) : (callFunc 72 args).run Tryd.prog w = .ok (.enter 72 args) w := run_callFunc_go Tryd.func72 (by kernel_rfl) (by kernel_rfl) args w
theorem enter73 (args : Array Value) (w : World) : (callFunc 73 args).run Tryd.prog w = .ok (.enter 73 args) w := run_callFunc_go Tryd.func73 (by kernel_rfl) (by kernel_rfl) args w
theorem enter74 (args : Array Value) (w : World) : (callFunc 74 args).run Tryd.prog w = .ok (.enter 74 args) w := run_callFunc_go Tryd.func74 (by kernel_rfl) (by kernel_rfl) args w
theorem enter75 (args : Array Value) (w : World) : (callFunc 75 args).run Tryd.prog w = .ok (.enter 75 args) w := run_callFunc_go Tryd.func75 (by kernel_rfl) (by kernel_rfl) args w
theorem enter76 (args : Array Value) (w : World) : (callFunc 76 args).run Tryd.prog w = .ok (.enter 76 args) w := run_callFunc_go Tryd.func76 (by kernel_rfl) (by kernel_rfl) args w
theorem enter77 (args : Array Value) (w : World) : (callFunc 77 args).run Tryd.prog w = .ok (.enter 77 args) w := run_callFunc_go Tryd.func77 (by kernel_rfl) (by kernel_rfl) args w
theorem enter78 (args : Array Value) (w : World) : (callFunc 78 args).run Tryd.prog w = .ok (.enter 78 args) w := run_callFunc_go Tryd.func78 (by kernel_rfl) (by kernel_rfl) args w
theorem enter79 (args : Array Value) (w : World) : (callFunc 79 args).run Tryd.prog w = .ok (.enter 79 args) w := run_callFunc_go Tryd.func79 (by kernel_rfl) (by kernel_rfl) args w
theorem enter80 (args : Array Value) (w : World) : (callFunc 80 args).run Tryd.prog w = .ok (.enter 80 args) w := run_callFunc_go Tryd.func80 (by kernel_rfl) (by kernel_rfl) args w
theorem enter81 (args : Array Value) (w : World) : (callFunc 81 args).run Tryd.prog w = .ok (.enter 81 args) w := run_callFunc_go Tryd.func81 (by kernel_rfl) (by kernel_rfl) args w
theorem enter82 (args : Array Value) (w : World) : (callFunc 82 args).run Tryd.prog w = .ok (.enter 82 args) w := run_callFunc_go Tryd.func82 (by kernel_rfl) (by kernel_rfl) args w
theorem enter83 (args : Array Value) (w : World) : (callFunc 83 args).run Tryd.prog w = .ok (.enter 83 args) w := run_callFunc_go Tryd.func83 (by kernel_rfl) (by kernel_rfl) args w
theorem enter84 (args : Array Value) (w : World) : (callFunc 84 args).run Tryd.prog w = .ok (.enter 84 args) w := run_callFunc_go Tryd.func84 (by kernel_rfl) (by kernel_rfl) args w
theorem enter85 (args : Array Value) (w : World) : (callFunc 85 args).run Tryd.prog w = .ok (.enter 85 args) w := run_callFunc_go Tryd.func85 (by kernel_rfl) (by kernel_rfl) args w
attribute [go_sem ↓] execOp_call_tmp enter3 enter4 enter5 enter6 enter7 enter8 enter9 enter10 enter11 enter12 enter13 enter14 enter15 enter16 enter17 enter18 enter19 enter20 enter21 enter22 enter23 enter24 enter25 enter26 enter27 enter28 enter29 enter30 enter31 enter32 enter33 enter34 enter35 enter36 enter37 enter38 enter39 enter40 enter41 enter42 enter43 enter44 enter45 enter46 enter47 enter48 enter49 enter50 enter51 enter52 enter53 enter54 enter55 enter56 enter57 enter58 enter59 enter60 enter61 enter62 enter63 enter64 enter65 enter66 enter67 enter68 enter69 enter70 enter71 enter72 enter73 enter74 enter75 enter76 enter77 enter78 enter79 enter80 enter81 enter82 enter83 enter84 enter85
attribute [go_sem] callVal_func
end Go.Proofs.YtbjdgepfhhafjaaDoor
namespace Go.Proofs.YtbjdgepfhhafjaaDoor
open Go.RowKit
def IdxMap (w : World) (g : Nat) (ks : List Value) : Prop :=
 ∃ es clock, w.heap[g]? = some (.map es clock) ∧ es.toList.map (·.key) = ks ∧ es.toList.map (·.val) = (List.range ks.length).map fun (i : Nat) => Value.int .i64 (i : Int)
theorem IdxMap.keep {w w' : World} {g : Nat} {ks : List Value} (h : IdxMap w g ks) (hb : w'.heap[g]? = w.heap[g]?) : IdxMap w' g ks := by
 obtain ⟨es, clock, h1, h2⟩ := h
 exact ⟨es, clock, by rw [hb]; exact h1, h2⟩
theorem IdxMap.lt {w : World} {g : Nat} {ks : List Value} (h : IdxMap w g ks) : g < w.heap.size := by
 obtain ⟨es, clock, h1, h2⟩ := h
 exact (Array.getElem?_eq_some_iff.1 h1).1
theorem IdxMap.made (w : World) : IdxMap (w.alloc (.map #[] 0)) w.heap.size [] := ⟨#[], 0, heap_alloc_new w _, rfl, rfl⟩
structure KeyOK {S : Type} [DecidableEq S] (P : Program) (K : TypeId) (enc : S → Value) : Prop where
 check : ∀ em w s, (Instr.checkKey em 10000 K (enc s)).run P w = .ok () w
 find : ∀ w s (es : List MapEntry) (l : List S), es.map (·.key) = l.map enc →
  (Instr.findKey K (enc s) es).run P w = .ok (if s ∈ l then some (l.idxOf s, ((es[l.idxOf s]?).map (·.val)).getD .nilFunc) else none) w
section
variable {S : Type} [DecidableEq S] {P : Program} {K : TypeId}
theorem findNow_int (q : IntKind) (f : S → Int) (hf : ∀ a b, f a = f b → a = b) (s : S) (es : List MapEntry) : ∀ (l : List S) (i : Nat), es.map (·.key) = l.map (fun s => Value.int q (f s)) →
  Instr.findNow (.int q) (.int q (f s)) es i = some (if s ∈ l then some (i + l.idxOf s, ((es[l.idxOf s]?).map (·.val)).getD .nilFunc) else none) := by
 induction es with
 | nil =>
  intro l i h
  have : l = [] := by cases l <;> simp_all
  subst this
  simp [Instr.findNow]
 | cons e es ih =>
  intro l i h
  cases l with
  | nil => simp at h
  | cons t l =>
   simp only [List.map_cons, List.cons.injEq] at h
   obtain ⟨h1, h2⟩ := h
   unfold Instr.findNow
   rw [h1]
   simp only [Instr.sameNow, if_true]
   by_cases hst : s = t
   ·subst hst
    simp
   ·have hne : (f s == f t) = false := by simpa using fun e => hst (hf _ _ e)
    rw [hne]
    dsimp only
    rw [ih l (i + 1) h2]
    have hidx : (t :: l).idxOf s = l.idxOf s + 1 := by
     rw [List.idxOf_cons]
     have : (t == s) = false := by simpa using fun e => hst e.symm
     rw [this]; rfl
    by_cases hsl : s ∈ l
    ·simp only [hsl, hidx, List.mem_cons, or_true, if_true, List.getElem?_cons_succ, Option.some.injEq, Prod.mk.injEq, and_true]; omega
    ·simp [hsl, hst]
theorem keyOK_int (q : IntKind) (hK : P.underlying K = some (.int q)) (f : S → Int) (hf : ∀ a b, f a = f b → a = b) : KeyOK P K (fun s => Value.int q (f s)) where
 check := fun em w s => by
  rw [show (10000 : Nat) = 9999 + 1 from rfl]
  unfold Instr.checkKey
  simp [run_underlying hK]
 find := fun w s es l h => by
  unfold Instr.findKey
  simp only [Sem.run_bind, run_underlying hK, Result.andThen_ok]
  rw [findNow_int q f hf s es l 0 h]
  simp
theorem bytes_beq (a b : ByteArray) : (a == b) = (a.data == b.data) := rfl
theorem bytes_beq_self (a : ByteArray) : (a == a) = true := by rw [bytes_beq]; simp
theorem bytes_beq_ne {a b : ByteArray} (h : a ≠ b) : (a == b) = false := by rw [bytes_beq]; simp; intro e; exact h (ByteArray.ext e)
theorem findNow_string (f : S → ByteArray) (hf : ∀ a b, f a = f b → a = b) (s : S) (es : List MapEntry) : ∀ (l : List S) (i : Nat), es.map (·.key) = l.map (fun s => Value.string (f s)) →
  Instr.findNow .string (.string (f s)) es i = some (if s ∈ l then some (i + l.idxOf s, ((es[l.idxOf s]?).map (·.val)).getD .nilFunc) else none) := by
 induction es with
 | nil =>
  intro l i h
  have : l = [] := by cases l <;> simp_all
  subst this
  simp [Instr.findNow]
 | cons e es ih =>
  intro l i h
  cases l with
  | nil => simp at h
  | cons t l =>
   simp only [List.map_cons, List.cons.injEq] at h
   obtain ⟨h1, h2⟩ := h
   unfold Instr.findNow
   rw [h1]
   simp only [Instr.sameNow]
   by_cases hst : s = t
   ·subst hst
    have hb : (f s == f s) = true := bytes_beq_self _
    rw [hb]
    simp
   ·have hne : (f s == f t) = false := bytes_beq_ne fun e => hst (hf _ _ e)
    rw [hne]
    dsimp only
    rw [ih l (i + 1) h2]
    have hidx : (t :: l).idxOf s = l.idxOf s + 1 := by
     rw [List.idxOf_cons]
     have : (t == s) = false := by simpa using fun e => hst e.symm
     rw [this]; rfl
    by_cases hsl : s ∈ l
    ·simp only [hsl, hidx, List.mem_cons, or_true, if_true, List.getElem?_cons_succ, Option.some.injEq, Prod.mk.injEq, and_true]; omega
    ·simp [hsl, hst]
theorem keyOK_string (hK : P.underlying K = some .string) (f : S → ByteArray) (hf : ∀ a b, f a = f b → a = b) : KeyOK P K (fun s => Value.string (f s)) where
 check := fun em w s => by
  rw [show (10000 : Nat) = 9999 + 1 from rfl]
  unfold Instr.checkKey
  simp [run_underlying hK]
 find := fun w s es l h => by
  unfold Instr.findKey
  simp only [Sem.run_bind, run_underlying hK, Result.andThen_ok]
  rw [findNow_string f hf s es l 0 h]
  simp
theorem idx_val {es : Array MapEntry} {n i : Nat} (h : es.toList.map (·.val) = (List.range n).map fun (i : Nat) => Value.int .i64 (i : Int)) (hi : i < n) : ((es.toList[i]?).map (·.val)).getD .nilFunc = .int .i64 (i : Int) := by
 have : (es.toList.map (·.val))[i]? = some (Value.int .i64 (i : Int)) := by rw [h]; simp [hi]
 rw [List.getElem?_map] at this
 rw [this]; rfl
theorem run_idx_lookup {enc : S → Value} (hk : KeyOK P K enc) {T E : TypeId} (hT : P.underlying T = some (.map K E)) (hE : ∀ w, (zeroValue E).run P w = .ok (.int .i64 0) w) {w : World} {g : Nat} {l : List S}
  (h : IdxMap w g (l.map enc)) (s : S) :
  (Instr.lookup T (.map (some g)) (enc s) true).run P w = .ok (.tuple #[.int .i64 (if s ∈ l then (l.idxOf s : Int) else 0), .bool (decide (s ∈ l))]) w := by
 obtain ⟨es, clock, h1, h2, h3⟩ := h
 have hg : (getObj g).run P w = .ok (.map es clock) w := by simp [getObj, Sem.run, h1]
 have hf := hk.find w s es.toList l h2
 unfold Instr.lookup
 simp only [Sem.run_bind, run_underlying hT, Result.andThen_ok, hg, Sem.run_pure, hk.check, hf]
 by_cases hs : s ∈ l
 ·simp only [hs, if_true, decide_true]
  rw [idx_val h3 (by rw [List.length_map]; exact List.idxOf_lt_length_of_mem hs)]
  rfl
 ·simp only [hs, if_false, Result.andThen_ok, Sem.run_bind, hE, Sem.run_pure, decide_false, if_true]
theorem run_idx_store {enc : S → Value} (hk : KeyOK P K enc) {T E : TypeId} (hT : P.underlying T = some (.map K E)) {w : World} {g : Nat} {l : List S}
  (h : IdxMap w g (l.map enc)) (s : S) (hs : s ∉ l) :
  ∃ w', (Instr.mapUpdate T (.map (some g)) (enc s) (.int .i64 (l.length : Int))).run P w = .ok () w' ∧ IdxMap w' g ((l ++ [s]).map enc) ∧ w.grownBy w' (some g) ∧ w'.heap.size = w.heap.size := by
 obtain ⟨es, clock, h1, h2, h3⟩ := h
 have hg : (getObj g).run P w = .ok (.map es clock) w := by simp [getObj, Sem.run, h1]
 have hf := hk.find w s es.toList l h2
 rw [if_neg hs] at hf
 have hlt : g < w.heap.size := (Array.getElem?_eq_some_iff.1 h1).1
 have hset : ∀ o : Obj, (setObj g o).run P w = .ok () { w with heap := w.heap.setIfInBounds g o } := fun o => by
  simp [setObj, Sem.run, h1]
 refine ⟨{ w with heap := w.heap.setIfInBounds g (.map (es.push { key := enc s, val := .int .i64 (l.length : Int), born := clock }) (clock + 1)) }, ?_,
  ⟨es.push { key := enc s, val := .int .i64 (l.length : Int), born := clock }, clock + 1, ?_, ?_, ?_⟩, ⟨rfl, rfl, rfl, by simp, fun k hk hne => ?_⟩, by simp⟩
 ·unfold Instr.mapUpdate
  simp only [Sem.run_bind, run_underlying hT, Result.andThen_ok, hg, hk.check, hf, hset]
 ·simp [hlt]
 ·simp [h2]
 ·simp only [Array.toList_push, List.map_append, h3, List.map_cons, List.map_nil, List.length_append, List.length_cons, List.length_nil, List.length_map]
  rw [List.range_succ]
  simp
 ·have : k ≠ g := fun e => hne (by rw [e])
  simp [Array.getElem?_setIfInBounds_ne (fun e => this e.symm)]
end
end Go.Proofs.YtbjdgepfhhafjaaDoor
namespace Go.Proofs.YtbjdgepfhhafjaaDoor
open Go.RowKit
def Ret (V : Value → World → Prop) : Ending → World → Prop
 | .returned v, w => V v w
 | _, _ => False
theorem Calls.ret {P : Program} {f : FuncId} {args : Array Value} {w : World} {V : Value → World → Prop} {K : Ending → World → Prop} (h : Calls P f args w (Ret V)) (hK : ∀ v w', V v w' → K (.returned v) w') : Calls P f args w K :=
 h.mono fun e w' hr => by
  cases e with
  | returned v => exact hK v w' hr
  | panicked c => exact hr.elim
  | outgrown => exact hr.elim
theorem Calls.ret_eq {P : Program} {f : FuncId} {args : Array Value} {w : World} {V : Value → World → Prop} {v : Value} (h : Calls P f args w fun e w' => e = .returned v ∧ V v w') : Calls P f args w (Ret V) :=
 h.mono fun e w' ⟨he, hv⟩ => by subst he; exact hv
structure Kept (w w' : World) (X : Nat → Prop) : Prop where
 os : w'.os = w.os
 tape : w'.tape = w.tape
 output : w'.output = w.output
 size : w.heap.size ≤ w'.heap.size
 block : ∀ k, k < w.heap.size → ¬ X k → w'.heap[k]? = w.heap[k]?
section
variable {w w' w'' : World} {X Y : Nat → Prop}
theorem Kept.refl (w : World) (X : Nat → Prop) : Kept w w X := ⟨rfl, rfl, rfl, Nat.le_refl _, fun _ _ _ => rfl⟩
theorem Kept.trans (h : Kept w w' X) (k : Kept w' w'' Y) (hY : ∀ b, b < w.heap.size → Y b → X b) : Kept w w'' X :=
 ⟨k.os.trans h.os, k.tape.trans h.tape, k.output.trans h.output, Nat.le_trans h.size k.size,
  fun b hb hn => (k.block b (Nat.lt_of_lt_of_le hb h.size) fun hy => hn (hY b hb hy)).trans (h.block b hb hn)⟩
theorem Kept.mono (h : Kept w w' X) (hX : ∀ b, b < w.heap.size → X b → Y b) : Kept w w' Y := ⟨h.os, h.tape, h.output, h.size, fun b hb hn => h.block b hb fun hx => hn (hX b hb hx)⟩
theorem Kept.of_below (h : Below w.heap.size w w') (X : Nat → Prop) : Kept w w' X := ⟨h.os, h.tape, h.output, h.size, fun b hb _ => h.block b hb⟩
theorem Kept.of_grown {row : Option Nat} (h : w.grownBy w' row) : Kept w w' (fun b => row = some b) := ⟨h.os, h.tape, h.output, h.size, fun b hb hn => h.block b hb fun e => hn e.symm⟩
theorem Kept.drew (h : Kept w w' X) : Kept w w'.drew X := ⟨h.os, h.tape, h.output, h.size, h.block⟩
theorem Kept.drewN (h : Kept w w' X) (n : Nat) : Kept w (w'.drewN n) X := ⟨h.os, h.tape, h.output, h.size, h.block⟩
theorem Kept.alloc (h : Kept w w' X) (o : Obj) : Kept w (w'.alloc o) X :=
 ⟨h.os, h.tape, h.output, Nat.le_trans h.size (by simp), fun b hb hn => (Below.heap_alloc _ _ _ (Nat.lt_of_lt_of_le hb h.size)).trans (h.block b hb hn)⟩
theorem Kept.setCell (h : Kept w w' X) {p : Addr} (hp : p.block < w.heap.size → X p.block) (u : Value) : Kept w (w'.setCell p u) X :=
 ⟨h.os, h.tape, h.output, by simpa [World.setCell] using h.size, fun b hb hn => (Below.heap_setCell _ _ _ _ (fun e => hn (by subst e; exact hp hb))).trans (h.block b hb hn)⟩
theorem Kept.below (h : Kept w w' X) {B : Nat} (hB : B ≤ w.heap.size) (hX : ∀ b, b < B → ¬ X b) : Below B w w' := ⟨h.os, h.tape, h.output, h.size, fun b hb => h.block b (by omega) (hX b hb)⟩
theorem Kept.below' (h : Kept w w' X) (hX : ∀ b, b < w.heap.size → ¬ X b) : Below w.heap.size w w' := h.below (Nat.le_refl _) hX
theorem Kept.same (h : Kept w w' X) {o : Obj} {b : Nat} (hb : w.heap[b]? = some o) (hn : ¬ X b) : w'.heap[b]? = some o := by
 rw [h.block b (Array.getElem?_eq_some_iff.1 hb).1 hn]; exact hb
theorem Kept.cell (h : Kept w w' X) {p : Addr} (hb : p.block < w.heap.size) (hn : ¬ X p.block) : w'.cell? p = w.cell? p := World.cell?_of_block (h.block p.block hb hn)
theorem Kept.ownsRow (h : Kept w w' X) {base n size : Nat} {e : TypeId} {v : Value} {xs : List Value} (ho : w.ownsRow base e size v n xs) (hn : ∀ g, v.ownBlock = some g → ¬ X g) : w'.ownsRow base e size v n xs := by
 refine ⟨ho.1, ?_⟩
 rcases ho.2 with hx | ⟨g, cap, cur, rfl, hb, hg, rest⟩
 ·exact .inl hx
 ·exact .inr ⟨g, cap, cur, rfl, hb, h.same hg (hn g rfl), rest⟩
end
def Blk (w : World) (g : Nat) (t : TypeId) (cs : Array Value) : Prop := w.heap[g]? = some (.cells cs t (0, 0))
section
variable {w w' : World} {g : Nat} {t : TypeId} {cs : Array Value} {X : Nat → Prop}
theorem Blk.lt (h : Blk w g t cs) : g < w.heap.size := (Array.getElem?_eq_some_iff.1 h).1
theorem Blk.cell (h : Blk w g t cs) (i : Nat) : w.cell? ⟨g, i, none⟩ = cs[i]? := cell_of_row w g i cs t (0, 0) h
theorem Blk.frozen (h : Blk w g t cs) (i : Nat) : w.frozen? ⟨g, i, none⟩ = false := by
 unfold Blk at h
 simp [World.frozen?, h]
theorem Blk.new (w : World) (t : TypeId) (cs : Array Value) : Blk (w.alloc (.cells cs t)) w.heap.size t cs := heap_alloc_new w _
theorem Blk.set_ (h : Blk w g t cs) (i : Nat) (u : Value) : Blk (w.setCell ⟨g, i, none⟩ u) g t (cs.setIfInBounds i u) := by
 unfold Blk at h ⊢
 simp [World.setCell, Array.getElem?_modify, h]
theorem Blk.kept (h : Blk w g t cs) (hk : Kept w w' X) (hn : ¬ X g) : Blk w' g t cs := hk.same h hn
theorem Blk.ne_ {g' : Nat} {t' : TypeId} {cs' : Array Value} (h : Blk w g t cs) (h' : Blk w g' t' cs') (hne : t ≠ t') : g ≠ g' := by
 rintro rfl
 unfold Blk at h h'
 rw [h] at h'
 injection h' with h'
 injection h' with _ ht
 exact hne ht
theorem own_blk_ne {base size n : Nat} {e : TypeId} {v : Value} {xs : List Value} (h : w.ownsRow base e size v n xs) (hg : Blk w g t cs) (hne : e ≠ t) : v.ownBlock ≠ some g := by
 rcases h.2 with ⟨rfl, _⟩ | ⟨g', cap, cur, rfl, _, hh, _⟩
 ·simp [Value.ownBlock]
 ·intro he
  have : g' = g := by simpa [Value.ownBlock] using he
  subst this
  exact Blk.ne_ (t := e) hh hg hne rfl
theorem own_own_ne {base size n base' size' n' : Nat} {e e' : TypeId} {v v' : Value} {xs xs' : List Value} (h : w.ownsRow base e size v n xs) (h' : w.ownsRow base' e' size' v' n' xs') (hne : e ≠ e') {k : Nat} (hk : v.ownBlock = some k) : v'.ownBlock ≠ some k := by
 rcases h.2 with ⟨rfl, _⟩ | ⟨g', cap, cur, rfl, _, hh, _⟩
 ·simp [Value.ownBlock] at hk
 ·have : g' = k := by simpa [Value.ownBlock] using hk
  subst this
  exact own_blk_ne h' hh fun e => hne e.symm
theorem own_map_ne {base size n : Nat} {e : TypeId} {v : Value} {xs : List Value} {ks : List Value} (h : w.ownsRow base e size v n xs) (hg : IdxMap w g ks) : v.ownBlock ≠ some g := by
 rcases h.2 with ⟨rfl, _⟩ | ⟨g', cap, cur, rfl, _, hh, _⟩
 ·simp [Value.ownBlock]
 ·intro he
  have : g' = g := by simpa [Value.ownBlock] using he
  subst this
  obtain ⟨es, clock, h1, _⟩ := hg
  rw [hh] at h1; cases h1
theorem blk_map_ne {g' : Nat} {ks : List Value} (h : Blk w g t cs) (hg : IdxMap w g' ks) : g ≠ g' := by
 rintro rfl
 obtain ⟨es, clock, h1, _⟩ := hg
 unfold Blk at h
 rw [h] at h1; cases h1
theorem IdxMap.kept {ks : List Value} (h : IdxMap w g ks) (hk : Kept w w' X) (hn : ¬ X g) : IdxMap w' g ks := h.keep (hk.block g h.lt hn)
end
def Moved (w : World) (v v' : Value) : Prop := v'.ownBlock = v.ownBlock ∨ ∃ g, v'.ownBlock = some g ∧ w.heap.size ≤ g
theorem Moved.refl (w : World) (v : Value) : Moved w v v := .inl rfl
theorem Moved.trans {w w' : World} {a b c : Value} (h : Moved w a b) (hs : w.heap.size ≤ w'.heap.size) (k : Moved w' b c) : Moved w a c := by
 rcases k with k | ⟨g, k, hg⟩
 ·rcases h with h | ⟨g, h, hg⟩
  ·exact .inl (k.trans h)
  ·exact .inr ⟨g, k.trans h, hg⟩
 ·exact .inr ⟨g, k, by omega⟩
theorem Moved.ne {w : World} {a b : Value} (h : Moved w a b) {k : Nat} (hk : k < w.heap.size) (hn : a.ownBlock ≠ some k) : b.ownBlock ≠ some k := by
 rcases h with h | ⟨g, h, hg⟩
 ·rw [h]; exact hn
 ·rw [h]; intro e; injection e with e; omega
structure RowTy (P : Program) (t e : TypeId) (size : Nat) : Prop where
 ht : P.underlying t = some (.slice e)
 info : ∃ i z bytes, P.info? e = some i ∧ i.zero = some z ∧ i.size = size ∧ i.bytes = bytes ∧ z.cells.size = size ∧ bytes ≤ 200
 pos : 0 < size
theorem rowTy_of {P : Program} {t e size bytes : Nat} {z : Value} (ht : P.underlying t = some (.slice e)) (hi : (P.info? e).map (fun i => (i.zero, i.size, i.bytes)) = some (some z, size, bytes)) (hz : z.cells.size = size) (hb : bytes ≤ 200) (hp : 0 < size) : RowTy P t e size := by
 obtain ⟨i, h1, h2, h3, h4⟩ := info_parts hi
 exact ⟨ht, ⟨i, z, bytes, h1, h2, h3, h4, hz, hb⟩, hp⟩
theorem slice_of_own {w : World} {base e size n : Nat} {v : Value} {xs : List Value} (h : w.ownsRow base e size v n xs) : ∃ A c, v = .slice A n c := by
 rcases h.2 with ⟨rfl, h0⟩ | ⟨g, cap, cur, rfl, _⟩
 ·exact ⟨none, 0, by rw [h0]⟩
 ·exact ⟨_, _, rfl⟩
section
variable {P : Program} {ops : Array Oper} {rest : List Oper} {o : Oper} {a : Act} {Q : Exit → Act → World → Prop}
theorem wpList_app {w : World} {t e size : Nat} (R : RowTy P t e size) (hgd : o.guard = none) (s x : Operand)
  (ho : o.op = .call { callee := .builtin .append, args := #[s, x], argTypes := #[t, t] })
  (base : Nat) (v : Value) (n : Nat) (xs : List Value) (hs : a.eval s = v) (hown : w.ownsRow base e size v n xs)
  (ad : Addr) (m c : Nat) (news : List Value) (hx : a.eval x = .slice (some ad) m c) (hl : news.length = m * size) (hnews : ∀ j u, news[j]? = some u → w.cell? (ad.add j) = some u) (h1 : ∀ u ∈ news, u.oneCell' = true)
  (hm : 0 < m) (hn : n + m ≤ 1000000) (hbase : base ≤ w.heap.size)
  (h : ∀ g cap w', w'.ownsRow base e size (.slice (some ⟨g, 0, none⟩) (n + m) cap) (n + m) (xs ++ news) → Kept w w' (fun k => v.ownBlock = some k) → Moved w v (.slice (some ⟨g, 0, none⟩) (n + m) cap) → g < w'.heap.size →
   wpList P ops Q rest (a.put o.dst (.slice (some ⟨g, 0, none⟩) (n + m) cap)) w') :
  wpList P ops Q (o :: rest) a w := by
 obtain ⟨i, z, bytes, hi, hz, hsize, hby, hzs, hb⟩ := R.info
 refine wpList_append_own_at w hgd s x t ho base e i z size bytes R.ht hi hz hsize hby hzs R.pos v n xs hs hown ad m c news hx hl hnews h1 (by unfold maxLen; omega) ?_ hbase ?_
 ·exact Nat.le_trans (Nat.mul_le_mul hn hb) (by decide)
 ·intro v' w' hown' hgrow hnil hat
  rcases hown'.2 with ⟨rfl, h0⟩ | ⟨g, cap, cur, rfl, hb2, hh, _⟩
  ·exact absurd h0 (by omega)
  ·refine h g cap w' hown' ?_ ?_ (Array.getElem?_eq_some_iff.1 hh).1
   ·exact ⟨hgrow.os, hgrow.tape, hgrow.output, hgrow.size, fun k hk hn => hgrow.block k hk fun e => hn e.symm⟩
   ·rcases hat with hat | hat
    ·exact .inl hat
    ·exact .inr ⟨_, hat, Nat.le_refl _⟩
theorem wpList_app_new {w : World} {t e size : Nat} (R : RowTy P t e size) (hgd : o.guard = none) (s x : Operand)
  (ho : o.op = .call { callee := .builtin .append, args := #[s, x], argTypes := #[t, t] })
  (base : Nat) (v : Value) (n : Nat) (xs : List Value) (hs : a.eval s = v) (hown : w.ownsRow base e size v n xs) (cs : List Value) (c : Nat)
  (hx : a.eval x = .slice (some ⟨w.heap.size, 0, none⟩) 1 c) (hl : cs.length = size) (h1 : ∀ u ∈ cs, u.oneCell' = true)
  (hn : n + 1 ≤ 1000000) (hbase : base ≤ w.heap.size)
  (h : ∀ g cap w', w'.ownsRow base e size (.slice (some ⟨g, 0, none⟩) (n + 1) cap) (n + 1) (xs ++ cs) → Kept w w' (fun k => v.ownBlock = some k) → Moved w v (.slice (some ⟨g, 0, none⟩) (n + 1) cap) → g < w'.heap.size →
   wpList P ops Q rest (a.put o.dst (.slice (some ⟨g, 0, none⟩) (n + 1) cap)) w') :
  wpList P ops Q (o :: rest) a (w.alloc (.cells cs.toArray e)) := by
 refine wpList_app R hgd s x ho base v n xs hs (hown.alloc _) ⟨w.heap.size, 0, none⟩ 1 c cs hx (by rw [hl]; omega) ?_ h1 (by omega) hn (by simp; omega) ?_
 ·intro j u hj
  have hadd : (⟨w.heap.size, 0, none⟩ : Addr).add j = ⟨w.heap.size, j, none⟩ := by unfold Addr.add; split <;> simp_all
  rw [hadd, cell_of_row _ w.heap.size j cs.toArray e (0, 0) (heap_alloc_new w _)]
  simpa using hj
 ·intro g cap w' hown' hk hmv hg
  refine h g cap w' hown' (((Kept.refl w (fun k => v.ownBlock = some k)).alloc (.cells cs.toArray e)).trans hk fun b _ hb => hb) ?_ hg
  rcases hmv with hmv | ⟨g', hmv, hg'⟩
  ·exact .inl hmv
  ·refine .inr ⟨g', hmv, ?_⟩
   simp at hg'
   omega
end
end Go.Proofs.YtbjdgepfhhafjaaDoor
namespace Go.Proofs.YtbjdgepfhhafjaaDoor
open Go.RowKit
def encS (x : ByteArray) (_ : Nat) : Value := .string x
def encLin (l : Lin) : Nat → Value
 | 0 => .int .i64 l.c
 | 1 => .int .i64 l.n
 | 2 => .int .i64 l.t
 | _ => .int .i64 l.f
def encThr (g : Thr) : Nat → Value
 | 0 => .int .i64 g.msg
 | 1 => .int .i64 g.coef
 | 2 => .int .i64 g.bound.c
 | 3 => .int .i64 g.bound.n
 | 4 => .int .i64 g.bound.t
 | _ => .int .i64 g.bound.f
def RowsOf {D : Type} (w : World) (B k : Nat) (R : List Value → D → Prop) (A : Option Addr) (ds : List D) : Prop :=
 ds.length ≤ 9223372036854775807 ∧ (ds ≠ [] → ∃ b off, A = some ⟨b, off, none⟩ ∧ b < B ∧ ∀ (i : Nat) (d : D), ds[i]? = some d → ∃ cs : List Value, cs.length = k ∧ (∀ (j : Nat) (u : Value), cs[j]? = some u → w.cell? ⟨b, off + i * k + j, none⟩ = some u) ∧ R cs d)
section
variable {D : Type} {w w' : World} {B B' k : Nat} {R R' : List Value → D → Prop} {A : Option Addr} {ds : List D}
theorem RowsOf.keep (h : RowsOf w B k R A ds) (hk : ∀ p : Addr, p.block < B → w'.cell? p = w.cell? p) (hR : ∀ cs d, R cs d → R' cs d) (hB : B ≤ B') : RowsOf w' B' k R' A ds :=
 ⟨h.1, fun hne => by
  obtain ⟨b, off, e, hb, hc⟩ := h.2 hne
  refine ⟨b, off, e, by omega, fun i d hd => ?_⟩
  obtain ⟨cs, hl, hcs, hr⟩ := hc i d hd
  exact ⟨cs, hl, fun j u hu => (hk _ hb).trans (hcs j u hu), hR _ _ hr⟩⟩
theorem RowsOf.at (h : RowsOf w B k R A ds) {i : Nat} (hi : i < ds.length) : ∃ b off d cs, A = some ⟨b, off, none⟩ ∧ b < B ∧ ds[i]? = some d ∧ cs.length = k ∧ (∀ (j : Nat) (u : Value), cs[j]? = some u → w.cell? ⟨b, off + i * k + j, none⟩ = some u) ∧ R cs d := by
 obtain ⟨b, off, e, hb, hc⟩ := h.2 (by intro e; subst e; simp at hi)
 obtain ⟨cs, hl, hcs, hr⟩ := hc i ds[i] (List.getElem?_eq_getElem hi)
 exact ⟨b, off, ds[i], cs, e, hb, List.getElem?_eq_getElem hi, hl, hcs, hr⟩
theorem RowsOf.take (h : RowsOf w B k R A ds) (n : Nat) : RowsOf w B k R A (ds.take n) :=
 ⟨Nat.le_trans (List.length_take_le' ..) h.1, fun hne => by
  obtain ⟨b, off, e, hb, hc⟩ := h.2 (by rintro rfl; simp at hne)
  refine ⟨b, off, e, hb, fun i d hd => hc i d ?_⟩
  rw [List.getElem?_take] at hd
  split at hd
  ·exact hd
  ·cases hd⟩
theorem RowsOf.nil (h : ds = []) : RowsOf w B k R A ds := by subst h; exact ⟨by simp, fun h => absurd rfl h⟩
end
def RuleIs (w : World) (B : Nat) (cs : List Value) (r : RuleD) : Prop :=
 ∃ A1 c1 A2 c2 A3 c3 A4 c4 A5 c5 A6 c6 A7 c7 A8 c8, cs = [.string r.name, .int .i64 r.kind, .int .i64 r.fr, .int .i64 r.to, .int .i64 r.pf, .int .i64 r.pt, .slice A1 r.resp.length c1, .slice A2 r.guards.length c2, .slice A3 r.ex.length c3, .slice A4 r.fa.length c4,
   .int .i64 r.rd, .int .i64 r.wr, .slice A5 r.send.length c5, .int .i64 r.at_, .slice A6 r.left.length c6, .slice A7 r.right.length c7, .slice A8 r.parent.length c8, .int .i64 r.dir] ∧
  Sl w B 1 encI A1 r.resp ∧ Sl w B 6 encThr A2 r.guards ∧ Sl w B 1 encI A3 r.ex ∧ Sl w B 1 encI A4 r.fa ∧ Sl w B 1 encI A5 r.send ∧ Sl w B 1 encI A6 r.left ∧ Sl w B 1 encI A7 r.right ∧ Sl w B 1 encI A8 r.parent
def CountIs (w : World) (B : Nat) (cs : List Value) (c : CountD) : Prop := ∃ A1 c1, cs = [.slice A1 c.states.length c1, .int .i64 c.least] ∧ Sl w B 1 encI A1 c.states
def ProtIs (w : World) (B : Nat) (cs : List Value) (p : ProtD) : Prop :=
 ∃ A1 c1 A2 c2 A3 c3 A4 c4 A5 c5 A6 c6 A7 c7, cs = [.string p.name, .int .i64 p.topo, .slice A1 p.states.length c1, .slice A2 p.messages.length c2, .slice A3 p.values.length c3, .int .i64 p.fault, .slice A4 p.res.length c4, .slice A5 p.initial.length c5, .slice A6 p.leader.length c6, .slice A7 p.rules.length c7] ∧
  Sl w B 1 encS A1 p.states ∧ Sl w B 1 encS A2 p.messages ∧ Sl w B 1 encS A3 p.values ∧ Sl w B 4 encLin A4 p.res ∧ Sl w B 1 encI A5 p.initial ∧ Sl w B 1 encI A6 p.leader ∧ RowsOf w B 18 (RuleIs w B) A7 p.rules ∧ p.rules.length ≤ c7
def PropIs (w : World) (B : Nat) (cs : List Value) (q : PropD) : Prop :=
 ∃ A1 c1 A2 c2 A3 c3 A4 c4, cs = [.string q.name, .int .i64 q.kind, .slice A1 q.start.length c1, .slice A2 q.bad.length c2, .slice A3 q.adj.length c3, .slice A4 q.goal.length c4] ∧
  Sl w B 1 encI A1 q.start ∧ RowsOf w B 2 (CountIs w B) A2 q.bad ∧ Sl w B 1 encI A3 q.adj ∧ Sl w B 1 encI A4 q.goal
section
variable {w w' : World} {B B' : Nat} {cs : List Value}
theorem RuleIs.keep {r : RuleD} (h : RuleIs w B cs r) (hk : ∀ p : Addr, p.block < B → w'.cell? p = w.cell? p) (hB : B ≤ B') : RuleIs w' B' cs r := by
 obtain ⟨A1, c1, A2, c2, A3, c3, A4, c4, A5, c5, A6, c6, A7, c7, A8, c8, e, h1, h2, h3, h4, h5, h6, h7, h8⟩ := h
 exact ⟨A1, c1, A2, c2, A3, c3, A4, c4, A5, c5, A6, c6, A7, c7, A8, c8, e, h1.keep hk hB, h2.keep hk hB, h3.keep hk hB, h4.keep hk hB, h5.keep hk hB, h6.keep hk hB, h7.keep hk hB, h8.keep hk hB⟩
theorem CountIs.keep {c : CountD} (h : CountIs w B cs c) (hk : ∀ p : Addr, p.block < B → w'.cell? p = w.cell? p) (hB : B ≤ B') : CountIs w' B' cs c := by
 obtain ⟨A1, c1, e, h1⟩ := h
 exact ⟨A1, c1, e, h1.keep hk hB⟩
theorem ProtIs.keep {p : ProtD} (h : ProtIs w B cs p) (hk : ∀ p : Addr, p.block < B → w'.cell? p = w.cell? p) (hB : B ≤ B') : ProtIs w' B' cs p := by
 obtain ⟨A1, c1, A2, c2, A3, c3, A4, c4, A5, c5, A6, c6, A7, c7, e, h1, h2, h3, h4, h5, h6, h7, h8⟩ := h
 exact ⟨A1, c1, A2, c2, A3, c3, A4, c4, A5, c5, A6, c6, A7, c7, e, h1.keep hk hB, h2.keep hk hB, h3.keep hk hB, h4.keep hk hB, h5.keep hk hB, h6.keep hk hB, h7.keep hk (fun _ _ h => h.keep hk hB) hB, h8⟩
theorem PropIs.keep {q : PropD} (h : PropIs w B cs q) (hk : ∀ p : Addr, p.block < B → w'.cell? p = w.cell? p) (hB : B ≤ B') : PropIs w' B' cs q := by
 obtain ⟨A1, c1, A2, c2, A3, c3, A4, c4, e, h1, h2, h3, h4⟩ := h
 exact ⟨A1, c1, A2, c2, A3, c3, A4, c4, e, h1.keep hk hB, h2.keep hk (fun _ _ h => h.keep hk hB) hB, h3.keep hk hB, h4.keep hk hB⟩
end
end Go.Proofs.YtbjdgepfhhafjaaDoor
namespace Go.Proofs.YtbjdgepfhhafjaaDoor
theorem setE_nil (n : Int) : setE [] n = 0 := rfl
theorem whenE_or (a b : Bool) (e : Int) : whenE (a || b) e = orE (whenE a e) (whenE b e) := by
 cases a <;> cases b <;> simp [whenE, orE]
theorem orE_comm_same (a b c : Int) (h : a = 0 ∨ b = 0 ∨ a = b) : orE a (orE b c) = orE b (orE a c) := by
 unfold orE
 split <;> split <;> simp_all
def fitsP (kind topo : Int) : Bool := if kind = 1 ∨ kind = 2 ∨ kind = 3 then decide (topo = 1) else if kind = 4 ∨ kind = 5 then !decide (topo = 1) else false
def restP (resp guards ex fa send left right parent : Nat) (pf pt at_ dir rd wr : Int) : Bool :=
 decide (0 < resp + guards + ex + fa + send + left + right + parent) || !decide (pf = 0) || !decide (pt = 0) || !decide (at_ = 0) || !decide (dir = 0) || !decide (rd = -1) || !decide (wr = -1)
def surplusP (topo : Int) (r : RuleD) : Bool :=
 if r.kind = 1 then restP r.resp.length 0 0 0 0 r.left.length r.right.length r.parent.length r.pf r.pt r.at_ r.dir (-1) (-1)
 else if r.kind = 2 then (if 0 < r.resp.length then true else restP 0 r.guards.length r.ex.length r.fa.length r.send.length r.left.length r.right.length r.parent.length 0 0 r.at_ r.dir (-1) (-1))
 else if r.kind = 3 then restP 0 r.guards.length r.ex.length r.fa.length r.send.length r.left.length r.right.length r.parent.length r.pf r.pt r.at_ r.dir (-1) (-1)
 else if r.kind = 4 then restP r.resp.length r.guards.length r.ex.length r.fa.length r.send.length 0 0 (if topo = 4 then 0 else r.parent.length) r.pf r.pt 0 r.dir r.rd r.wr
 else if r.kind = 5 then restP r.resp.length r.guards.length r.ex.length r.fa.length r.send.length r.left.length r.right.length r.parent.length 0 0 r.at_ 0 r.rd r.wr
 else restP r.resp.length r.guards.length r.ex.length r.fa.length r.send.length r.left.length r.right.length r.parent.length r.pf r.pt r.at_ r.dir r.rd r.wr
def guardsP (m : Int) (l : List Thr) : Int := orE (allE (guardE m) l) (whenE (decide (2 < l.length)) 4)
def idxE (i n : Int) : Int := whenE (!inE i n) 5
def valE (v k : Int) : Int := whenE (!valB v k) 5
def kindP (topo n m k : Int) (r : RuleD) : Int :=
 if r.kind = 1 then orE (guardsP m r.guards) (orE (setE r.ex n) (orE (setE r.fa n) (orE (valE r.rd k) (orE (valE r.wr k) (setE r.send m)))))
 else if r.kind = 2 then orE (idxE r.pf n) (orE (idxE r.pt n) (orE (valE r.rd k) (valE r.wr k)))
 else if r.kind = 3 then orE (respE n r.resp) (orE (valE r.rd k) (valE r.wr k))
 else if r.kind = 4 then orE (setE r.left n) (orE (setE r.right n) (orE (setE r.parent n) (whenE (decide (r.at_ < 0) || decide (2 < r.at_) || (!decide (r.at_ = 0) && decide (topo = 3))) 1)))
 else orE (idxE r.pf n) (orE (idxE r.pt n) (whenE (if topo = 4 then decide (r.dir < 3) || decide (4 < r.dir) else decide (r.dir < 1) || decide (2 < r.dir)) 1))
def ruleP (ok : ByteArray → Bool) (topo n m k : Int) (taken : Bool) (r : RuleD) : Int :=
 orE (whenE (!ok r.name || taken) 2) (orE (whenE (!fitsP r.kind topo || surplusP topo r) 6) (orE (orE (idxE r.fr n) (idxE r.to n)) (kindP topo n m k r)))
theorem len_pos {A : Type} (l : List A) : decide (0 < l.length) = !l.isEmpty := by cases l <;> simp
theorem valE_neg (k : Int) (hk : 0 ≤ k) : valE (-1) k = 0 := by
 unfold valE valB whenE
 simp
 omega
theorem isEmpty_len {A : Type} (l : List A) : l.isEmpty = decide (l.length = 0) := by cases l <;> simp
theorem fits_same (topo : Int) (r : RuleD) : (!fitsP r.kind topo || surplusP topo r) = (!(decide (1 ≤ r.kind) && decide (r.kind ≤ 5)) || (decide (r.kind ≤ 3) != decide (topo = 1)) || unusedR topo r) := by
 obtain ⟨name, kind, fr, to, pf, pt, resp, guards, ex, fa, rd, wr, send, at_, left, right, parent, dir⟩ := r
 simp only [fitsP, surplusP, unusedR, restP, isEmpty_len]
 generalize resp.length = n1
 generalize guards.length = n2
 generalize ex.length = n3
 generalize fa.length = n4
 generalize send.length = n5
 generalize left.length = n6
 generalize right.length = n7
 generalize parent.length = n8
 by_cases h1 : kind = 1
 ·subst h1
  rw [Bool.eq_iff_iff]
  simp
  omega
 by_cases h2 : kind = 2
 ·subst h2
  rw [Bool.eq_iff_iff]
  by_cases hr : 0 < n1
  ·simp [hr]
   omega
  ·simp [hr]
   omega
 by_cases h3 : kind = 3
 ·subst h3
  rw [Bool.eq_iff_iff]
  simp
  omega
 by_cases h4 : kind = 4
 ·subst h4
  rw [Bool.eq_iff_iff]
  by_cases ht : topo = 4
  ·simp [ht]
   omega
  ·simp [ht]
   omega
 by_cases h5 : kind = 5
 ·subst h5
  rw [Bool.eq_iff_iff]
  simp
  omega
 ·rw [Bool.eq_iff_iff]
  simp [h1, h2, h3, h4, h5]
  omega
theorem when_f (e : Int) : whenE false e = 0 := rfl
theorem rule_same (ok : ByteArray → Bool) (topo n m k : Int) (hk : 0 ≤ k) (taken : Bool) (r : RuleD) : ruleP ok topo n m k taken r = ruleE ok topo n m k taken r := by
 unfold ruleP ruleE
 congr 1
 rw [fits_same]
 cases hb : (!(decide (1 ≤ r.kind) && decide (r.kind ≤ 5)) || (decide (r.kind ≤ 3) != decide (topo = 1)) || unusedR topo r)
 case true => simp [whenE, orE]
 case false =>
  rw [show whenE false 6 = 0 from rfl, orE_zero, orE_zero]
  simp only [Bool.or_eq_false_iff, Bool.not_eq_false'] at hb
  obtain ⟨⟨hr, -⟩, hu⟩ := hb
  simp only [Bool.and_eq_true, decide_eq_true_eq] at hr
  have hval : valE (-1) k = 0 := valE_neg k hk
  unfold valE at hval
  obtain ⟨name, kind, fr, to, pf, pt, resp, guards, ex, fa, rd, wr, send, at_, left, right, parent, dir⟩ := r
  dsimp only at hr hu ⊢
  have hk5 : kind = 1 ∨ kind = 2 ∨ kind = 3 ∨ kind = 4 ∨ kind = 5 := by omega
  unfold kindP guardsP idxE valE unusedR at *
  rcases hk5 with rfl | rfl | rfl | rfl | rfl <;> simp [and_assoc] at hu
  ·obtain ⟨rfl, rfl, rfl, rfl, rfl, rfl, rfl, rfl⟩ := hu
   simp [orE_zero, setE_nil, when_f, orE_self0, orE_assoc, whenE_or]
  ·obtain ⟨rfl, rfl, rfl, rfl, rfl, rfl, rfl, rfl, rfl, rfl⟩ := hu
   simp [orE_zero, setE_nil, when_f, orE_self0, orE_assoc, whenE_or, allE]
  ·obtain ⟨rfl, rfl, rfl, rfl, rfl, rfl, rfl, rfl, rfl, rfl, rfl⟩ := hu
   simp [orE_zero, setE_nil, when_f, orE_self0, orE_assoc, whenE_or, allE]
  ·obtain ⟨rfl, rfl, rfl, rfl, rfl, rfl, rfl, rfl, rfl, rfl, -⟩ := hu
   have e1 : decide (at_ < 0) = !decide (0 ≤ at_) := by rw [Bool.eq_iff_iff]; simp
   have e2 : decide (2 < at_) = !decide (at_ ≤ 2) := by rw [Bool.eq_iff_iff]; simp
   simp [orE_zero, setE_nil, when_f, orE_assoc, whenE_or, allE, hval, e1, e2, orE_self0]
  ·obtain ⟨rfl, rfl, rfl, rfl, rfl, rfl, rfl, rfl, rfl, rfl, rfl⟩ := hu
   have e1 : decide (dir < 3) = !decide (3 ≤ dir) := by rw [Bool.eq_iff_iff]; simp
   have e2 : decide (4 < dir) = !decide (dir ≤ 4) := by rw [Bool.eq_iff_iff]; simp
   have e3 : decide (dir < 1) = !decide (1 ≤ dir) := by rw [Bool.eq_iff_iff]; simp
   have e4 : decide (2 < dir) = !decide (dir ≤ 2) := by rw [Bool.eq_iff_iff]; simp
   by_cases ht : topo = 4
   ·simp [orE_zero, setE_nil, when_f, orE_assoc, whenE_or, allE, hval, e1, e2, ht, orE_self0]
   ·simp [orE_zero, setE_nil, when_f, orE_assoc, whenE_or, allE, hval, e3, e4, ht]
end Go.Proofs.YtbjdgepfhhafjaaDoor
namespace Go.Proofs.YtbjdgepfhhafjaaDoor
open Go.RowKit
def inR (n lo hi : Int) : Bool := decide (lo ≤ n) && decide (n < hi)
theorem all_take_succ {D : Type} {p : D → Bool} {l : List D} {k : Nat} {x : D} (hx : l[k]? = some x) (h : (l.take k).all p = true) (hp : p x = true) : (l.take (k + 1)).all p = true := by
 rw [List.take_add_one, hx]; simp [hp]; simpa using h
theorem all_false {D : Type} {p : D → Bool} {l : List D} {k : Nat} {x : D} (hx : l[k]? = some x) (hp : p x = false) : l.all p = false := by
 rw [List.all_eq_false]; exact ⟨x, List.mem_of_getElem? hx, by simp [hp]⟩
theorem all_done {D : Type} {p : D → Bool} {l : List D} {k : Nat} (hk : l.length ≤ k) (h : (l.take k).all p = true) : l.all p = true := by
 rwa [List.take_of_length_le hk] at h
theorem val1_any (n L : Int) (b : Nat) (w : World) (hc : w.cell? ⟨b, 0, none⟩ = some (.int .i64 L)) :
  Calls Tryd.prog 33 #[.int .i64 n, .pointer (some ⟨b, 0, none⟩)] w fun e w' => e = .returned (.bool (inR n 0 L)) ∧ w = w' := by
 by_cases h : 0 ≤ n
 all_goals
  go_enter Tryd.func33, Tryd.ntmps33
  go_wp2
  go_ret
  exact ⟨by simp [inR]; omega, rfl⟩
theorem val2_any (n L : Int) (b : Nat) (w : World) (hc : w.cell? ⟨b, 1, none⟩ = some (.int .i64 L)) :
  Calls Tryd.prog 34 #[.int .i64 n, .pointer (some ⟨b, 0, none⟩)] w fun e w' => e = .returned (.bool (inR n 0 L)) ∧ w = w' := by
 by_cases h : 0 ≤ n
 all_goals
  go_enter Tryd.func34, Tryd.ntmps34
  go_wp2
  go_ret
  exact ⟨by simp [inR]; omega, rfl⟩
def okLeaf (L S : Int) (l : Leaf) : Bool := inR l.letter 0 L && inR l.to 0 S
def okBranch (L S : Int) (b : Branch) : Bool := inR b.letter 0 L && inR b.first 0 S && inR b.second 0 S && inR b.to 0 S
def TA.head (a : TA) : Bool := decide (1 ≤ a.letters) && decide (a.letters ≤ 8) && decide (0 ≤ a.states) && decide (a.states ≤ 64)
def TA.valid (a : TA) : Bool := a.head && a.accept.all (inR · 0 a.states) && a.leaves.all (okLeaf a.letters a.states) && a.branches.all (okBranch a.letters a.states)
def errno (b : Bool) : Int := if b then 0 else 1
theorem box_facts (w : World) (cs : Array Value) (t : TypeId) : ∃ w1, w.alloc (.cells cs t) = w1 ∧ Below w.heap.size w w1 ∧ w.heap.size < w1.heap.size ∧ (∀ i, w1.cell? ⟨w.heap.size, i, none⟩ = cs[i]?) :=
 ⟨_, rfl, (Below.refl _ _).alloc (Nat.le_refl _) _, by simp, fun i => by simp⟩
theorem box_later {w1 w2 : World} {g : Nat} {cs : Array Value} (hb : Below w1.heap.size w1 w2) (hg : g < w1.heap.size) (hc : ∀ i, w1.cell? ⟨g, i, none⟩ = cs[i]?) :
  g < w2.heap.size ∧ ∀ i, w2.cell? ⟨g, i, none⟩ = cs[i]? := ⟨by have := hb.size; omega, fun i => (hb.cell (p := ⟨g, i, none⟩) hg).trans (hc i)⟩
theorem cell_old {w : World} {o : Obj} {p : Addr} {v : Value} (hp : p.block < w.heap.size) (h : w.cell? p = some v) : (w.alloc o).cell? p = some v := (World.cell?_alloc_lt w o p hp).trans h
theorem validate_head (v : Value) (a : TA) (w : World) (h : IsTA w w.heap.size v a) (hL : 1 ≤ a.letters ∧ a.letters ≤ 8 ∧ 0 ≤ a.states ∧ a.states ≤ 64) :
  Calls Tryd.prog 17 #[v] w fun e w' =>
   e = .returned (.int .i64 (errno a.valid)) ∧ Below w.heap.size w w' := by
 obtain ⟨A1, c1, A2, c2, A3, c3, rfl, h1, h2, h3⟩ := h
 have hmf := run_mf
 have HH : Hid (a.head = true) := by show a.head = true; simp [TA.head]; omega
 obtain ⟨L, S, acc, lv, br⟩ := a
 dsimp only at *
 have hn1 := h1.1
 have hn2 := h2.1
 have hn3 := h3.1
 go_enter Tryd.func17, Tryd.ntmps17
 go_wp2
 obtain ⟨w1, hw1, hb1, hg1, hB1⟩ := box_facts w #[.int .i64 L, .int .i64 S, .slice A1 acc.length c1, .slice A2 lv.length c2, .slice A3 br.length c3] 40
 rw [hw1]
 clear hw1
 go_loop [34] (fun i => ∃ k : Nat, k ≤ acc.length ∧ i = .int .i64 k ∧ (acc.take k).all (inR · 0 S)) (fun i => acc.length - (intOf i).toNat)
 case atStart => exact ⟨0, Nat.zero_le _, rfl, by simp⟩
 case round =>
  obtain ⟨k, hk, rfl, hall⟩ := hrel
  by_cases hlt : k < acc.length
  ·obtain ⟨b, off, x, rfl, hb, hx, hc⟩ := h1.at hlt
   have hc0 := (hb1.cell (by exact hb)).trans (hc 0 (by omega))
   simp only [Nat.mul_one, Nat.add_zero, encI] at hc0
   clear hc
   have HX := hide hx
   clear hx
   cases hin : inR x 0 S
   all_goals
    have HI := hide hin
    clear hin
    go_wp2_with (go_at_call 34; refine (val2_any x S _ _ (hB1 1)).mono ?_; rintro e w' ⟨rfl, rfl⟩; rw [HI.out])
   ·go_ret
    exact ⟨by rw [TA.valid]; dsimp only; rw [all_false HX.out HI.out]; simp [errno], hb1⟩
   ·go_round
    case rel => exact ⟨k + 1, by omega, by go_num, all_take_succ HX.out hall HI.out⟩
    case measure => simp [intOf]; omega
  ·have HA := hide (all_done (by omega) hall)
   clear hall
   go_wp2_with fail
   go_loopw [46] (fun i wr => ∃ k : Nat, k ≤ lv.length ∧ i = .int .i64 k ∧ (lv.take k).all (okLeaf L S) ∧ Below w1.heap.size w1 wr) (fun i _ => lv.length - (intOf i).toNat)
   case atStart => exact ⟨0, Nat.zero_le _, rfl, by simp, Below.refl _ _⟩
   case round =>
    obtain ⟨k, hk, rfl, hall, hbr⟩ := hrel
    obtain ⟨hg2, hB2⟩ := box_later hbr hg1 hB1
    by_cases hlt : k < lv.length
    ·obtain ⟨b, off, x, rfl, hb, hx, hc⟩ := h2.at hlt
     have hc0 := (hbr.cell (by show b < _; omega)).trans ((hb1.cell (by exact hb)).trans (hc 0 (by omega)))
     have hc1 := (hbr.cell (by show b < _; omega)).trans ((hb1.cell (by exact hb)).trans (hc 1 (by omega)))
     simp only [Nat.add_zero, encL] at hc0 hc1
     clear hc
     have HX := hide hx
     clear hx
     cases hin : inR x.letter 0 L
     ·have HI := hide hin
      clear hin
      go_wp2_with (go_at_call 33; refine (val1_any x.letter L w.heap.size _ (cell_old hg2 (hB2 0))).mono ?_; rintro e w' ⟨rfl, rfl⟩; rw [HI.out])
      go_ret
      exact ⟨by rw [TA.valid]; dsimp only; rw [all_false HX.out (by rw [okLeaf, HI.out]; rfl)]; simp [errno], (hb1.trans (hbr.mono (by omega))).alloc (by omega) _⟩
     ·have HI := hide hin
      clear hin
      cases hin2 : inR x.to 0 S
      all_goals
       have HI2 := hide hin2
       clear hin2
       go_wp2_with (first | (go_at_call 33; refine (val1_any x.letter L w.heap.size _ (cell_old hg2 (hB2 0))).mono ?_; rintro e w' ⟨rfl, rfl⟩; rw [HI.out]) | (go_at_call 34; refine (val2_any x.to S w.heap.size _ (cell_old hg2 (hB2 1))).mono ?_; rintro e w' ⟨rfl, rfl⟩; rw [HI2.out]))
      ·go_ret
       exact ⟨by rw [TA.valid]; dsimp only; rw [all_false HX.out (by rw [okLeaf, HI.out, HI2.out]; rfl)]; simp [errno], (hb1.trans (hbr.mono (by omega))).alloc (by omega) _⟩
      ·go_roundw
       case rel => exact ⟨k + 1, by omega, by go_num, all_take_succ HX.out hall (by rw [okLeaf, HI.out, HI2.out]; rfl), hbr.alloc hbr.size _⟩
       case measure => simp [intOf]; omega
    ·have HA2 := hide (all_done (by omega) hall)
     clear hall
     go_wp2_with fail
     go_loopw [66] (fun i wr2 => ∃ k : Nat, k ≤ br.length ∧ i = .int .i64 k ∧ (br.take k).all (okBranch L S) ∧ Below wr.heap.size wr wr2) (fun i _ => br.length - (intOf i).toNat)
     case atStart => exact ⟨0, Nat.zero_le _, rfl, by simp, Below.refl _ _⟩
     case round =>
      rename_i wr2
      obtain ⟨k, hk, rfl, hall, hbr2⟩ := hrel
      obtain ⟨hg3, hB3⟩ := box_later hbr2 hg2 hB2
      by_cases hlt : k < br.length
      ·obtain ⟨b, off, x, rfl, hb, hx, hc⟩ := h3.at hlt
       have hcc := fun j hj => (hbr2.cell (by show b < _; omega)).trans ((hbr.cell (by show b < _; omega)).trans ((hb1.cell (by exact hb)).trans (hc j hj)))
       have hc0 := hcc 0 (by omega)
       have hc1 := hcc 1 (by omega)
       have hc2 := hcc 2 (by omega)
       have hc3 := hcc 3 (by omega)
       simp only [Nat.add_zero, encBr] at hc0 hc1 hc2 hc3
       clear hc hcc
       have HX := hide hx
       clear hx
       go_wp2_with (first | (go_at_call 33; refine (val1_any x.letter L w.heap.size _ (cell_old hg3 (hB3 0))).mono ?_; rintro e w' ⟨rfl, rfl⟩) | (go_at_call 34; refine (val2_any _ S w.heap.size _ (cell_old hg3 (hB3 1))).mono ?_; rintro e w' ⟨rfl, rfl⟩))
       all_goals try rw [Bool.not_eq_true] at *
       ·go_ret
        exact ⟨by rw [TA.valid]; dsimp only; rw [all_false HX.out (by rw [okBranch]; simp_all)]; simp [errno], ((hb1.trans (hbr.mono (by omega))).trans (hbr2.mono (by omega))).alloc (by omega) _⟩
       ·go_roundw
        case rel => exact ⟨k + 1, by omega, by go_num, all_take_succ HX.out hall (by rw [okBranch]; simp_all), hbr2.alloc hbr2.size _⟩
        case measure => simp [intOf]; omega
       all_goals
        go_ret
        exact ⟨by rw [TA.valid]; dsimp only; rw [all_false HX.out (by rw [okBranch]; simp_all)]; simp [errno], ((hb1.trans (hbr.mono (by omega))).trans (hbr2.mono (by omega))).alloc (by omega) _⟩
      ·have HA3 := hide (all_done (by omega) hall)
       clear hall
       go_wp2_with fail
       go_ret
       exact ⟨by rw [TA.valid, HH.out]; dsimp only; rw [HA.out, HA2.out, HA3.out]; rfl, (hb1.trans (hbr.mono (by omega))).trans (hbr2.mono (by omega))⟩
theorem validate_any (v : Value) (a : TA) (w : World) (h : IsTA w w.heap.size v a) :
  Calls Tryd.prog 17 #[v] w fun e w' => e = .returned (.int .i64 (errno a.valid)) ∧ Below w.heap.size w w' := by
 by_cases hh : a.head = true
 ·refine validate_head v a w h ?_
  simp [TA.head] at hh
  omega
 ·obtain ⟨A1, c1, A2, c2, A3, c3, rfl, h1, h2, h3⟩ := h
  have hE : errno a.valid = 1 := by simp [TA.valid, hh, errno]
  rw [hE]
  have hcase : a.letters < 1 ∨ (1 ≤ a.letters ∧ 8 < a.letters) ∨ (1 ≤ a.letters ∧ a.letters ≤ 8 ∧ a.states < 0) ∨ (1 ≤ a.letters ∧ a.letters ≤ 8 ∧ 0 ≤ a.states ∧ 64 < a.states) := by
   simp [TA.head] at hh
   omega
  clear hh hE
  generalize a.letters = L at *
  generalize a.states = S at *
  rcases hcase with hc | hc | hc | hc
  all_goals
   go_enter Tryd.func17, Tryd.ntmps17
   go_wp2
   go_ret
   exact ⟨rfl, (Below.refl _ _).alloc (Nat.le_refl _) _⟩
end Go.Proofs.YtbjdgepfhhafjaaDoor
namespace Go.Proofs.YtbjdgepfhhafjaaDoor
open Go.RowKit
def inC (n lo hi : Int) : Bool := decide (lo ≤ n) && decide (n ≤ hi)
theorem inE_inC (n k : Int) : inE n k = inC n 0 (k - 1) := by
 unfold inE inC; congr 1; exact decide_eq_decide.2 (by omega)
theorem drewB (w : World) : Below w.heap.size w w.drew := ⟨rfl, rfl, rfl, Nat.le_refl _, fun _ _ => rfl⟩
theorem when_any (b : Bool) (e : Int) (w : World) : Calls Tryd.prog 25 #[.bool b, .int .i64 e] w fun r w' => r = .returned (.int .i64 (whenE b e)) ∧ w = w' := by
 cases b
 all_goals
  go_enter Tryd.func25, Tryd.ntmps25
  go_wp2
  go_ret
  exact ⟨rfl, rfl⟩
theorem index_any (i n : Int) (w : World) : Calls Tryd.prog 44 #[.int .i64 i, .int .i64 n] w fun r w' => r = .returned (.int .i64 (idxE i n)) ∧ w = w' := by
 have key : ∀ b : Bool, b = !inE i n → whenE b 5 = idxE i n := fun b hb => by rw [hb]; rfl
 by_cases h : i < 0
 ·have hb := hide (key true (by simp [inE]; omega))
  clear key
  go_enter Tryd.func44, Tryd.ntmps44
  go_wp2_with (go_at_call 25; refine (when_any _ _ _).mono ?_; rintro e w' ⟨rfl, rfl⟩; rw [hb.out])
  go_ret
  exact ⟨rfl, rfl⟩
 ·by_cases h2 : n ≤ i
  ·have hb := hide (key true (by simp [inE]; omega))
   clear key
   go_enter Tryd.func44, Tryd.ntmps44
   go_wp2_with (go_at_call 25; refine (when_any _ _ _).mono ?_; rintro e w' ⟨rfl, rfl⟩; rw [hb.out])
   go_ret
   exact ⟨rfl, rfl⟩
  ·have hb := hide (key false (by simp [inE]; omega))
   clear key
   go_enter Tryd.func44, Tryd.ntmps44
   go_wp2_with (go_at_call 25; refine (when_any _ _ _).mono ?_; rintro e w' ⟨rfl, rfl⟩; rw [hb.out])
   go_ret
   exact ⟨rfl, rfl⟩
theorem factor_any (n : Int) (w : World) : Calls Tryd.prog 61 #[.int .i64 n] w fun r w' => r = .returned (.bool (facB n)) ∧ w = w' := by
 by_cases h : -100 ≤ n
 all_goals
  go_enter Tryd.func61, Tryd.ntmps61
  go_wp2
  go_ret
  exact ⟨by simp [facB]; omega, rfl⟩
theorem within2_any (n lo hi : Int) (w : World) : Calls Tryd.prog 32 #[.int .i64 n, .int .i64 lo, .int .i64 hi] w fun e w' => e = .returned (.bool (inC n lo hi)) ∧ w = w' := by
 by_cases h : lo ≤ n
 all_goals
  go_enter Tryd.func32, Tryd.ntmps32
  go_wp2
  go_ret
  exact ⟨by simp [inC]; omega, rfl⟩
theorem first_any {w : World} {B c : Nat} {A : Option Addr} {l : List Int} (h : Sl w B 1 encI A l) : Calls Tryd.prog 24 #[.slice A l.length c] w fun r w' => r = .returned (.int .i64 (allE id l)) ∧ w = w' := by
 have hH := hide h
 have hn := h.1
 clear h
 go_enter Tryd.func24, Tryd.ntmps24
 go_wp2_with fail
 go_loopw [7] (fun ii wr => ∃ (k : Nat), ii = .int .i64 (k : Int) ∧ k ≤ l.length ∧ w = wr ∧ Hid (allE id (l.take k) = 0)) (fun ii _ => l.length - (intOf ii).toNat)
 case atStart => exact ⟨0, rfl, Nat.zero_le _, (by first | rfl | trivial), rfl⟩
 case round =>
  obtain ⟨k, rfl, hk, rfl, hE⟩ := hrel
  by_cases hlt : k < l.length
  ·obtain ⟨b, off, e, hA, hbk, he, hc⟩ := hH.out.at hlt
   have d0 := hc 0 (by omega)
   simp only [Nat.add_zero, Nat.mul_one, encI] at d0
   have heH := hide he
   subst hA
   clear hc he
   by_cases h0 : e = 0
   ·have hZ := hide h0
    clear h0
    have hq : (e == 0) = true := by simp [hZ.out]
    go_wp2_with fail
    refine ⟨⟨k + 1, by go_num, by omega, (by first | rfl | trivial), ?_⟩, by simp [intOf]; omega⟩
    show _ = _
    rw [allE_take id heH.out hE.out]
    exact hZ.out
   ·have hZ := hide h0
    have hq : (e == 0) = false := by simp [h0]
    clear h0
    go_wp2_with fail
    go_ret
    exact ⟨by rw [allE_stop id heH.out hE.out hZ.out]; rfl, rfl⟩
  ·have e : k = l.length := by omega
   have hE2 := hE.out
   rw [e, List.take_length] at hE2
   have hE3 := hide hE2
   clear hE2 e
   go_wp2_with fail
   go_ret
   exact ⟨by rw [hE3.out]; rfl, rfl⟩
end Go.Proofs.YtbjdgepfhhafjaaDoor
namespace Go.Proofs.YtbjdgepfhhafjaaDoor
open Go.RowKit
theorem mem_take_no {D : Type} {l : List D} {k : Nat} {x y : D} (hx : l[k]? = some x) (h : y ∉ l.take k) (hn : x ≠ y) : y ∉ l.take (k + 1) := by
 rw [List.take_add_one, hx]
 intro hm
 rcases List.mem_append.1 hm with hm | hm
 ·exact h hm
 ·have : y = x := by simpa using hm
  exact hn this.symm
theorem all_take_more {D : Type} {p : D → Bool} {l : List D} {k : Nat} {x : D} (hx : l[k]? = some x) (h : (l.take k).all p = true) (hp : p x = true) : (l.take (k + 1)).all p = true := by
 rw [List.take_add_one, hx]; simp_all
theorem all_not {D : Type} {p : D → Bool} {l : List D} {k : Nat} {x : D} (hx : l[k]? = some x) (hp : p x = false) : l.all p = false := by
 rw [List.all_eq_false]
 exact ⟨x, List.mem_of_getElem? hx, by simp [hp]⟩
theorem ris_iff : ∀ l : List Int, risL l = true ↔ ∀ i a b, l[i]? = some a → l[i + 1]? = some b → a < b
 | [] => by simp [risL]
 | [a] => by simp [risL]
 | a :: b :: l => by
  rw [risL, Bool.and_eq_true, ris_iff (b :: l), decide_eq_true_eq]
  constructor
  ·rintro ⟨h1, h2⟩ i x y hx hy
   cases i with
   | zero =>
    have e1 : a = x := by simpa using hx
    have e2 : b = y := by simpa using hy
    omega
   | succ i => exact h2 i x y (by simpa using hx) (by simpa using hy)
  ·intro h
   exact ⟨h 0 a b rfl rfl, fun i x y hx hy => h (i + 1) x y (by simpa using hx) (by simpa using hy)⟩
section
variable {w : World} {B c : Nat} {A : Option Addr}
theorem has_any {l : List Int} {x : Int} (h : Sl w B 1 encI A l) : Calls Tryd.prog 31 #[.slice A l.length c, .int .i64 x] w fun r w' => r = .returned (.bool (decide (x ∈ l))) ∧ w = w' := by
 have hH := hide h
 have hn := h.1
 clear h
 go_enter Tryd.func31, Tryd.ntmps31
 go_wp2_with fail
 go_loopw [5] (fun ii wr => ∃ (k : Nat), ii = .int .i64 (k : Int) ∧ k ≤ l.length ∧ w = wr ∧ Hid (x ∉ l.take k)) (fun ii _ => l.length - (intOf ii).toNat)
 case atStart => exact ⟨0, rfl, Nat.zero_le _, (by first | rfl | trivial), by show ¬ _; simp⟩
 case round =>
  obtain ⟨k, rfl, hk, rfl, hE⟩ := hrel
  by_cases hlt : k < l.length
  ·obtain ⟨b, off, e, hA, hbk, he, hc⟩ := hH.out.at hlt
   have d0 := hc 0 (by omega)
   simp only [Nat.add_zero, Nat.mul_one, encI] at d0
   have heH := hide he
   subst hA
   clear hc he
   by_cases h0 : e = x
   ·have hZ := hide h0
    clear h0
    have hq : (e == x) = true := by simp [hZ.out]
    go_wp2_with fail
    go_ret
    exact ⟨by rw [decide_eq_true (by rw [← hZ.out]; exact List.mem_of_getElem? heH.out)]; rfl, rfl⟩
   ·have hZ := hide h0
    have hq : (e == x) = false := by simp [h0]
    clear h0
    go_wp2_with fail
    exact ⟨⟨k + 1, by go_num, by omega, (by first | rfl | trivial), mem_take_no heH.out hE.out hZ.out⟩, by simp [intOf]; omega⟩
  ·have e : k = l.length := by omega
   have hE2 := hE.out
   rw [e, List.take_length] at hE2
   have hE3 := hide hE2
   clear hE2 e
   go_wp2_with fail
   go_ret
   exact ⟨by rw [decide_eq_false hE3.out]; rfl, rfl⟩
theorem hasText_any {l : List ByteArray} {x : ByteArray} (h : Sl w B 1 encS A l) : Calls Tryd.prog 45 #[.slice A l.length c, .string x] w fun r w' => r = .returned (.bool (decide (x ∈ l))) ∧ w = w' := by
 have hH := hide h
 have hn := h.1
 clear h
 go_enter Tryd.func45, Tryd.ntmps45
 go_wp2_with fail
 go_loopw [5] (fun ii wr => ∃ (k : Nat), ii = .int .i64 (k : Int) ∧ k ≤ l.length ∧ w = wr ∧ Hid (x ∉ l.take k)) (fun ii _ => l.length - (intOf ii).toNat)
 case atStart => exact ⟨0, rfl, Nat.zero_le _, (by first | rfl | trivial), by show ¬ _; simp⟩
 case round =>
  obtain ⟨k, rfl, hk, rfl, hE⟩ := hrel
  by_cases hlt : k < l.length
  ·obtain ⟨b, off, e, hA, hbk, he, hc⟩ := hH.out.at hlt
   have d0 := hc 0 (by omega)
   simp only [Nat.add_zero, Nat.mul_one, encS] at d0
   have heH := hide he
   subst hA
   clear hc he
   by_cases h0 : e = x
   ·have hZ := hide h0
    clear h0
    have hq : (e.toList == x.toList) = true := by rw [bytes_eq]; exact decide_eq_true hZ.out
    go_wp2_with fail
    go_ret
    exact ⟨by rw [decide_eq_true (by rw [← hZ.out]; exact List.mem_of_getElem? heH.out)]; rfl, rfl⟩
   ·have hZ := hide h0
    have hq : (e.toList == x.toList) = false := by rw [bytes_eq]; exact decide_eq_false h0
    clear h0
    go_wp2_with fail
    exact ⟨⟨k + 1, by go_num, by omega, (by first | rfl | trivial), mem_take_no heH.out hE.out hZ.out⟩, by simp [intOf]; omega⟩
  ·have e : k = l.length := by omega
   have hE2 := hE.out
   rw [e, List.take_length] at hE2
   have hE3 := hide hE2
   clear hE2 e
   go_wp2_with fail
   go_ret
   exact ⟨by rw [decide_eq_false hE3.out]; rfl, rfl⟩
end
end Go.Proofs.YtbjdgepfhhafjaaDoor
namespace Go.Proofs.YtbjdgepfhhafjaaDoor
open Go.RowKit
theorem setE_out {l : List Int} {n : Int} (h : l.all (inE · n) = false) : setE l n = 5 := by
 unfold setE
 rw [h]
 rfl
theorem setE_fall {l : List Int} {n : Int} (h : l.all (inE · n) = true) (hr : risL l = false) : setE l n = 1 := by
 unfold setE
 rw [h, hr]
 rfl
theorem setE_ok {l : List Int} {n : Int} (h : l.all (inE · n) = true) (hr : risL l = true) : setE l n = 0 := by
 unfold setE
 rw [h, hr]
 rfl
def RisTo (l : List Int) (k : Nat) : Prop := ∀ i a b, i + 1 ≤ k → l[i]? = some a → l[i + 1]? = some b → a < b
theorem RisTo.next {l : List Int} {j : Nat} {x y : Int} (h : RisTo l j) (hx : l[j]? = some x) (hy : l[j + 1]? = some y) (hlt : x < y) : RisTo l (j + 1) := fun i a b hi ha hb => by
 by_cases e : i = j
 ·subst e
  rw [hx] at ha
  rw [hy] at hb
  have e1 := Option.some.inj ha
  have e2 := Option.some.inj hb
  omega
 ·exact h i a b (by omega) ha hb
theorem RisTo.end_ {l : List Int} {j : Nat} (h : RisTo l j) (hj : l.length ≤ j + 1) : risL l = true := (ris_iff l).2 fun i a b ha hb => h i a b (by have := (List.getElem?_eq_some_iff.1 hb).1; omega) ha hb
theorem ris_break {l : List Int} {j : Nat} {x y : Int} (hx : l[j]? = some x) (hy : l[j + 1]? = some y) (hlt : y ≤ x) : risL l = false := by
 cases h : risL l
 ·rfl
 ·have := (ris_iff l).1 h j x y hx hy
  omega
section
variable {w : World} {c : Nat} {A : Option Addr}
theorem set_any {l : List Int} {n : Int} (h : Sl w w.heap.size 1 encI A l) : Calls Tryd.prog 22 #[.slice A l.length c, .int .i64 n] w (Ret fun r w' => r = .int .i64 (setE l n) ∧ Below w.heap.size w w') := by
 have hH := hide h
 have hn := h.1
 clear h
 go_enter Tryd.func22, Tryd.ntmps22
 go_wp2_with fail
 go_loopw [10] (fun ii wr => ∃ (k : Nat), ii = .int .i64 (k : Int) ∧ k ≤ l.length ∧ w = wr ∧ Hid ((l.take k).all (inE · n) = true)) (fun ii _ => l.length - (intOf ii).toNat)
 case atStart => exact ⟨0, rfl, Nat.zero_le _, (by first | rfl | trivial), by show _ = _; simp⟩
 case round =>
  obtain ⟨k, rfl, hk, rfl, hE⟩ := hrel
  by_cases hlt : k < l.length
  ·obtain ⟨b, off, e, hA, hbk, he, hc⟩ := hH.out.at hlt
   have d0 := hc 0 (by omega)
   simp only [Nat.add_zero, Nat.mul_one, encI] at d0
   have heH := hide he
   subst hA
   clear hc he
   by_cases h0 : e < 0
   ·have hZ := hide (all_not (p := (inE · n)) heH.out (show inE e n = false by simp [inE]; omega))
    go_wp2_with fail
    go_ret
    exact ⟨by rw [setE_out hZ.out]; rfl, Below.refl _ _⟩
   ·by_cases h1 : n ≤ e
    ·have hZ := hide (all_not (p := (inE · n)) heH.out (show inE e n = false by simp [inE]; omega))
     go_wp2_with fail
     go_ret
     exact ⟨by rw [setE_out hZ.out]; rfl, Below.refl _ _⟩
    ·have hZ := hide (all_take_more (p := (inE · n)) heH.out hE.out (show inE e n = true by simp [inE]; omega))
     go_wp2_with fail
     exact ⟨⟨k + 1, by go_num, by omega, (by first | rfl | trivial), hZ.out⟩, by simp [intOf]; omega⟩
  ·have e : k = l.length := by omega
   have hE2 := hE.out
   rw [e, List.take_length] at hE2
   have hE3 := hide hE2
   clear hE2 e hE
   go_wp2_with fail
   go_loopw [7] (fun ii wr => ∃ (j : Nat), ii = .int .i64 ((j : Int) + 1) ∧ j ≤ l.length ∧ Below w.heap.size w wr ∧ Hid (RisTo l j)) (fun ii _ => l.length - (intOf ii).toNat)
   case atStart => exact ⟨0, rfl, Nat.zero_le _, Below.refl _ _, fun i a b hi _ _ => by omega⟩
   case round =>
    obtain ⟨j, rfl, hj, hB, hR⟩ := hrel
    have hHr := hide (hH.out.below hB)
    have hj1 : ¬ (j : Int) + 1 < 0 := by omega
    by_cases hlt : j + 1 < l.length
    ·obtain ⟨b, off, y, hA, hbk, hy, hc⟩ := hHr.out.at hlt
     obtain ⟨b', off', x, hA', -, hx, hc'⟩ := hHr.out.at (k := j) (by omega)
     rw [hA] at hA'
     injection hA' with hA'
     injection hA' with e1 e2
     subst e1 e2
     have d0 := hc 0 (by omega)
     have d1 := hc' 0 (by omega)
     simp only [Nat.add_zero, Nat.mul_one, encI] at d0 d1
     have hxH := hide hx
     have hyH := hide hy
     have hBd := hide (hB.trans ((drewB wr).mono hB.size))
     subst hA
     clear hc hc' hx hy
     by_cases hxy : y ≤ x
     ·have hZ := hide (ris_break hxH.out hyH.out hxy)
      go_wp2_with fail
      refine Reg.cN [0, 0, 3, 7, 0, 0, 32, 112, 240, 511] ?_
      intro Qf hQf
      go_wp2_with fail
      refine ⟨rfl, ?_⟩
      go_wp2_with fail
      go_ret
      exact ⟨by rw [setE_fall hE3.out hZ.out]; rfl, hBd.out⟩
     ·have hZ := hide (hR.out.next hxH.out hyH.out (by omega))
      go_wp2_with fail
      refine Reg.cN [0, 0, 3, 7, 0, 0, 32, 112, 240, 511] ?_
      intro Qf hQf
      go_wp2_with fail
      refine ⟨rfl, ?_⟩
      go_wp2_with fail
      exact ⟨⟨j + 1, by go_num, by omega, hBd.out, hZ.out⟩, by simp [intOf]; omega⟩
    ·have hZ := hide (hR.out.end_ (by omega))
     have hBH := hide hB
     go_wp2_with fail
     go_ret
     exact ⟨by rw [setE_ok hE3.out hZ.out]; rfl, hBH.out⟩
theorem refset_any {l : List Int} {n : Nat} (hn0 : n ≤ 9223372036854775807) (h : Sl w w.heap.size 1 encI A l) : Calls Tryd.prog 30 #[.slice A l.length c, .int .i64 (n : Int)] w (Ret fun r w' => r = .int .i64 (setE l (n : Int)) ∧ Below w.heap.size w w') := by
 have hH := hide h
 have hn := h.1
 clear h
 go_enter Tryd.func30, Tryd.ntmps30
 go_wp2_with fail
 go_loopw [5] (fun ii wr => ∃ (k : Nat), ii = .int .i64 (k : Int) ∧ k ≤ l.length ∧ w = wr ∧ Hid ((l.take k).all (inE · (n : Int)) = true)) (fun ii _ => l.length - (intOf ii).toNat)
 case atStart => exact ⟨0, rfl, Nat.zero_le _, (by first | rfl | trivial), by show _ = _; simp⟩
 case round =>
  obtain ⟨k, rfl, hk, rfl, hE⟩ := hrel
  by_cases hlt : k < l.length
  ·obtain ⟨b, off, e, hA, hbk, he, hc⟩ := hH.out.at hlt
   have d0 := hc 0 (by omega)
   simp only [Nat.add_zero, Nat.mul_one, encI] at d0
   have heH := hide he
   subst hA
   clear hc he
   have hin := hide (inE_inC e (n : Int)).symm
   cases hv : inE e (n : Int)
   ·have hZ := hide (all_not (p := (inE · (n : Int))) heH.out hv)
    have hvH := hide hv
    clear hv
    go_wp2_with (go_at_call 32; refine (within2_any _ _ _ _).mono ?_; rintro r w' ⟨rfl, rfl⟩; rw [hin.out, hvH.out])
    go_ret
    exact ⟨by rw [setE_out hZ.out]; rfl, Below.refl _ _⟩
   ·have hZ := hide (all_take_more (p := (inE · (n : Int))) heH.out hE.out hv)
    have hvH := hide hv
    clear hv
    go_wp2_with (go_at_call 32; refine (within2_any _ _ _ _).mono ?_; rintro r w' ⟨rfl, rfl⟩; rw [hin.out, hvH.out])
    exact ⟨⟨k + 1, by go_num, by omega, (by first | rfl | trivial), hZ.out⟩, by simp [intOf]; omega⟩
  ·have e : k = l.length := by omega
   have hE2 := hE.out
   rw [e, List.take_length] at hE2
   have hE3 := hide hE2
   clear hE2 e hE
   go_wp2_with fail
   go_loopw [6] (fun ii wr => ∃ (j : Nat), ii = .int .i64 ((j : Int) + 1) ∧ j ≤ l.length ∧ Below w.heap.size w wr ∧ Hid (RisTo l j)) (fun ii _ => l.length - (intOf ii).toNat)
   case atStart => exact ⟨0, rfl, Nat.zero_le _, Below.refl _ _, fun i a b hi _ _ => by omega⟩
   case round =>
    obtain ⟨j, rfl, hj, hB, hR⟩ := hrel
    have hHr := hide (hH.out.below hB)
    have hj1 : ¬ (j : Int) + 1 < 0 := by omega
    by_cases hlt : j + 1 < l.length
    ·obtain ⟨b, off, y, hA, hbk, hy, hc⟩ := hHr.out.at hlt
     obtain ⟨b', off', x, hA', -, hx, hc'⟩ := hHr.out.at (k := j) (by omega)
     rw [hA] at hA'
     injection hA' with hA'
     injection hA' with e1 e2
     subst e1 e2
     have d0 := hc 0 (by omega)
     have d1 := hc' 0 (by omega)
     simp only [Nat.add_zero, Nat.mul_one, encI] at d0 d1
     have hxH := hide hx
     have hyH := hide hy
     have hBd := hide (hB.trans ((drewB wr).mono hB.size))
     subst hA
     clear hc hc' hx hy
     by_cases hxy : y ≤ x
     ·have hZ := hide (ris_break hxH.out hyH.out hxy)
      go_wp2_with fail
      refine Reg.cN [0, 0, 3, 7, 0, 0, 32, 112, 240, 511] ?_
      intro Qf hQf
      go_wp2_with fail
      refine ⟨rfl, ?_⟩
      go_wp2_with fail
      go_ret
      exact ⟨by rw [setE_fall hE3.out hZ.out]; rfl, hBd.out⟩
     ·have hZ := hide (hR.out.next hxH.out hyH.out (by omega))
      go_wp2_with fail
      refine Reg.cN [0, 0, 3, 7, 0, 0, 32, 112, 240, 511] ?_
      intro Qf hQf
      go_wp2_with fail
      refine ⟨rfl, ?_⟩
      go_wp2_with fail
      exact ⟨⟨j + 1, by go_num, by omega, hBd.out, hZ.out⟩, by simp [intOf]; omega⟩
    ·have hZ := hide (hR.out.end_ (by omega))
     have hBH := hide hB
     go_wp2_with fail
     go_ret
     exact ⟨by rw [setE_ok hE3.out hZ.out]; rfl, hBH.out⟩
end
end Go.Proofs.YtbjdgepfhhafjaaDoor
namespace Go.Proofs.YtbjdgepfhhafjaaDoor
open Go.RowKit
def encU (s : Nat) : Value := .int .u64 (s : Int)
theorem keyU : KeyOK Tryd.prog 92 encU := keyOK_int .u64 Tryd.underlying92 (fun s : Nat => (s : Int)) (fun a b h => by omega)
theorem zero3 (w : World) : (zeroValue 3).run Tryd.prog w = .ok (.int .i64 0) w := by kernel_rfl
theorem info70 : (Tryd.prog.info? 92).map (fun i => (i.zero, i.size, i.bytes)) = some (some (.int .u64 0), 1, 8) := by kernel_rfl
theorem row69 : RowTy Tryd.prog 93 92 1 := rowTy_of Tryd.underlying93 info70 rfl (by omega) (by omega)
def meetL {S : Type} [DecidableEq S] (l : List S) (s : S) : List S := if s ∈ l then l else l ++ [s]
structure BldU (w : World) (base gb gm : Nat) (c0 c1 c4 c5 c6 : Value) (vl : Value) (l : List Nat) : Prop where
 blk : Blk w gb 100 #[c0, c1, .map (some gm), vl, c4, c5, c6]
 map : IdxMap w gm (l.map encU)
 row : w.ownsRow base 92 1 vl l.length (l.map encU)
theorem meetU_old (w : World) (base gb gm : Nat) (c0 c1 c4 c5 c6 vl : Value) (l : List Nat) (s : Nat) (h : BldU w base gb gm c0 c1 c4 c5 c6 vl l) (hs : s ∈ l) :
  Calls Tryd.prog 73 #[.pointer (some ⟨gb, 0, none⟩), .int .u64 (s : Int)] w fun e w' => e = .returned (.int .i64 (l.idxOf s)) ∧ w = w' := by
 have hc := h.blk.cell
 have hlk := run_idx_lookup keyU Tryd.underlying98 zero3 h.map s
 simp only [hs, if_true, decide_true, encU] at hlk
 go_enter Tryd.func73, Tryd.ntmps73
 go_wp2
 go_ret
 exact ⟨rfl, rfl⟩
theorem meetU_new (w : World) (base gb gm : Nat) (c0 c1 c4 c5 c6 vl : Value) (l : List Nat) (s : Nat) (h : BldU w base gb gm c0 c1 c4 c5 c6 vl l) (hs : s ∉ l) (hlen : l.length < 60000) (hbase : base ≤ w.heap.size) :
  Calls Tryd.prog 73 #[.pointer (some ⟨gb, 0, none⟩), .int .u64 (s : Int)] w (Ret fun v w' => v = .int .i64 (l.length : Int) ∧ ∃ vl', BldU w' base gb gm c0 c1 c4 c5 c6 vl' (l ++ [s]) ∧
   Kept w w' (fun k => k = gb ∨ k = gm ∨ vl.ownBlock = some k) ∧ Moved w vl vl') := by
 have hc := h.blk.cell
 have hlk := run_idx_lookup keyU Tryd.underlying98 zero3 h.map s
 simp only [hs, if_false, decide_false, encU] at hlk
 obtain ⟨wm, hup, hm1, hm2, -⟩ := run_idx_store keyU Tryd.underlying98 h.map s hs
 obtain ⟨A, c, rfl⟩ := slice_of_own h.row
 simp only [encU] at hup
 have hrow : wm.ownsRow base 92 1 (.slice A l.length c) l.length (l.map encU) := h.row.kept hm2 (.inr fun e => own_map_ne h.row h.map e)
 have hblk : Blk wm gb 100 #[c0, c1, .map (some gm), .slice A l.length c, c4, c5, c6] := h.blk.kept (Kept.of_grown hm2) (fun e => blk_map_ne h.blk h.map (Option.some.inj e).symm)
 have hc2 := hblk.cell
 have hsz := hblk.lt
 have hgmne : gm ≠ gb := fun e => blk_map_ne h.blk h.map e.symm
 have hms := hm2.size
 go_enter Tryd.func73, Tryd.ntmps73
 go_wp2_with (at_builtin; refine wpList_app_new row69 rfl _ _ rfl base (.slice A l.length c) l.length _ rfl hrow [.int .u64 (s : Int)] 1 rfl rfl (by simp [Value.oneCell']) (by omega) (by omega) ?_; intro g cap w1 hown hk1 hmv hg; have hblk2 := hblk.kept hk1 (fun e => own_blk_ne hrow hblk (by decide) e); have hc3 := hblk2.cell; have hf3 := hblk2.frozen)
 go_ret
 have hkA : Kept wm (w1.setCell ⟨gb, 3, none⟩ (.slice (some ⟨g, 0, none⟩) (l.length + 1) cap)) (fun k => k = gb ∨ (Value.slice A l.length c).ownBlock = some k) := (hk1.mono (fun _ _ h => .inr h)).setCell (fun _ => .inl rfl) _
 have hkB := (Kept.refl w1 (fun k => k = gb)).setCell (p := ⟨gb, 3, none⟩) (fun _ => rfl) (.slice (some ⟨g, 0, none⟩) (l.length + 1) cap)
 refine ⟨rfl, .slice (some ⟨g, 0, none⟩) (l.length + 1) cap, ⟨hblk2.set_ 3 _, hm1.kept hkA (fun h => h.elim hgmne (own_map_ne hrow hm1)), ?_⟩, ?_, (Moved.refl w _).trans hms hmv⟩
 ·have := hkB.ownsRow hown (fun g' hg' e => own_blk_ne hown hblk2 (by decide) (by rw [← e]; exact hg'))
  simpa [encU] using this
 ·refine ((Kept.of_grown hm2).mono (fun b _ hb => .inr (.inl (Option.some.inj hb).symm))).trans hkA ?_
  rintro b _ (hb | hb)
  ·exact .inl hb
  ·exact .inr (.inr hb)
theorem meetU (w : World) (base gb gm : Nat) (c0 c1 c4 c5 c6 vl : Value) (l : List Nat) (s : Nat) (h : BldU w base gb gm c0 c1 c4 c5 c6 vl l) (hlen : l.length < 60000) (hbase : base ≤ w.heap.size) :
  Calls Tryd.prog 73 #[.pointer (some ⟨gb, 0, none⟩), .int .u64 (s : Int)] w (Ret fun v w' => v = .int .i64 ((meetL l s).idxOf s : Int) ∧ ∃ vl', BldU w' base gb gm c0 c1 c4 c5 c6 vl' (meetL l s) ∧
   Kept w w' (fun k => k = gb ∨ k = gm ∨ vl.ownBlock = some k) ∧ Moved w vl vl') := by
 by_cases hs : s ∈ l
 ·refine Calls.ret_eq (v := .int .i64 ((meetL l s).idxOf s : Int)) ((meetU_old w base gb gm c0 c1 c4 c5 c6 vl l s h hs).mono fun e w' ⟨he, hw⟩ => ?_)
  subst hw
  simp only [meetL, hs, if_true]
  exact ⟨he, by simp, vl, h, Kept.refl _ _, Moved.refl _ _⟩
 ·refine (Calls.ret (meetU_new w base gb gm c0 c1 c4 c5 c6 vl l s h hs hlen hbase) fun v w' hv => ?_)
  simp only [Ret, meetL, hs, if_false]
  have : (l ++ [s]).idxOf s = l.length := by rw [List.idxOf_append, if_neg hs]; simp
  rw [this]
  exact hv
end Go.Proofs.YtbjdgepfhhafjaaDoor
namespace Go.Proofs.YtbjdgepfhhafjaaDoor
open Go.RowKit
def loopsOf : Code → List Code
 | .loop c => c :: loopsOf c
 | .seq a b => loopsOf a ++ loopsOf b
 | .block _ c => loopsOf c
 | .scope c => loopsOf c
 | .cond _ a b => loopsOf a ++ loopsOf b
 | _ => []
def loopBody (f : Func) (k : Nat) : Code := match f.body with
 | some c => (loopsOf c).getD k .skip
 | none => .skip
section
variable {S : Type} [DecidableEq S] (L : Nat) (leaf : Nat → S) (br : Nat → S → S → S)
def Rn : Nat → S → Prop
 | 0, s => ∃ x, x < L ∧ s = leaf x
 | n + 1, s => Rn n s ∨ ∃ x a b, x < L ∧ Rn n a ∧ Rn n b ∧ s = br x a b
structure Mid (l0 l : List S) : Prop where
 pre : l0 <+: l
 nodup : l.Nodup
 from_ : ∀ s ∈ l, s ∈ l0 ∨ ∃ x a b, x < L ∧ a ∈ l0 ∧ b ∈ l0 ∧ s = br x a b
variable {L leaf br}
theorem mem_meetL {l : List S} {s t : S} : t ∈ meetL l s ↔ t ∈ l ∨ t = s := by
 unfold meetL
 split
 ·rename_i h
  constructor
  ·exact .inl
  ·rintro (h' | rfl)
   ·exact h'
   ·exact h
 ·simp
theorem prefix_meetL (l : List S) (s : S) : l <+: meetL l s := by
 unfold meetL
 split
 ·exact List.prefix_refl _
 ·exact List.prefix_append _ _
theorem nodup_meetL {l : List S} (h : l.Nodup) (s : S) : (meetL l s).Nodup := by
 unfold meetL
 split
 ·exact h
 ·rename_i hs
  rw [List.nodup_append]
  exact ⟨h, by simp, fun a ha b hb => by simp at hb; subst hb; rintro rfl; exact hs ha⟩
theorem length_meetL (l : List S) (s : S) : (meetL l s).length ≤ l.length + 1 := by
 unfold meetL
 split <;> simp
theorem get_meetL (l : List S) (s : S) : (meetL l s)[(meetL l s).idxOf s]? = some s := by
 have hm : s ∈ meetL l s := mem_meetL.2 (.inr rfl)
 rw [List.getElem?_eq_getElem (List.idxOf_lt_length_of_mem hm), List.getElem_idxOf]
omit [DecidableEq S] in
theorem Mid.refl {l : List S} (h : l.Nodup) : Mid L br l l := ⟨List.prefix_refl _, h, fun _ hs => .inl hs⟩
theorem Mid.meet {l0 l : List S} (h : Mid L br l0 l) {x : Nat} {a b : S} (hx : x < L) (ha : a ∈ l0) (hb : b ∈ l0) : Mid L br l0 (meetL l (br x a b)) :=
 ⟨h.pre.trans (prefix_meetL _ _), nodup_meetL h.nodup _, fun s hs => by
  rcases mem_meetL.1 hs with hs | rfl
  ·exact h.from_ s hs
  ·exact .inr ⟨x, a, b, hx, ha, hb, rfl⟩⟩
omit [DecidableEq S] in
theorem prefix_get {l l' : List S} (h : l <+: l') {i : Nat} {s : S} (hi : l[i]? = some s) : l'[i]? = some s := by
 obtain ⟨t, rfl⟩ := h
 rw [List.getElem?_append_left (by
  rcases Nat.lt_or_ge i l.length with h | h
  ·exact h
  ·rw [List.getElem?_eq_none h] at hi; cases hi)]
 exact hi
end
def RowOK {S : Type} (br : Nat → S → S → S) (l : List S) (i j : Nat) (row : List Nat) : Prop :=
 ∀ (x e : Nat), row[x]? = some e → ∃ s u, l[i]? = some s ∧ l[j]? = some u ∧ l[e]? = some (br x s u)
def TabOK {S : Type} (L : Nat) (br : Nat → S → S → S) (l : List S) (cnt : Nat → Nat) (t : List (List (List Nat))) : Prop :=
 ∀ (i : Nat) (r : List (List Nat)), t[i]? = some r → r.length = cnt i ∧ ∀ (j : Nat) (row : List Nat), r[j]? = some row → row.length = L ∧ RowOK br l i j row
def LeafOK {S : Type} (leaf : Nat → S) (l : List S) (lf : List Nat) : Prop := ∀ (x e : Nat), lf[x]? = some e → l[e]? = some (leaf x)
theorem RowOK.grow {S : Type} {br : Nat → S → S → S} {l l' : List S} {i j : Nat} {row : List Nat} (h : RowOK br l i j row) (hp : l <+: l') : RowOK br l' i j row := fun x e he => by
 obtain ⟨s, u, h1, h2, h3⟩ := h x e he
 exact ⟨s, u, prefix_get hp h1, prefix_get hp h2, prefix_get hp h3⟩
theorem TabOK.grow {S : Type} {L : Nat} {br : Nat → S → S → S} {l l' : List S} {cnt : Nat → Nat} {t : List (List (List Nat))} (h : TabOK L br l cnt t) (hp : l <+: l') : TabOK L br l' cnt t := fun i r hr =>
 ⟨(h i r hr).1, fun j row hj => ⟨((h i r hr).2 j row hj).1, ((h i r hr).2 j row hj).2.grow hp⟩⟩
theorem LeafOK.grow {S : Type} {leaf : Nat → S} {l l' : List S} {lf : List Nat} (h : LeafOK leaf l lf) (hp : l <+: l') : LeafOK leaf l' lf := fun x e he => prefix_get hp (h x e he)
theorem RowOK.snoc {S : Type} {br : Nat → S → S → S} {l : List S} {i j e : Nat} {row : List Nat} {s u : S} (h : RowOK br l i j row) (hi : l[i]? = some s) (hj : l[j]? = some u) (he : l[e]? = some (br row.length s u)) : RowOK br l i j (row ++ [e]) := by
 intro x e' hx
 by_cases hlt : x < row.length
 ·rw [List.getElem?_append_left hlt] at hx
  exact h x e' hx
 ·rw [List.getElem?_append_right (by omega)] at hx
  have hxe : x = row.length := by
   rcases Nat.lt_or_ge 0 (x - row.length) with h0 | h0
   ·rw [List.getElem?_eq_none (by simp; omega)] at hx; cases hx
   ·omega
  subst hxe
  simp at hx
  subst hx
  exact ⟨s, u, hi, hj, he⟩
theorem LeafOK.snoc {S : Type} {leaf : Nat → S} {l : List S} {e : Nat} {lf : List Nat} (h : LeafOK leaf l lf) (he : l[e]? = some (leaf lf.length)) : LeafOK leaf l (lf ++ [e]) := by
 intro x e' hx
 by_cases hlt : x < lf.length
 ·rw [List.getElem?_append_left hlt] at hx
  exact h x e' hx
 ·rw [List.getElem?_append_right (by omega)] at hx
  have hxe : x = lf.length := by
   rcases Nat.lt_or_ge 0 (x - lf.length) with h0 | h0
   ·rw [List.getElem?_eq_none (by simp; omega)] at hx; cases hx
   ·omega
  subst hxe
  simp at hx
  subst hx
  exact he
def encN (n : Nat) : Value := .int .i64 (n : Int)
def IntRow (w : World) (base : Nat) (v : Value) (xs : List Nat) : Prop := w.ownsRow base 3 1 v xs.length (xs.map encN)
def NoTy (w : World) (X : Nat → Prop) (ts : List TypeId) : Prop := ∀ g cs e, X g → w.heap[g]? = some (.cells cs e (0, 0)) → e ∉ ts
theorem own_kept {w w' : World} {X : Nat → Prop} {ts : List TypeId} (hX : NoTy w X ts) (hk : Kept w w' X) {base n size : Nat} {e : TypeId} {v : Value} {xs : List Value} (h : w.ownsRow base e size v n xs) (he : e ∈ ts) : w'.ownsRow base e size v n xs :=
 hk.ownsRow h fun g hg hx => by
  rcases h.2 with ⟨rfl, _⟩ | ⟨g', cap, cur, rfl, _, hh, _⟩
  ·simp [Value.ownBlock] at hg
  ·have : g' = g := by simpa [Value.ownBlock] using hg
   subst this
   exact hX _ _ _ hx hh he
def RowRow (w : World) (base : Nat) (v : Value) (rows : List (List Nat)) : Prop :=
 ∃ us : List Value, us.length = rows.length ∧ w.ownsRow base 24 1 v rows.length us ∧ ∀ (i : Nat) (u : Value) (r : List Nat), us[i]? = some u → rows[i]? = some r → IntRow w base u r
def Tab (w : World) (base : Nat) (v : Value) (t : List (List (List Nat))) : Prop :=
 ∃ us : List Value, us.length = t.length ∧ w.ownsRow base 81 1 v t.length us ∧ (∀ (i : Nat) (u : Value) (r : List (List Nat)), us[i]? = some u → t[i]? = some r → RowRow w base u r) ∧
  ∀ (i j : Nat) (u u' : Value) (g : Nat), us[i]? = some u → us[j]? = some u' → u.ownBlock = some g → u'.ownBlock = some g → i = j
theorem IntRow.kept {w w' : World} {X : Nat → Prop} {ts : List TypeId} (hX : NoTy w X ts) (hk : Kept w w' X) {base : Nat} {v : Value} {xs : List Nat} (h : IntRow w base v xs) (he : 3 ∈ ts) : IntRow w' base v xs := own_kept hX hk h he
theorem RowRow.kept {w w' : World} {X : Nat → Prop} {ts : List TypeId} (hX : NoTy w X ts) (hk : Kept w w' X) {base : Nat} {v : Value} {xs : List (List Nat)} (h : RowRow w base v xs) (he : 3 ∈ ts) (he' : 24 ∈ ts) : RowRow w' base v xs := by
 obtain ⟨us, h1, h2, h3⟩ := h
 exact ⟨us, h1, own_kept hX hk h2 he', fun i u r hu hr => (h3 i u r hu hr).kept hX hk he⟩
theorem Tab.kept {w w' : World} {X : Nat → Prop} {ts : List TypeId} (hX : NoTy w X ts) (hk : Kept w w' X) {base : Nat} {v : Value} {t : List (List (List Nat))} (h : Tab w base v t) (he : 3 ∈ ts) (he' : 24 ∈ ts) (he'' : 81 ∈ ts) : Tab w' base v t := by
 obtain ⟨us, h1, h2, h3, h4⟩ := h
 exact ⟨us, h1, own_kept hX hk h2 he'', fun i u r hu hr => (h3 i u r hu hr).kept hX hk he he', h4⟩
theorem BldU.noTy {w : World} {base gb gm : Nat} {c0 c1 c4 c5 c6 vl : Value} {l : List Nat} (h : BldU w base gb gm c0 c1 c4 c5 c6 vl l) : NoTy w (fun k => k = gb ∨ k = gm ∨ vl.ownBlock = some k) [3, 4, 22, 82, 104] := by
 rintro g cs e (rfl | rfl | hg) hh
 ·have := h.blk
  unfold Blk at this
  rw [this] at hh
  injection hh with hh
  injection hh with _ h2
  subst h2
  decide
 ·obtain ⟨es, clock, h1, _⟩ := h.map
  rw [h1] at hh
  cases hh
 ·rcases h.row.2 with ⟨rfl, _⟩ | ⟨g', cap, cur, rfl, _, h1, _⟩
  ·simp [Value.ownBlock] at hg
  ·have : g' = g := by simpa [Value.ownBlock] using hg
   subst this
   rw [h1] at hh
   injection hh with hh
   injection hh with _ h2
   subst h2
   decide
end Go.Proofs.YtbjdgepfhhafjaaDoor
namespace Go.Proofs.YtbjdgepfhhafjaaDoor
open Go.RowKit
structure ClosU (wb : World) (gb L : Nat) (cap4 cap5 cap6 : Value) (leaf : Nat → Nat) (br : Nat → Nat → Nat → Nat) (acc : Nat → Bool) (P : Nat → Prop) : Prop where
 fl : ∀ w', Kept wb w' (fun k => k = gb) → ∀ x : Nat, x < L → Calls Tryd.prog 50 #[.int .i64 x, cap4] w' (Ret fun v w'' => v = .int .u64 (leaf x : Int) ∧ Below w'.heap.size w' w'')
 fb : ∀ w', Kept wb w' (fun k => k = gb) → ∀ (x s t : Nat), x < L → P s → P t → Calls Tryd.prog 51 #[.int .i64 x, .int .u64 s, .int .u64 t, cap5] w' (Ret fun v w'' => v = .int .u64 (br x s t : Int) ∧ Below w'.heap.size w' w'')
 fa : ∀ w', Kept wb w' (fun k => k = gb) → ∀ s : Nat, P s → Calls Tryd.prog 52 #[.int .u64 s, cap6] w' (Ret fun v w'' => v = .bool (acc s) ∧ Below w'.heap.size w' w'')
 pleaf : ∀ x, x < L → P (leaf x)
 pbr : ∀ x s t, x < L → P s → P t → P (br x s t)
theorem BldU.below {w w' : World} {base gb gm : Nat} {c0 c1 c4 c5 c6 vl : Value} {l : List Nat} (h : BldU w base gb gm c0 c1 c4 c5 c6 vl l) (hb : Below w.heap.size w w') : BldU w' base gb gm c0 c1 c4 c5 c6 vl l :=
 ⟨h.blk.kept (Kept.of_below hb fun _ => False) id, h.map.kept (Kept.of_below hb fun _ => False) id, (Kept.of_below hb fun _ => False).ownsRow h.row fun _ _ => id⟩
def fillC (L : Nat) (row : List Nat) : Array Value := (row.map encN ++ List.replicate (L - row.length) (Value.int .i64 0)).toArray
theorem fillC_set {L : Nat} {row : List Nat} (h : row.length < L) (e : Nat) : (fillC L row).setIfInBounds row.length (.int .i64 e) = fillC L (row ++ [e]) := by
 have h2 : List.replicate (L - row.length) (Value.int .i64 0) = .int .i64 0 :: List.replicate (L - (row.length + 1)) (.int .i64 0) := by
  rw [← List.replicate_succ]; congr 1; omega
 unfold fillC
 rw [h2]
 simp [encN]
theorem fillC_get {L : Nat} {row : List Nat} (h : row.length < L) : (fillC L row)[row.length]? = some (.int .i64 0) := by
 unfold fillC
 simp
 rw [List.getElem?_append_right (by simp), List.getElem?_replicate]
 simp; omega
theorem lt_of_get {D : Type} {l : List D} {k : Nat} {x : D} (h : l[k]? = some x) : k < l.length := by
 rcases Nat.lt_or_ge k l.length with hk | hk
 ·exact hk
 ·rw [List.getElem?_eq_none hk] at h; cases h
theorem map_get {D E : Type} {f : D → E} {l : List D} {k : Nat} {x : D} (h : l[k]? = some x) : (l.map f)[k]? = some (f x) := by rw [List.getElem?_map, h]; rfl
theorem RowOK.nil {S : Type} {br : Nat → S → S → S} {l : List S} {i j : Nat} : RowOK br l i j [] := fun x e h => by simp at h
theorem own_get {w : World} {base n : Nat} {e : TypeId} {v : Value} {xs : List Value} (h : w.ownsRow base e 1 v n xs) {k : Nat} {u : Value} (hk : xs[k]? = some u) :
  ∃ g cap, v = .slice (some ⟨g, 0, none⟩) n cap ∧ w.cell? ⟨g, k, none⟩ = some u := by
 obtain ⟨hl, hx⟩ := h
 have hkl := lt_of_get hk
 rcases hx with ⟨_, rfl⟩ | ⟨g, cap, cur, rfl, hb, hh, hc, hm, hs, ht⟩
 ·omega
 ·refine ⟨g, cap, rfl, ?_⟩
  rw [cell_of_row w g k cur e (0, 0) hh, ← hk, ← ht, List.getElem?_take]
  simp; omega
theorem own_base {w : World} {base size n : Nat} {e : TypeId} {v : Value} {xs : List Value} (h : w.ownsRow base e size v n xs) {k : Nat} (hk : v.ownBlock = some k) : base ≤ k := by
 rcases h.2 with ⟨rfl, _⟩ | ⟨g, cap, cur, rfl, hb, _⟩
 ·simp [Value.ownBlock] at hk
 ·have : g = k := by simpa [Value.ownBlock] using hk
  omega
theorem BldU.tops {w w0 : World} {gb gm gr : Nat} {c0 c1 c4 c5 c6 vl : Value} {l : List Nat} (h : BldU w w0.heap.size gb gm c0 c1 c4 c5 c6 vl l) (hgm : w0.heap.size ≤ gm) (hgr : w0.heap.size ≤ gr) :
  ∀ b, b < w0.heap.size → (b = gb ∨ b = gm ∨ b = gr ∨ vl.ownBlock = some b) → b = gb := by
 rintro b hb (h1 | h1 | h1 | h1)
 ·exact h1
 ·omega
 ·omega
 ·have := own_base h.row h1; omega
theorem BldU.not {w : World} {base gb gm gr : Nat} {c0 c1 c4 c5 c6 vl : Value} {l : List Nat} {t : TypeId} {cs : Array Value} (h : BldU w base gb gm c0 c1 c4 c5 c6 vl l) (hr : Blk w gr t cs) (h1 : t ≠ 100) (h2 : 92 ≠ t) : ¬ (gr = gb ∨ gr = gm ∨ vl.ownBlock = some gr) := by
 rintro (e | e | e)
 ·exact hr.ne_ h.blk h1 e
 ·exact blk_map_ne hr h.map e
 ·exact own_blk_ne h.row hr h2 e
theorem BldU.setCell {w : World} {base gb gm gr k : Nat} {c0 c1 c4 c5 c6 vl : Value} {l : List Nat} (h : BldU w base gb gm c0 c1 c4 c5 c6 vl l) (hn : ¬ (gr = gb ∨ gr = gm ∨ vl.ownBlock = some gr)) (u : Value) : BldU (w.setCell ⟨gr, k, none⟩ u) base gb gm c0 c1 c4 c5 c6 vl l := by
 have hk := (Kept.refl w (fun b => b = gr)).setCell (p := ⟨gr, k, none⟩) (fun _ => rfl) u
 exact ⟨h.blk.kept hk fun e => hn (.inl e.symm), h.map.kept hk fun e => hn (.inr (.inl e.symm)), hk.ownsRow h.row fun g hg e => hn (.inr (.inr (by rw [← e]; exact hg)))⟩
theorem Moved.of_le {w0 w1 : World} {a b : Value} (h : Moved w1 a b) (hs : w0.heap.size ≤ w1.heap.size) : Moved w0 a b := by
 rcases h with h | ⟨g, h, hg⟩
 ·exact .inl h
 ·exact .inr ⟨g, h, by omega⟩
theorem len_le {D : Type} [DecidableEq D] : ∀ (l m : List D), l.Nodup → (∀ s ∈ l, s ∈ m) → l.length ≤ m.length
 | [], _, _, _ => Nat.zero_le _
 | a :: l, m, hn, hs => by
  have ha := hs a (by simp)
  have h1 := len_le l (m.erase a) (List.nodup_cons.1 hn).2 fun s hx => (List.mem_erase_of_ne (by rintro rfl; exact (List.nodup_cons.1 hn).1 hx)).2 (hs s (by simp [hx]))
  rw [List.length_erase_of_mem ha] at h1
  have := List.length_pos_of_mem ha
  simp
  omega
def ways {S : Type} (br : Nat → S → S → S) (l0 : List S) : Nat → List S
 | 0 => []
 | x + 1 => ways br l0 x ++ l0.flatMap fun a => l0.map fun b => br x a b
theorem mem_ways {S : Type} {br : Nat → S → S → S} {l0 : List S} {L x : Nat} (hx : x < L) {a b : S} (ha : a ∈ l0) (hb : b ∈ l0) : br x a b ∈ ways br l0 L := by
 induction L with
 | zero => omega
 | succ L ih =>
  simp only [ways, List.mem_append]
  rcases Nat.lt_or_ge x L with h | h
  ·exact .inl (ih h)
  ·obtain rfl : x = L := by omega
   exact .inr (List.mem_flatMap.2 ⟨a, ha, List.mem_map.2 ⟨b, hb, rfl⟩⟩)
theorem len_flat {S : Type} {m : Nat} (f : S → List S) : ∀ l : List S, (∀ a ∈ l, (f a).length = m) → (l.flatMap f).length = l.length * m
 | [], _ => by simp
 | a :: l, h => by
  rw [List.flatMap_cons, List.length_append, len_flat f l fun b hb => h b (by simp [hb]), h a (by simp), List.length_cons, Nat.add_mul]
  omega
theorem len_ways {S : Type} (br : Nat → S → S → S) (l0 : List S) : ∀ L, (ways br l0 L).length = L * (l0.length * l0.length)
 | 0 => by simp [ways]
 | x + 1 => by
  rw [ways, List.length_append, len_ways br l0 x, len_flat (m := l0.length) _ _ (fun a _ => by simp), Nat.add_mul]
  omega
theorem Mid.len {S : Type} [DecidableEq S] {L : Nat} {br : Nat → S → S → S} {l0 l : List S} (h : Mid L br l0 l) (h0 : l0.length ≤ 64) (hL : L ≤ 8) : l.length ≤ 33000 := by
 have h1 := len_le l (l0 ++ ways br l0 L) h.nodup fun s hs => by
  rcases h.from_ s hs with h2 | ⟨x, a, b, hx, ha, hb, rfl⟩
  ·simp [h2]
  ·exact List.mem_append.2 (.inr (mem_ways hx ha hb))
 rw [List.length_append, len_ways] at h1
 have h2 : l0.length * l0.length ≤ 64 * 64 := Nat.mul_le_mul h0 h0
 have h3 : L * (l0.length * l0.length) ≤ 8 * (64 * 64) := Nat.mul_le_mul hL h2
 omega
theorem bld_fill {wb : World} {gb gm gr L i j : Nat} {c1 c4 c6 cap4 cap5 cap6 : Value} {leaf : Nat → Nat} {br : Nat → Nat → Nat → Nat} {acc : Nat → Bool} {P : Nat → Prop} (hC : ClosU wb gb L cap4 cap5 cap6 leaf br acc P)
  {l0 : List Nat} (hl0 : l0.length ≤ 64) (hL : L ≤ 8) {s t : Nat} (hs : l0[i]? = some s) (ht : l0[j]? = some t)
  {w : World} (hK : Kept wb w (fun k => k = gb)) {vl : Value} {l : List Nat} (hB : BldU w wb.heap.size gb gm (.int .i64 L) c1 c4 (.func (.func 51) #[] #[cap5]) c6 vl l) (hM : Mid L br l0 l) (hP : ∀ s ∈ l, P s)
  (hR : Blk w gr 3 (fillC L [])) (hgr : wb.heap.size ≤ gr) (hgm : wb.heap.size ≤ gm)
  {u1 u2 u3 u4 u5 u6 u7 u8 u12 u13 u14 u15 u16 u17 u18 u19 u20 u21 u22 u23 u24 u25 u26 u27 u28 u29 u30 u31 u32 u33 u34 u35 u36 u37 u38 u39 u40 u41 u42 u43 u44 u45 u46 u47 u48 u49 u50 u51 u52 u53 u54 u55 u56 u57 u58 u59 u60 u61 u62 u63 u64 u65 u66 u67 u68 u69 u70 u71 u72 u73 u74 u75 u76 u77 u78 u79 u80 u81 u82 u83 u84 u85 u86 u87 u88 u89 u90 u91 u92 u93 u94 u95 u96 u97 u98 u99 u100 u101 u102 u103 u104 u105 u106 u107 u108 u109 u110 u111 u112 u113 u114 u115 u116 u117 u118 u119 u120 u123 u124 u125 u126 u127 u128 u129 u130 u131 u132 u133 u134 u135 u136 u137 u138 u139 u140 u141 u142 u143 u144 u145 u146 u147 u148 u149 u150 u151 u152 u153 u154 u155 u156 u157 u158 u159 u160 u161 u162 u163 u164 u165 u166 u167 u168 u169 u170 u171 u172 u173 u174 u175 u176 u177 u178 u179 u180 u181 u182 u183 u184 u185 u186 u187 u188 u189 u190 u191 u192 u193 u194 u195 u196 : Value}
  {Q : Exit → Act → World → Prop} (hN : Reg.NoQ Q)
  (hQ : ∀ (x12 x122 x123 x124 x125 x126 x127 x128 x129 x130 x131 x132 x133 x134 x135 x136 x137 x138 x139 x140 x141 x142 x143 x144 x145 x146 x147 x148 x149 x150 : Value) (w' : World) (vl' : Value) (l' row : List Nat), BldU w' wb.heap.size gb gm (.int .i64 L) c1 c4 (.func (.func 51) #[] #[cap5]) c6 vl' l' → Mid L br l0 l' → l <+: l' → (∀ s ∈ l', P s) → row.length = L → RowOK br l' i j row →
   Blk w' gr 3 (fillC L row) → Kept w w' (fun k => k = gb ∨ k = gm ∨ k = gr ∨ vl.ownBlock = some k) → Moved w vl vl' →
   Q (.exit 8) ⟨List.toArray ((.pointer (some ⟨gb, 0, none⟩)) :: u1 :: u2 :: u3 :: u4 :: u5 :: u6 :: u7 :: u8 :: (.int .i64 i) :: (.int .i64 j) :: (.slice (some ⟨gr, 0, none⟩) L L) :: x12 :: u13 :: u14 :: u15 :: u16 :: u17 :: u18 :: u19 :: u20 :: u21 :: u22 :: u23 :: u24 :: u25 :: u26 ::
   u27 :: u28 :: u29 :: u30 :: u31 :: u32 :: u33 :: u34 :: u35 :: u36 :: u37 :: u38 :: u39 :: u40 :: u41 :: u42 :: u43 :: u44 :: u45 :: u46 :: u47 :: u48 :: u49 :: u50 :: u51 :: u52 :: u53 :: u54 :: u55 :: u56 :: u57 :: u58 :: u59 :: u60 :: u61 :: u62 :: u63 ::
   u64 :: u65 :: u66 :: u67 :: u68 :: u69 :: u70 :: u71 :: u72 :: u73 :: u74 :: u75 :: u76 :: u77 :: u78 :: u79 :: u80 :: u81 :: u82 :: u83 :: u84 :: u85 :: u86 :: u87 :: u88 :: u89 :: u90 :: u91 :: u92 :: u93 :: u94 :: u95 :: u96 :: u97 :: u98 :: u99 :: u100 ::
   u101 :: u102 :: u103 :: u104 :: u105 :: u106 :: u107 :: u108 :: u109 :: u110 :: u111 :: u112 :: u113 :: u114 :: u115 :: u116 :: u117 :: u118 :: u119 :: u120 :: (.int .i64 L) :: x122 :: x123 :: x124 :: x125 :: x126 :: x127 :: x128 :: x129 :: x130 :: x131 ::
   x132 :: x133 :: x134 :: x135 :: x136 :: x137 :: x138 :: x139 :: x140 :: x141 :: x142 :: x143 :: x144 :: x145 :: x146 :: x147 :: x148 :: x149 :: x150 :: u151 :: u152 :: u153 :: u154 :: u155 :: u156 :: u157 :: u158 :: u159 :: u160 :: u161 :: u162 :: u163 :: u164 ::
   u165 :: u166 :: u167 :: u168 :: u169 :: u170 :: u171 :: u172 :: u173 :: u174 :: u175 :: u176 :: u177 :: u178 :: u179 :: u180 :: u181 :: u182 :: u183 :: u184 :: u185 :: u186 :: u187 :: u188 :: u189 :: u190 :: u191 :: u192 :: u193 :: u194 :: u195 :: u196 :: []), []⟩ w') :
  (Code.loop (loopBody Tryd.f53 4)).wp Tryd.prog Q ⟨List.toArray ((.pointer (some ⟨gb, 0, none⟩)) :: u1 :: u2 :: u3 :: u4 :: u5 :: u6 :: u7 :: u8 :: (.int .i64 i) :: (.int .i64 j) :: (.slice (some ⟨gr, 0, none⟩) L L) :: u12 :: u13 :: u14 :: u15 :: u16 :: u17 :: u18 :: u19 :: u20 :: u21 :: u22 :: u23 :: u24 :: u25 :: u26 ::
   u27 :: u28 :: u29 :: u30 :: u31 :: u32 :: u33 :: u34 :: u35 :: u36 :: u37 :: u38 :: u39 :: u40 :: u41 :: u42 :: u43 :: u44 :: u45 :: u46 :: u47 :: u48 :: u49 :: u50 :: u51 :: u52 :: u53 :: u54 :: u55 :: u56 :: u57 :: u58 :: u59 :: u60 :: u61 :: u62 :: u63 ::
   u64 :: u65 :: u66 :: u67 :: u68 :: u69 :: u70 :: u71 :: u72 :: u73 :: u74 :: u75 :: u76 :: u77 :: u78 :: u79 :: u80 :: u81 :: u82 :: u83 :: u84 :: u85 :: u86 :: u87 :: u88 :: u89 :: u90 :: u91 :: u92 :: u93 :: u94 :: u95 :: u96 :: u97 :: u98 :: u99 :: u100 ::
   u101 :: u102 :: u103 :: u104 :: u105 :: u106 :: u107 :: u108 :: u109 :: u110 :: u111 :: u112 :: u113 :: u114 :: u115 :: u116 :: u117 :: u118 :: u119 :: u120 :: (.int .i64 L) :: (.int .i64 0) :: u123 :: u124 :: u125 :: u126 :: u127 :: u128 :: u129 :: u130 ::
   u131 :: u132 :: u133 :: u134 :: u135 :: u136 :: u137 :: u138 :: u139 :: u140 :: u141 :: u142 :: u143 :: u144 :: u145 :: u146 :: u147 :: u148 :: u149 :: u150 :: u151 :: u152 :: u153 :: u154 :: u155 :: u156 :: u157 :: u158 :: u159 :: u160 :: u161 :: u162 :: u163 ::
   u164 :: u165 :: u166 :: u167 :: u168 :: u169 :: u170 :: u171 :: u172 :: u173 :: u174 :: u175 :: u176 :: u177 :: u178 :: u179 :: u180 :: u181 :: u182 :: u183 :: u184 :: u185 :: u186 :: u187 :: u188 :: u189 :: u190 :: u191 :: u192 :: u193 :: u194 :: u195 :: u196 ::
   []), []⟩ w := by
 conv => arg 2; arg 1; whnf
 go_loopw [122] (fun ii wr => ∃ (row l' : List Nat) (vl' : Value), ii = .int .i64 (row.length : Int) ∧ row.length ≤ L ∧ BldU wr wb.heap.size gb gm (.int .i64 L) c1 c4 (.func (.func 51) #[] #[cap5]) c6 vl' l' ∧ Mid L br l0 l' ∧ l <+: l' ∧ (∀ s ∈ l', P s) ∧ RowOK br l' i j row ∧
  Blk wr gr 3 (fillC L row) ∧ Kept w wr (fun k => k = gb ∨ k = gm ∨ k = gr ∨ vl.ownBlock = some k) ∧ Moved w vl vl') (fun ii _ => L - (intOf ii).toNat)
 case atStart => exact ⟨[], l, vl, rfl, Nat.zero_le _, hB, hM, List.prefix_refl _, hP, RowOK.nil, hR, Kept.refl _ _, Moved.refl _ _⟩
 case round =>
  obtain ⟨row, l', vl', rfl, hlen, hB', hM', hpre, hP', hrow, hR', hK', hmv⟩ := hrel
  have hKr := hK.trans hK' (hB.tops hgm hgr)
  have hi := prefix_get hM'.pre hs
  have hj := prefix_get hM'.pre ht
  have hPs := hP' s (List.mem_of_getElem? hi)
  have hPt := hP' t (List.mem_of_getElem? hj)
  have hll := hM'.len hl0 hL
  have hil := lt_of_get hi
  have hjl := lt_of_get hj
  obtain ⟨g, cap, hvl, hgi⟩ := own_get hB'.row (map_get (f := encU) hi)
  obtain ⟨g', cap', hvl', hgj⟩ := own_get hB'.row (map_get (f := encU) hj)
  rw [hvl] at hvl'
  injection hvl' with e1 e2 e3
  injection e1 with e1
  injection e1 with e1
  subst e1 e3
  subst hvl
  simp only [encU] at hgi hgj
  have hcb := hB'.blk.cell
  have hM2 := hide hM'
  have hPP := hide hP'
  have hpp := hide hpre
  have hrr := hide hrow
  have hHi := hide hi
  have hHj := hide hj
  have hHs := hide hs
  have hHt := hide ht
  clear hM' hP' hpre hrow hi hj hs ht hM hP
  go_wp2_with fail
  ·refine Reg.region_plain [0, 0, 0, 0, 8, 24, 56, 0, 0, 256, 768, 1792, 0, 7936, 16128, 0, 32768, 98304, 229376, 0, 1015808, 2064384, 4194296, 8388604, 16777215, 33554431] (by kernel_rfl) (by repeat (first | exact hN | refine Reg.NoQ.then ?_ | refine Reg.NoQ.inBlock ?_)) ?_
   go_wp2_with (first | (go_at_call 51; refine Calls.ret (hC.fb _ hKr.drew row.length s t (by omega) hPs hPt) ?_; rintro v w1 ⟨rfl, hb0⟩; have hb1 : Below wr.heap.size wr w1 := ⟨hb0.os, hb0.tape, hb0.output, hb0.size, hb0.block⟩; clear hb0; have hB1 := hB'.below hb1; have hR1 := hR'.kept (Kept.of_below hb1 fun _ => False) id; have hsz1 := hb1.size) | (go_at_call 73; refine Calls.ret (meetU w1 wb.heap.size gb gm _ c1 c4 _ c6 _ l' (br row.length s t) hB1 (by omega) (Nat.le_trans hKr.size hsz1)) ?_; rintro v w2 ⟨rfl, vl2, hB2, hk2, hmv2⟩; have hR2 := hR1.kept hk2 (hB1.not hR1 (by decide) (by decide)); have hcR := (hR2.cell row.length).trans (fillC_get (by omega)); have hfR := hR2.frozen))
   refine ⟨⟨row ++ [(meetL l' (br row.length s t)).idxOf (br row.length s t)], _, vl2, by simp, by simp; omega, hB2.setCell (hB2.not hR2 (by decide) (by decide)) _, ?_, hpp.out.trans (prefix_meetL _ _), ?_, ?_, ?_, ?_, (hmv.trans hK'.size (hmv2.of_le hsz1))⟩, by simp [intOf]; omega⟩
   ·exact hM2.out.meet (by omega) (List.mem_of_getElem? hHs.out) (List.mem_of_getElem? hHt.out)
   ·intro u hu
    rcases mem_meetL.1 hu with hu | rfl
    ·exact hPP.out u hu
    ·exact hC.pbr _ _ _ (by omega) hPs hPt
   ·exact (hrr.out.grow (prefix_meetL _ _)).snoc (prefix_get (prefix_meetL _ _) hHi.out) (prefix_get (prefix_meetL _ _) hHj.out) (get_meetL _ _)
   ·rw [← fillC_set (by omega)]
    exact hR2.set_ _ _
   ·refine Kept.setCell ((hK'.trans (Kept.of_below hb1 fun _ => False) fun _ _ h => h.elim).trans hk2 ?_) (fun _ => .inr (.inr (.inl rfl))) _
    rintro b hb (h1 | h1 | h1)
    ·exact .inl h1
    ·exact .inr (.inl h1)
    ·refine .inr (.inr (.inr ?_))
     rcases hmv with hm | ⟨g1, hm, hg1⟩
     ·rw [← hm]; exact h1
     ·rw [hm] at h1
      injection h1 with h1
      omega
  ·exact hQ _ _ _ _ _ _ _ _ _ _ _ _ _ _ _ _ _ _ _ _ _ _ _ _ _ _ _ _ _ _ wr _ l' row hB' hM2.out hpp.out hPP.out (by omega) hrr.out hR' hK' hmv
end Go.Proofs.YtbjdgepfhhafjaaDoor
namespace Go.Proofs.YtbjdgepfhhafjaaDoor
open Go.RowKit
theorem set_heap {w : World} {g k : Nat} {cur : Array Value} {e : TypeId} {u : Value} (h : w.heap[g]? = some (.cells cur e (0, 0))) : (w.setCell ⟨g, k, none⟩ u).heap[g]? = some (.cells (cur.setIfInBounds k u) e (0, 0)) :=
 Blk.set_ (t := e) h k u
theorem own_set {w : World} {base n g cap k : Nat} {e : TypeId} {xs : List Value} (h : w.ownsRow base e 1 (.slice (some ⟨g, 0, none⟩) n cap) n xs) (_hk : k < n) (u : Value) :
  (w.setCell ⟨g, k, none⟩ u).ownsRow base e 1 (.slice (some ⟨g, 0, none⟩) n cap) n (xs.set k u) := by
 refine ⟨by simpa using h.1, .inr ?_⟩
 rcases h.2 with ⟨hv, _⟩ | ⟨g', cap', cur, hv, hb, hh, h1, h2, h3, h4⟩
 ·cases hv
 ·injection hv with hg _ hc
  injection hg with hg
  injection hg with hg
  subst hg hc
  exact ⟨g, cap, _, rfl, hb, set_heap hh, h1, h2, by simpa using h3, by rw [Nat.mul_one] at h4 ⊢; simp [List.take_set, h4]⟩
theorem own_lt {w : World} {base size n : Nat} {e : TypeId} {v : Value} {xs : List Value} (h : w.ownsRow base e size v n xs) {k : Nat} (hk : v.ownBlock = some k) : k < w.heap.size := by
 rcases h.2 with ⟨rfl, _⟩ | ⟨g, cap, cur, rfl, hb, hh, _⟩
 ·simp [Value.ownBlock] at hk
 ·have : g = k := by simpa [Value.ownBlock] using hk
  subst this
  exact (Array.getElem?_eq_some_iff.1 hh).1
theorem own_nil {w : World} {base size : Nat} {e : TypeId} : w.ownsRow base e size (.slice none 0 0) 0 [] := ⟨by simp, .inl ⟨rfl, rfl⟩⟩
theorem own_of_blk {w : World} {base g n : Nat} {e : TypeId} {cs : Array Value} (h : Blk w g e cs) (hb : base ≤ g) (hn : cs.size = n) (hm : n ≤ 1000000) : w.ownsRow base e 1 (.slice (some ⟨g, 0, none⟩) n n) n cs.toList := by
 refine ⟨by simp [hn], .inr ⟨g, n, cs, rfl, hb, h, Nat.le_refl _, by unfold maxLen; omega, by omega, ?_⟩⟩
 rw [List.take_of_length_le (by simp [hn])]
theorem own_ty {w w' : World} {X : Nat → Prop} (hk : Kept w w' X) {base size n : Nat} {e : TypeId} {v : Value} {xs : List Value} (h : w.ownsRow base e size v n xs) (hX : ∀ g cs, X g → ¬ Blk w g e cs) : w'.ownsRow base e size v n xs :=
 hk.ownsRow h fun g hg hx => by
  rcases h.2 with ⟨rfl, _⟩ | ⟨g', cap, cur, rfl, _, hh, _⟩
  ·simp [Value.ownBlock] at hg
  ·have : g' = g := by simpa [Value.ownBlock] using hg
   subst this
   exact hX _ _ hx hh
theorem not_blk {w : World} {base size n : Nat} {e e' : TypeId} {v : Value} {xs : List Value} (h : w.ownsRow base e size v n xs) (hne : e ≠ e') : ∀ g cs, v.ownBlock = some g → ¬ Blk w g e' cs := fun _ _ hg hb => own_blk_ne h hb hne hg
structure TabU (w : World) (base : Nat) (v : Value) (us : List Value) (t : List (List (List Nat))) : Prop where
 len : us.length = t.length
 own : w.ownsRow base 81 1 v t.length us
 row : ∀ (i : Nat) (u : Value) (r : List (List Nat)), us[i]? = some u → t[i]? = some r → RowRow w base u r
 sep : ∀ (i j : Nat) (u u' : Value) (g : Nat), us[i]? = some u → us[j]? = some u' → u.ownBlock = some g → u'.ownBlock = some g → i = j
theorem Tab.open {w : World} {base : Nat} {v : Value} {t : List (List (List Nat))} (h : Tab w base v t) : ∃ us, TabU w base v us t := by
 obtain ⟨us, h1, h2, h3, h4⟩ := h
 exact ⟨us, h1, h2, h3, h4⟩
theorem TabU.close {w : World} {base : Nat} {v : Value} {us : List Value} {t : List (List (List Nat))} (h : TabU w base v us t) : Tab w base v t := ⟨us, h.len, h.own, h.row, h.sep⟩
theorem Tab.nil {w : World} {base : Nat} : Tab w base (.slice none 0 0) [] := ⟨[], rfl, own_nil, fun i u r h => by simp at h, fun i j u u' g h => by simp at h⟩
theorem RowRow.nil {w : World} {base : Nat} : RowRow w base (.slice none 0 0) [] := ⟨[], rfl, own_nil, fun i u r h => by simp at h⟩
theorem RowRow.keep {w w' : World} {X : Nat → Prop} (hk : Kept w w' X) {base : Nat} {v : Value} {r : List (List Nat)} (h : RowRow w base v r) (h3 : ∀ g cs, X g → ¬ Blk w g 3 cs) (hv : ∀ g, v.ownBlock = some g → ¬ X g) : RowRow w' base v r := by
 obtain ⟨us, h1, h2, h4⟩ := h
 exact ⟨us, h1, hk.ownsRow h2 hv, fun i u r hu hr => own_ty hk (h4 i u r hu hr) h3⟩
theorem TabU.keep {w w' : World} {X : Nat → Prop} (hk : Kept w w' X) {base : Nat} {v : Value} {us : List Value} {t : List (List (List Nat))} (h : TabU w base v us t) (h3 : ∀ g cs, X g → ¬ Blk w g 3 cs) (h22 : ∀ g cs, X g → ¬ Blk w g 24 cs) (hv : ∀ g, v.ownBlock = some g → ¬ X g) : TabU w' base v us t :=
 ⟨h.len, hk.ownsRow h.own hv, fun i u r hu hr => by
  obtain ⟨us, h1, h2, h4⟩ := h.row i u r hu hr
  exact ⟨us, h1, own_ty hk h2 h22, fun i u r hu hr => own_ty hk (h4 i u r hu hr) h3⟩, h.sep⟩
theorem TabU.push {w w' : World} {base : Nat} {v v' : Value} {us : List Value} {t : List (List (List Nat))} (h : TabU w base v us t) (hk : Kept w w' (fun k => v.ownBlock = some k)) (ho : w'.ownsRow base 81 1 v' (t.length + 1) (us ++ [.slice none 0 0])) :
  TabU w' base v' (us ++ [.slice none 0 0]) (t ++ [[]]) := by
 refine ⟨by simp [h.len], by simpa using ho, fun i u r hu hr => ?_, fun i j u u' g hu hu' hg hg' => ?_⟩
 ·by_cases hi : i < us.length
  ·rw [List.getElem?_append_left hi] at hu
   rw [List.getElem?_append_left (by rw [← h.len]; exact hi)] at hr
   obtain ⟨us', h1, h2, h4⟩ := h.row i u r hu hr
   exact ⟨us', h1, own_ty hk h2 (not_blk h.own (by decide)), fun i u r hu hr => own_ty hk (h4 i u r hu hr) (not_blk h.own (by decide))⟩
  ·have h1 := lt_of_get hu
   simp at h1
   obtain rfl : i = us.length := by omega
   simp at hu
   rw [h.len] at hr
   simp at hr
   subst hu hr
   exact RowRow.nil
 ·have aux : ∀ (i : Nat) (u : Value), (us ++ [Value.slice none 0 0])[i]? = some u → u.ownBlock = some g → us[i]? = some u := fun i u hu hg => by
   by_cases hi : i < us.length
   ·rwa [List.getElem?_append_left hi] at hu
   ·have h1 := lt_of_get hu
    simp at h1
    obtain rfl : i = us.length := by omega
    simp at hu
    subst hu
    simp [Value.ownBlock] at hg
  exact h.sep i j u u' g (aux i u hu hg) (aux j u' hu' hg') hg hg'
theorem TabU.add {w w1 : World} {base gv cap i : Nat} {us uis : List Value} {t : List (List (List Nat))} {ui ui' vrow : Value} {r : List (List Nat)} {row : List Nat} {n : Nat}
  (h : TabU w base (.slice (some ⟨gv, 0, none⟩) n cap) us t) (hn : t.length = n) (hu : us[i]? = some ui) (hr : t[i]? = some r)
  (hul : uis.length = r.length) (hui : w.ownsRow base 24 1 ui r.length uis) (hrows : ∀ (k : Nat) (u : Value) (q : List Nat), uis[k]? = some u → r[k]? = some q → IntRow w base u q)
  (hv : IntRow w base vrow row) (hk : Kept w w1 (fun k => ui.ownBlock = some k)) (ho : w1.ownsRow base 24 1 ui' (r.length + 1) (uis ++ [vrow])) (hm : Moved w ui ui') :
  TabU (w1.setCell ⟨gv, i, none⟩ ui') base (.slice (some ⟨gv, 0, none⟩) n cap) (us.set i ui') (t.set i (r ++ [row])) := by
 subst hn
 have hi := lt_of_get hr
 have hgv := not_blk (e' := 3) h.own (by decide)
 have h104 : (w1.ownsRow base 81 1 (.slice (some ⟨gv, 0, none⟩) t.length cap) t.length us) := own_ty hk h.own (not_blk hui (by decide))
 have hks : Kept w1 (w1.setCell ⟨gv, i, none⟩ ui') (fun k => Value.ownBlock (.slice (some ⟨gv, 0, none⟩) t.length cap) = some k) := Kept.setCell (Kept.refl _ _) (p := ⟨gv, i, none⟩) (fun _ => by simp [Value.ownBlock]) _
 have hs := own_set h104 hi ui'
 refine ⟨by simp [h.len], by simpa using hs, fun k u q hu' hq => ?_, fun k j u u' g hk1 hj1 hg hg' => ?_⟩
 ·by_cases hki : k = i
  ·subst hki
   rw [List.getElem?_set_self (by rw [h.len]; exact hi)] at hu'
   rw [List.getElem?_set_self hi] at hq
   injection hu' with hu'
   injection hq with hq
   subst hu' hq
   refine ⟨uis ++ [vrow], by simp [hul], ?_, fun k u q hk1 hq1 => ?_⟩
   ·have := own_ty hks ho (not_blk h104 (by decide))
    simpa using this
   ·have h1 : IntRow w base u q := by
     by_cases hkl : k < uis.length
     ·rw [List.getElem?_append_left hkl] at hk1
      rw [List.getElem?_append_left (by omega)] at hq1
      exact hrows k u q hk1 hq1
     ·have h1 := lt_of_get hk1
      simp at h1
      obtain rfl : k = uis.length := by omega
      simp at hk1
      rw [hul] at hq1
      simp at hq1
      subst hk1 hq1
      exact hv
    exact own_ty hks (own_ty hk h1 (not_blk hui (by decide))) (not_blk h104 (by decide))
  ·rw [List.getElem?_set_ne (fun e => hki e.symm)] at hu' hq
   obtain ⟨us', h1, h2, h4⟩ := h.row k u q hu' hq
   refine ⟨us', h1, own_ty hks (hk.ownsRow h2 fun g hg hx => hki (h.sep k i u ui g hu' hu hg hx)) (not_blk h104 (by decide)), fun k u q hu hq => own_ty hks (own_ty hk (h4 k u q hu hq) (not_blk hui (by decide))) (not_blk h104 (by decide))⟩
 ·have aux : ∀ (k : Nat) (u : Value), (us.set i ui')[k]? = some u → (k = i ∧ u = ui') ∨ (k ≠ i ∧ us[k]? = some u) := fun k u hx => by
   by_cases hki : k = i
   ·subst hki
    rw [List.getElem?_set_self (by rw [h.len]; exact hi)] at hx
    injection hx with hx
    exact .inl ⟨rfl, hx.symm⟩
   ·rw [List.getElem?_set_ne (fun e => hki e.symm)] at hx
    exact .inr ⟨hki, hx⟩
  have old : ∀ (k : Nat) (u : Value), us[k]? = some u → u.ownBlock = some g → g < w.heap.size := fun k u hx hg => by
   obtain ⟨q, hq⟩ : ∃ q, t[k]? = some q := ⟨_, List.getElem?_eq_getElem (by rw [← h.len]; exact lt_of_get hx)⟩
   obtain ⟨_, _, h2, _⟩ := h.row k u q hx hq
   exact own_lt h2 hg
  have new : ∀ (k : Nat) (u : Value), k ≠ i → us[k]? = some u → u.ownBlock = some g → ui'.ownBlock = some g → False := fun k u hki hx hg hg' => by
   rcases hm with hm | ⟨g1, hm, hg1⟩
   ·exact hki (h.sep k i u ui g hx hu hg (by rw [← hm]; exact hg'))
   ·rw [hm] at hg'
    injection hg' with hg'
    have := old k u hx hg
    omega
  rcases aux k u hk1 with ⟨rfl, rfl⟩ | ⟨hki, hx⟩
  ·rcases aux j u' hj1 with ⟨rfl, rfl⟩ | ⟨hji, hy⟩
   ·rfl
   ·exact (new j u' hji hy hg' hg).elim
  ·rcases aux j u' hj1 with ⟨rfl, rfl⟩ | ⟨hji, hy⟩
   ·exact (new k u hki hx hg hg').elim
   ·exact h.sep k j u u' g hx hy hg hg'
end Go.Proofs.YtbjdgepfhhafjaaDoor
namespace Go.Proofs.YtbjdgepfhhafjaaDoor
open Go.RowKit
theorem madeCells_one (z : Value) (n : Nat) : madeCells #[z] (n * 1) = Array.replicate n z := by
 apply Array.ext
 ·simp [madeCells]
 ·intro i h1 h2
  simp [madeCells, Nat.mod_one]
theorem mk_facts {P : Program} {t e bytes : Nat} {z : Value} (ht : P.underlying t = some (.slice e)) (hi : (P.info? e).map (fun i => (i.zero, i.size, i.bytes)) = some (some z, 1, bytes)) (hz : z.cells = #[z]) (hb : bytes ≤ 200)
  (w : World) (n : Nat) (hn : n ≤ 100000) :
  ∃ g w1, (Instr.makeSlice t (.int .i64 n) (.int .i64 n)).run P w = .ok (.slice (some ⟨g, 0, none⟩) n n) w1 ∧ Blk w1 g e (Array.replicate n z) ∧ Below w.heap.size w w1 ∧ w.heap.size ≤ g := by
 obtain ⟨i, h1, h2, h3, h4⟩ := info_parts hi
 have hb' : bytes * n ≤ 200 * 100000 := Nat.mul_le_mul hb hn
 have hb2 : (i.bytes : Int) * (n : Int) ≤ 281474976710656 := by
  rw [h4, ← Int.natCast_mul]; omega
 have hr := run_makeSlice (P := P) w t e i z ht h1 h2 .i64 .i64 n n (by omega) (Int.le_refl _) (by rw [h3]; simp; omega) hb2 (by omega)
 simp only [Int.toNat_natCast] at hr
 rw [h3, hz, madeCells_one] at hr
 exact ⟨_, _, hr, Blk.new _ _ _, (Below.refl _ _).alloc (Nat.le_refl _) _, Nat.le_refl _⟩
theorem info3 : (Tryd.prog.info? 3).map (fun i => (i.zero, i.size, i.bytes)) = some (some (.int .i64 0), 1, 8) := by kernel_rfl
theorem mk_row (w : World) (n : Nat) (hn : n ≤ 100000) :
  ∃ g w1, (Instr.makeSlice 24 (.int .i64 n) (.int .i64 n)).run Tryd.prog w = .ok (.slice (some ⟨g, 0, none⟩) n n) w1 ∧ Blk w1 g 3 (Array.replicate n (.int .i64 0)) ∧ Below w.heap.size w w1 ∧ w.heap.size ≤ g :=
 mk_facts Tryd.underlying24 info3 rfl (by omega) w n hn
theorem fillC_nil (L : Nat) : fillC L [] = Array.replicate L (.int .i64 0) := by simp [fillC]
end Go.Proofs.YtbjdgepfhhafjaaDoor
