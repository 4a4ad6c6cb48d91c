/- The program logic's rules for single operations that read and write slots alone. -/
import Derived.Test.YtmbgbodkhdfdoaaDoorFwA
namespace Go.Fw
open Go Go.RowKit

/-! ## Looking things up, by unfolding -/
def LkL : List Value → Nat → Value → Prop
  | [], _, u => u = undef
  | v :: _, 0, u => u = v
  | _ :: l, n + 1, u => LkL l n u
def LkP : List (Nat × Value) → List Value → Nat → Value → Prop
  | [], b, t, u => LkL b t u
  | (d, v) :: p, b, t, u => bif Nat.beq d t then u = v else LkP p b t u
def Lk (fr : Fr) (t : Nat) (u : Value) : Prop := bif Nat.blt t fr.n then LkP fr.pend fr.base t u else u = undef
def Ev (fr : Fr) : Operand → Value → Prop
  | .tmp t, u => Lk fr t u
  | .const c, u => u = c
  | .global g, u => u = .pointer (some ⟨g, 0, none⟩)
  | .func f, u => u = .func (.func f) #[] #[]
def Nth {α : Type} : List α → Nat → α → Prop
  | [], _, _ => False
  | v :: _, 0, u => u = v
  | _ :: l, n + 1, u => Nth l n u
theorem LkL.eq : ∀ {l : List Value} {t : Nat} {u : Value}, LkL l t u → lookL l t = u
  | [], _, _, h => h.symm
  | _ :: _, 0, _, h => h.symm
  | _ :: l, n + 1, _, h => LkL.eq (l := l) (t := n) h
theorem LkP.eq : ∀ {p : List (Nat × Value)} {b : List Value} {t : Nat} {u : Value}, LkP p b t u → lkP p b t = u
  | [], _, _, _, h => LkL.eq h
  | (d, v) :: p, b, t, u, h => by
    rw [lkP]
    rw [LkP] at h
    cases hb : Nat.beq d t with
    | true => rw [hb] at h; exact (show u = v from h).symm
    | false => rw [hb] at h; exact LkP.eq (show LkP p b t u from h)
theorem Lk.eq {fr : Fr} {t : Nat} {u : Value} (h : Lk fr t u) : look fr t = u := by
  unfold look
  unfold Lk at h
  cases hb : Nat.blt t fr.n with
  | true => rw [hb] at h; exact LkP.eq h
  | false => rw [hb] at h; exact (show u = undef from h).symm
theorem Ev.eq {fr : Fr} {x : Operand} {u : Value} (h : Ev fr x u) : ev fr x = u := by
  cases x with
  | tmp t => exact Lk.eq h
  | _ => exact (show u = _ from h).symm
theorem Nth.get {α : Type} : ∀ {l : List α} {n : Nat} {u : α}, Nth l n u → l[n]? = some u
  | [], _, _, h => h.elim
  | _ :: _, 0, _, h => by rw [show _ = _ from h]; rfl
  | _ :: l, n + 1, _, h => by simpa using Nth.get (l := l) (n := n) h
theorem Nth.mem {α : Type} {l : List α} {n : Nat} {u : α} (h : Nth l n u) : u ∈ l := List.mem_of_getElem? h.get
def updL {α : Type} : List α → Nat → α → List α
  | [], _, _ => []
  | _ :: l, 0, x => x :: l
  | v :: l, n + 1, x => v :: updL l n x
theorem updL_set {α : Type} : ∀ (l : List α) (t : Nat) (x : α), updL l t x = l.set t x := by
  intro l
  induction l with
  | nil => intro t x; simp [updL]
  | cons v l ih => intro t x; cases t <;> simp [updL, ih]

/-! ## Facts on a program's tables, each closed by the kernel -/
def aggDesc : TypeDesc → Bool
  | .struct _ | .array _ _ => true
  | _ => false
def tyOf (P : Program) (T : TypeId) : Option (Bool × Nat) :=
  match P.underlying T, P.info? T with
  | some d, some i => some (aggDesc d, i.size)
  | _, _ => none
def zeroOf (P : Program) (T : TypeId) : Option (List Value) := ((P.info? T).bind (·.zero)).map (·.cells.toList)
def slOf (P : Program) (t : TypeId) : Option (TypeId × Nat × Nat × List Value) :=
  match P.underlying t with
  | some (.slice e) => match P.info? e with
    | some i => i.zero.map fun z => (e, i.size, i.bytes, z.cells.toList)
    | none => none
  | _ => none
def fOf (P : Program) (s : TypeId) (f : Nat) : Option Nat :=
  match P.underlying s with
  | some (.struct fields) => match fields[f]? with
    | some fd => match P.info? fd.type with
      | some i => if i.size = 0 then none else some fd.offset
      | none => none
    | none => none
  | _ => none
def intTy (P : Program) (t : TypeId) : Option IntKind :=
  match P.underlying t with
  | some (.int k) => some k
  | _ => none
def callable (P : Program) (f : FuncId) : Bool :=
  match P.funcs[f]? with
  | some fn => fn.body.isSome && !(fn.name == "runtime.NumGoroutine")
  | none => false
theorem tyOf_spec {P : Program} {T : TypeId} {g : Bool} {n : Nat} (h : tyOf P T = some (g, n)) : ∃ d i, P.underlying T = some d ∧ P.info? T = some i ∧ aggDesc d = g ∧ i.size = n := by
  unfold tyOf at h
  split at h
  · rename_i d i h1 h2; simp at h; exact ⟨d, i, h1, h2, h.1, h.2⟩
  · cases h
theorem run_isAgg {P : Program} {T : TypeId} {d : TypeDesc} (h : P.underlying T = some d) (w : World) : (isAgg T).run P w = .ok (aggDesc d) w := by
  simp only [isAgg, Sem.run_bind, run_underlying h, Result.andThen_ok]
  cases d <;> rfl
theorem slOf_spec {P : Program} {t e : TypeId} {sz by' : Nat} {z : List Value} (h : slOf P t = some (e, sz, by', z)) :
    ∃ i zv, P.underlying t = some (.slice e) ∧ P.info? e = some i ∧ i.size = sz ∧ i.bytes = by' ∧ i.zero = some zv ∧ zv.cells.toList = z := by
  unfold slOf at h
  split at h
  · rename_i e' h1
    split at h
    · rename_i i h2
      cases hz : i.zero with
      | none => simp [hz] at h
      | some zv =>
        simp [hz] at h
        obtain ⟨rfl, rfl, rfl, rfl⟩ := h
        exact ⟨i, zv, h1, h2, rfl, rfl, hz, rfl⟩
    · cases h
  · cases h

/-! ## One operation -/
section
variable {P : Program} {Q : Exit → Act → World → Prop} {w0 : Ctx} {σ σ' : List Res} {φ φ' : List (Bool × VP)} {fr : Fr} {ops : Array Oper} {rest : List Oper}
  {d : Nat} {ty : TypeId} {pos : String} {aft : Array Edge}

/-- The frame, the resources and the views written anew. -/
theorem JL_done_norm {y : Code} (fr' : Fr) (σ' : List Res) (φ' : List (Bool × VP)) (h1 : fr' = fr) (h2 : σ' = σ) (h3 : φ' = φ) (h : JC P y Q w0 σ' φ' fr') : JL P ops (Then P y Q) w0 σ φ [] fr := by
  subst h1 h2 h3; exact JL_done h
theorem JL_nil_norm (fr' : Fr) (σ' : List Res) (φ' : List (Bool × VP)) (h1 : fr' = fr) (h2 : σ' = σ) (h3 : φ' = φ) (h : JE Q .normal w0 σ' φ' fr') : JL P ops Q w0 σ φ [] fr := by
  subst h1 h2 h3; exact JL_nil h
theorem JL_norm {l : List Oper} (fr' : Fr) (σ' : List Res) (φ' : List (Bool × VP)) (h1 : fr' = fr) (h2 : σ' = σ) (h3 : φ' = φ) (h : JL P ops Q w0 σ' φ' l fr') : JL P ops Q w0 σ φ l fr := by
  subst h1 h2 h3; exact h

theorem wpList_run {o : Oper} {w w' : World} {v : Value} (hg : o.guard = none) (hd : o.dst = some d) (hrun : (execOp (ev fr) o).run P w = .ok (.value v) w')
    (k : wpList P ops Q rest (act (upd fr d v)) w') : wpList P ops Q (o :: rest) (act fr) w := by
  refine wpList_plain hg fun K hK => ?_
  unfold Oper.wp
  rw [act_eval_fun, hrun]
  show K ((act fr).put o.dst v) w'
  rw [hd, act_put]
  exact hK _ _ k
theorem wpList_run0 {o : Oper} {w w' : World} (hg : o.guard = none) (hd : o.dst = none) (hrun : (execOp (ev fr) o).run P w = .ok .skip w')
    (k : wpList P ops Q rest (act fr) w') : wpList P ops Q (o :: rest) (act fr) w := by
  refine wpList_plain hg fun K hK => ?_
  unfold Oper.wp
  rw [act_eval_fun, hrun]
  show K ((act fr).put o.dst undef) w'
  rw [hd, act_put_none]
  exact hK _ _ k
theorem JL_pure {op : Op} (v : Value) (hrun : ∀ w, (execOp (ev fr) ⟨some d, op, ty, pos, aft, none⟩).run P w = .ok (.value v) w)
    (k : JL P ops Q w0 σ φ rest (upd fr d v)) : JL P ops Q w0 σ φ (⟨some d, op, ty, pos, aft, none⟩ :: rest) fr :=
  fun w s => wpList_run rfl rfl (hrun w) (k w s)
theorem JL_pureSt {op : Op} (v : Value) (hrun : ∀ w, St w0 w σ φ → (execOp (ev fr) ⟨some d, op, ty, pos, aft, none⟩).run P w = .ok (.value v) w)
    (k : JL P ops Q w0 σ φ rest (upd fr d v)) : JL P ops Q w0 σ φ (⟨some d, op, ty, pos, aft, none⟩ :: rest) fr :=
  fun w s => wpList_run rfl rfl (hrun w s) (k w s)

theorem JL_move {x : Operand} {v : Value} (hx : Ev fr x v) (k : JL P ops Q w0 σ φ rest (upd fr d v)) : JL P ops Q w0 σ φ (⟨some d, .move x, ty, pos, aft, none⟩ :: rest) fr :=
  JL_pure v (fun w => by simp [execOp, hx.eq]) k
theorem JL_assign {x : Operand} {v : Value} (hx : Ev fr x v) (k : JL P ops Q w0 σ φ rest (upd fr d v)) : JL P ops Q w0 σ φ (⟨some d, .assign x, ty, pos, aft, none⟩ :: rest) fr :=
  JL_pure v (fun w => by simp [execOp, hx.eq]) k
theorem JL_pick {c x y : Operand} {b : Bool} {u v : Value} (hc : Ev fr c (.bool b)) (hx : Ev fr x u) (hy : Ev fr y v) (k : JL P ops Q w0 σ φ rest (upd fr d (bif b then u else v))) :
    JL P ops Q w0 σ φ (⟨some d, .pick c x y, ty, pos, aft, none⟩ :: rest) fr :=
  JL_pure _ (fun w => by cases b <;> simp [execOp, hx.eq, hy.eq, hc.eq, asBool]) k
theorem JL_pick_t {c x y : Operand} {u : Value} (hc : Ev fr c (.bool true)) (hx : Ev fr x u) (k : JL P ops Q w0 σ φ rest (upd fr d u)) :
    JL P ops Q w0 σ φ (⟨some d, .pick c x y, ty, pos, aft, none⟩ :: rest) fr :=
  JL_pure _ (fun w => by simp [execOp, hx.eq, hc.eq, asBool]) k
theorem JL_pick_f {c x y : Operand} {u : Value} (hc : Ev fr c (.bool false)) (hx : Ev fr y u) (k : JL P ops Q w0 σ φ rest (upd fr d u)) :
    JL P ops Q w0 σ φ (⟨some d, .pick c x y, ty, pos, aft, none⟩ :: rest) fr :=
  JL_pure _ (fun w => by simp [execOp, hx.eq, hc.eq, asBool]) k

/-! ### Guards -/
theorem lt_of_bool {t : Nat} {b : Bool} (h : Lk fr t (.bool b)) : t < fr.n := by
  unfold Lk at h
  cases hb : Nat.blt t fr.n with
  | true => exact blt_lt hb
  | false => rw [hb] at h; exact absurd (show Value.bool b = undef from h) (by intro h'; cases h')
theorem wanted_of {o : Oper} {j t : Nat} {want b : Bool} (hg : o.guard = some (j, want)) (hj : (ops[j]?).bind (·.dst) = some t) (hb : Lk fr t (.bool b)) :
    Region.wanted o (yielded ops (act fr).tmps) = (b == want) := by
  have hlt := lt_of_bool hb
  have h1 : (act fr).tmps[t]? = some (.bool b) := by rw [look_get? hlt, hb.eq]
  simp only [Region.wanted, hg, yielded, hj, Option.bind_some, h1]
  cases b <;> cases want <;> rfl
theorem JL_guard_yes {op : Op} {dst : Option Nat} {j t : Nat} {want : Bool} (hj : (ops[j]?).bind (·.dst) = some t) (hb : Lk fr t (.bool want))
    (k : JL P ops Q w0 σ φ (⟨dst, op, ty, pos, aft, none⟩ :: rest) fr) : JL P ops Q w0 σ φ (⟨dst, op, ty, pos, aft, some (j, want)⟩ :: rest) fr := by
  intro w s
  have h := k w s
  have hw := wanted_of (o := ⟨dst, op, ty, pos, aft, some (j, want)⟩) (ops := ops) rfl hj hb
  unfold wpList at h ⊢
  rw [if_pos (by rw [hw]; simp)]
  rw [if_pos (by simp [Region.wanted])] at h
  exact h
theorem JL_guard_no {op : Op} {j t : Nat} {want : Bool} (hj : (ops[j]?).bind (·.dst) = some t) (hb : Lk fr t (.bool (!want)))
    (k : JL P ops Q w0 σ φ rest (upd fr d undef)) : JL P ops Q w0 σ φ (⟨some d, op, ty, pos, aft, some (j, want)⟩ :: rest) fr := by
  intro w s
  have h := k w s
  have hw := wanted_of (o := ⟨some d, op, ty, pos, aft, some (j, want)⟩) (ops := ops) rfl hj hb
  unfold wpList
  rw [if_neg (by rw [hw]; simp)]
  rw [act_put]
  exact h

/-! ### Numbers -/
theorem ev2 {x y : Operand} {u v : Value} (hx : Ev fr x u) (hy : Ev fr y v) : ev fr x = u ∧ ev fr y = v := ⟨hx.eq, hy.eq⟩
section
variable {t t' : TypeId} {x y : Operand} {k k' : IntKind} {a b : Int}
theorem JL_add (hx : Ev fr x (.int k a)) (hy : Ev fr y (.int k b)) (n : JL P ops Q w0 σ φ rest (upd fr d (.int k (k.wrap (a + b))))) : JL P ops Q w0 σ φ (⟨some d, .binOp .add t x y t', ty, pos, aft, none⟩ :: rest) fr :=
  JL_pure _ (fun w => by simp [execOp, hx.eq, hy.eq, binOp, eqGuard, Op.intArith]) n
theorem JL_sub (hx : Ev fr x (.int k a)) (hy : Ev fr y (.int k b)) (n : JL P ops Q w0 σ φ rest (upd fr d (.int k (k.wrap (a - b))))) : JL P ops Q w0 σ φ (⟨some d, .binOp .sub t x y t', ty, pos, aft, none⟩ :: rest) fr :=
  JL_pure _ (fun w => by simp [execOp, hx.eq, hy.eq, binOp, eqGuard, Op.intArith]) n
theorem JL_mul (hx : Ev fr x (.int k a)) (hy : Ev fr y (.int k b)) (n : JL P ops Q w0 σ φ rest (upd fr d (.int k (k.wrap (a * b))))) : JL P ops Q w0 σ φ (⟨some d, .binOp .mul t x y t', ty, pos, aft, none⟩ :: rest) fr :=
  JL_pure _ (fun w => by simp [execOp, hx.eq, hy.eq, binOp, eqGuard, Op.intArith]) n
theorem JL_quo (hx : Ev fr x (.int k a)) (hy : Ev fr y (.int k b)) (hb : b ≠ 0) (n : JL P ops Q w0 σ φ rest (upd fr d (.int k (k.wrap (a.tdiv b))))) : JL P ops Q w0 σ φ (⟨some d, .binOp .quo t x y t', ty, pos, aft, none⟩ :: rest) fr :=
  JL_pure _ (fun w => by simp [execOp, hx.eq, hy.eq, binOp, eqGuard, Op.intDiv, hb]) n
theorem JL_rem (hx : Ev fr x (.int k a)) (hy : Ev fr y (.int k b)) (hb : b ≠ 0) (n : JL P ops Q w0 σ φ rest (upd fr d (.int k (a.tmod b)))) : JL P ops Q w0 σ φ (⟨some d, .binOp .rem t x y t', ty, pos, aft, none⟩ :: rest) fr :=
  JL_pure _ (fun w => by simp [execOp, hx.eq, hy.eq, binOp, eqGuard, Op.intDiv, hb]) n
/-- The same, the result named: c is what the wrap comes to. -/
theorem JL_add_to {c : Int} (hx : Ev fr x (.int k a)) (hy : Ev fr y (.int k b)) (hc : k.wrap (a + b) = c) (n : JL P ops Q w0 σ φ rest (upd fr d (.int k c))) : JL P ops Q w0 σ φ (⟨some d, .binOp .add t x y t', ty, pos, aft, none⟩ :: rest) fr := JL_add hx hy (hc ▸ n)
theorem JL_sub_to {c : Int} (hx : Ev fr x (.int k a)) (hy : Ev fr y (.int k b)) (hc : k.wrap (a - b) = c) (n : JL P ops Q w0 σ φ rest (upd fr d (.int k c))) : JL P ops Q w0 σ φ (⟨some d, .binOp .sub t x y t', ty, pos, aft, none⟩ :: rest) fr := JL_sub hx hy (hc ▸ n)
theorem JL_mul_to {c : Int} (hx : Ev fr x (.int k a)) (hy : Ev fr y (.int k b)) (hc : k.wrap (a * b) = c) (n : JL P ops Q w0 σ φ rest (upd fr d (.int k c))) : JL P ops Q w0 σ φ (⟨some d, .binOp .mul t x y t', ty, pos, aft, none⟩ :: rest) fr := JL_mul hx hy (hc ▸ n)
theorem JL_quo_to {c : Int} (hx : Ev fr x (.int k a)) (hy : Ev fr y (.int k b)) (hb : b ≠ 0) (hc : k.wrap (a.tdiv b) = c) (n : JL P ops Q w0 σ φ rest (upd fr d (.int k c))) : JL P ops Q w0 σ φ (⟨some d, .binOp .quo t x y t', ty, pos, aft, none⟩ :: rest) fr := JL_quo hx hy hb (hc ▸ n)
theorem JL_rem_to {c : Int} (hx : Ev fr x (.int k a)) (hy : Ev fr y (.int k b)) (hb : b ≠ 0) (hc : a.tmod b = c) (n : JL P ops Q w0 σ φ rest (upd fr d (.int k c))) : JL P ops Q w0 σ φ (⟨some d, .binOp .rem t x y t', ty, pos, aft, none⟩ :: rest) fr := JL_rem hx hy hb (hc ▸ n)

theorem JL_lss (hx : Ev fr x (.int k a)) (hy : Ev fr y (.int k b)) (n : JL P ops Q w0 σ φ rest (upd fr d (.bool (decide (a < b))))) : JL P ops Q w0 σ φ (⟨some d, .binOp .lss t x y t', ty, pos, aft, none⟩ :: rest) fr :=
  JL_pure _ (fun w => by simp [execOp, hx.eq, hy.eq, binOp, eqGuard, Op.intCmp]) n
theorem JL_leq (hx : Ev fr x (.int k a)) (hy : Ev fr y (.int k b)) (n : JL P ops Q w0 σ φ rest (upd fr d (.bool (decide (a ≤ b))))) : JL P ops Q w0 σ φ (⟨some d, .binOp .leq t x y t', ty, pos, aft, none⟩ :: rest) fr :=
  JL_pure _ (fun w => by simp [execOp, hx.eq, hy.eq, binOp, eqGuard, Op.intCmp]) n
theorem JL_gtr (hx : Ev fr x (.int k a)) (hy : Ev fr y (.int k b)) (n : JL P ops Q w0 σ φ rest (upd fr d (.bool (decide (b < a))))) : JL P ops Q w0 σ φ (⟨some d, .binOp .gtr t x y t', ty, pos, aft, none⟩ :: rest) fr :=
  JL_pure _ (fun w => by simp [execOp, hx.eq, hy.eq, binOp, eqGuard, Op.intCmp]) n
theorem JL_geq (hx : Ev fr x (.int k a)) (hy : Ev fr y (.int k b)) (n : JL P ops Q w0 σ φ rest (upd fr d (.bool (decide (b ≤ a))))) : JL P ops Q w0 σ φ (⟨some d, .binOp .geq t x y t', ty, pos, aft, none⟩ :: rest) fr :=
  JL_pure _ (fun w => by simp [execOp, hx.eq, hy.eq, binOp, eqGuard, Op.intCmp]) n
theorem JL_eql (hx : Ev fr x (.int k a)) (hy : Ev fr y (.int k b)) (n : JL P ops Q w0 σ φ rest (upd fr d (.bool (decide (a = b))))) : JL P ops Q w0 σ φ (⟨some d, .binOp .eql t x y t', ty, pos, aft, none⟩ :: rest) fr :=
  JL_pure _ (fun w => by simp [execOp, hx.eq, hy.eq, binOp, eqGuard, Op.intCmp]; rfl) n
theorem JL_neq (hx : Ev fr x (.int k a)) (hy : Ev fr y (.int k b)) (n : JL P ops Q w0 σ φ rest (upd fr d (.bool (decide (a ≠ b))))) : JL P ops Q w0 σ φ (⟨some d, .binOp .neq t x y t', ty, pos, aft, none⟩ :: rest) fr :=
  JL_pure _ (fun w => by simp [execOp, hx.eq, hy.eq, binOp, eqGuard, Op.intCmp, bne]; rfl) n
theorem JL_split {p : Prop} [Decidable p] {l : List Oper} (ht : p → JL P ops Q w0 σ φ l (upd fr d (.bool true))) (hf : ¬ p → JL P ops Q w0 σ φ l (upd fr d (.bool false))) : JL P ops Q w0 σ φ l (upd fr d (.bool (decide p))) := by
  by_cases h : p
  · rw [decide_eq_true h]; exact ht h
  · rw [decide_eq_false h]; exact hf h
theorem JL_eqlB {a b : Bool} (hi : P.underlying t = some .bool) (hx : Ev fr x (.bool a)) (hy : Ev fr y (.bool b)) (n : JL P ops Q w0 σ φ rest (upd fr d (.bool (a == b)))) : JL P ops Q w0 σ φ (⟨some d, .binOp .eql t x y t', ty, pos, aft, none⟩ :: rest) fr :=
  JL_pure _ (fun w => by
    simp only [execOp, hx.eq, hy.eq, eqGuard_at_bool, Sem.run_bind, Sem.run_pure, run_eql_bool _ _ _ _ hi, Result.andThen_ok]) n
theorem JL_neqB {a b : Bool} (hi : P.underlying t = some .bool) (hx : Ev fr x (.bool a)) (hy : Ev fr y (.bool b)) (n : JL P ops Q w0 σ φ rest (upd fr d (.bool (a != b)))) : JL P ops Q w0 σ φ (⟨some d, .binOp .neq t x y t', ty, pos, aft, none⟩ :: rest) fr :=
  JL_pure _ (fun w => by
    simp only [execOp, hx.eq, hy.eq, eqGuard_at_bool, Sem.run_bind, Sem.run_pure, run_neq_bool _ _ _ _ hi, Result.andThen_ok]; rfl) n
theorem JL_not {a : Bool} (hx : Ev fr x (.bool a)) (n : JL P ops Q w0 σ φ rest (upd fr d (.bool (!a)))) : JL P ops Q w0 σ φ (⟨some d, .unOp .not t x, ty, pos, aft, none⟩ :: rest) fr :=
  JL_pure _ (fun w => by simp [execOp, hx.eq, Op.unary]) n
theorem JL_neg_to {c : Int} (hx : Ev fr x (.int k a)) (hc : k.wrap (0 - a) = c) (n : JL P ops Q w0 σ φ rest (upd fr d (.int k c))) : JL P ops Q w0 σ φ (⟨some d, .unOp .neg t x, ty, pos, aft, none⟩ :: rest) fr :=
  JL_pure _ (fun w => by simp [execOp, hx.eq, Op.unary, Op.intArith]; simpa using hc) n
theorem JL_convInt {c : Int} (hs : (P.underlying t).isSome = true) (hd : intTy P t' = some k') (hx : Ev fr x (.int k a)) (hc : k'.wrap a = c) (n : JL P ops Q w0 σ φ rest (upd fr d (.int k' c))) :
    JL P ops Q w0 σ φ (⟨some d, .convert t t' x, ty, pos, aft, none⟩ :: rest) fr := by
  have hd' : P.underlying t' = some (.int k') := by
    unfold intTy at hd
    split at hd
    · rename_i h; simp at hd; rw [h, hd]
    · cases hd
  obtain ⟨ds, hs'⟩ := Option.isSome_iff_exists.mp hs
  subst hc
  exact JL_pure _ (fun w => by simp [execOp, hx.eq, convert, run_underlying hd', run_underlying hs', Conv.intToInt]) n
end
end
end Go.Fw
