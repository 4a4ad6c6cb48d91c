/- Function values: made, handed on, called; own boxes as views of a call. -/
import Derived.Test.YtfkfmpfohaomhaaGreatFwC
namespace Go.Fw
open Go Go.RowKit Go.Nat9

section
variable {P : Program} {Q : Exit → Act → World → Prop} {w0 : Ctx} {σ : List Res} {φ : List (Bool × VP)} {fr : Fr} {ops : Array Oper} {rest : List Oper} {d : Nat} {ty : TypeId} {pos : String} {aft : Array Edge}
theorem JL_makeFunc {fn : Fn} {xs : List Operand} {vs : List Value} (ha : EvL fr xs vs) (k : JL P ops Q w0 σ φ rest (upd fr d (.func fn #[] vs.toArray))) :
    JL P ops Q w0 σ φ (⟨some d, .makeFunc fn #[] xs.toArray, ty, pos, aft, none⟩ :: rest) fr :=
  JL_pure _ (fun w => by
    have := ha.eq
    simp [execOp, Instr.makeFunc, ← this]) k
theorem exec_callD {f : FuncId} {x : Operand} {xs : List Operand} {ts : Array TypeId} {vs caps : List Value} {dst : Option Nat} (hf : Ev fr x (.func (.func f) #[] caps.toArray)) (hc : callable P f = true) (ha : xs.map (ev fr) = vs) (w : World) :
    (execOp (ev fr) ⟨dst, .call { callee := .value x, args := xs.toArray, argTypes := ts }, ty, pos, aft, none⟩).run P w = .ok (.enter f (vs ++ caps).toArray) w := by
  subst ha
  simp [execOp, resolve, hf.eq, Deferred.ofValue, invoke, run_callFunc hc]
theorem JL_callD {f : FuncId} {x : Operand} {xs : List Operand} {ts : Array TypeId} {vs caps : List Value} {φin : List VP} {Post : Value → List VP → Prop} (hin : Asks w0 σ φ φin) (con : ConF P f (vs ++ caps) φin Post) (hf : Ev fr x (.func (.func f) #[] caps.toArray)) (hc : callable P f = true) (ha : EvL fr xs vs)
    (k : ∀ v φo, Post v φo → JL P ops Q w0 σ (φo.map (fun p => (true, p)) ++ φ) rest (upd fr d v)) :
    JL P ops Q w0 σ φ (⟨some d, .call { callee := .value x, args := xs.toArray, argTypes := ts }, ty, pos, aft, none⟩ :: rest) fr := by
  intro w s
  have base : wpList P ops Q (⟨some d, .call { callee := .value x, args := xs.toArray, argTypes := ts }, ty, pos, aft, none⟩ :: rest) (act fr) w := by
    refine wpList_plain rfl fun K hK => ?_
    unfold Oper.wp
    rw [act_eval_fun, exec_callD hf hc ha.eq]
    refine (con w (hin w s)).mono ?_
    rintro e w' ⟨v, φo, rfl, hP, hb, hv⟩
    show K ((act fr).put (some d) v) w'
    rw [act_put]
    refine hK _ _ (k v φo hP w' ?_)
    have s' := s.ext hb
    refine ⟨s'.base, s'.own, s'.fresh, s'.dist, fun p hp => ?_⟩
    rcases List.mem_append.1 hp with hp | hp
    · obtain ⟨q, hq, rfl⟩ := List.mem_map.1 hp
      refine q.mono _ _ w' w' (hv q hq) (Nat.le_refl _) (fun _ _ _ => rfl) ?_
      intro b _ hX
      rcases hX with ⟨r, hr, hrk⟩ | ⟨_, hlt⟩
      · exact r.lt w (s.own r hr) b hrk
      · exact Nat.lt_of_lt_of_le (w0.hY _ hlt) s.base.size
    · exact s'.views p hp
  exact base
theorem holds_of_box {b : Nat} {T : TypeId} {cs : List Value} (i : Nat) (h : Nth σ i (box b T cs)) : ∀ w, St w0 w σ φ → (vCells (some ⟨b, 0, none⟩) cs).holds (fun _ => False) w := by
  intro w s j u hj
  have hb : w.heap[b]? = some (.cells cs.toArray T (0, 0)) := s.own _ h.mem
  refine ⟨b, 0, rfl, fun h => h, ?_⟩
  unfold World.cell?
  simp only [hb]
  simpa using hj
theorem Asks.list {l : List VP} (h : Asks w0 σ φ l) : ∀ w, St w0 w σ φ → (vList l).holds (fun _ => False) w := fun w s p hp => h w s p hp
end
theorem ConF.ofList {P : Program} {f : FuncId} {args : List Value} {ps l : List VP} {Post : Value → List VP → Prop} (h : ConF P f args (ps ++ l) Post) : ConF P f args (ps ++ [vList l]) Post := fun w hw => h w fun p hp => by
  rcases List.mem_append.1 hp with hp | hp
  · exact hw p (List.mem_append_left _ hp)
  · exact hw (vList l) (List.mem_append_right _ (by simp)) p hp
/-- the first place where p holds, or -1 -/
def firstI (p : Nat → Bool) (n : Nat) (r : Int) : Prop := (r = -1 ∧ ∀ j, j < n → p j = false) ∨ ∃ k, k < n ∧ r = (k : Int) ∧ p k = true ∧ ∀ j, j < k → p j = false
theorem any_of_first {p : Nat → Bool} {n : Nat} {r : Int} (h : firstI p n r) : decide (0 ≤ r) = (List.range n).any p := by
  rcases h with ⟨rfl, h⟩ | ⟨k, hk, rfl, hp, _⟩
  · rw [decide_eq_false (by decide)]
    symm
    rw [List.any_eq_false]
    intro j hj
    rw [h j (List.mem_range.1 hj)]; simp
  · rw [decide_eq_true (by omega)]
    symm
    rw [List.any_eq_true]
    exact ⟨k, List.mem_range.2 hk, hp⟩
end Go.Fw
