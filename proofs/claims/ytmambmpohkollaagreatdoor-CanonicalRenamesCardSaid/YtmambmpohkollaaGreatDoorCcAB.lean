/- Chapter 48: lists of pairs: their cells, their order, what is inserted, what is left without doubles. Plain. -/
import Derived.Test.YtmambmpohkollaaGreatDoorFwC
namespace Go.Fw
open Go Go.RowKit

abbrev Pr := Int × Int
abbrev pv (p : Pr) : Value := .agg #[.int .i64 p.1, .int .i64 p.2]
def dP : Pr := (0, 0)
theorem getD_some {l : List Pr} {j : Nat} (h : j < l.length) : l[j]? = some (l.getD j dP) := by
  rw [List.getD_eq_getElem?_getD, List.getElem?_eq_getElem h]; rfl
/-! ## The order -/
abbrev ltP (p q : Pr) : Prop := p.1 < q.1 ∨ p.1 = q.1 ∧ p.2 < q.2
theorem ltP.irr (p : Pr) : ¬ ltP p p := by rintro (h | h) <;> omega
theorem ltP.trans {p q r : Pr} (h : ltP p q) (k : ltP q r) : ltP p r := by
  rcases h with h | ⟨h, h'⟩ <;> rcases k with k | ⟨k, k'⟩
  · exact .inl (by omega)
  · exact .inl (by omega)
  · exact .inl (by omega)
  · exact .inr ⟨by omega, by omega⟩
theorem ltP.asymm {p q : Pr} (h : ltP p q) : ¬ ltP q p := fun k => ltP.irr p (h.trans k)
/-- Strictly in order. -/
abbrev Asc (l : List Pr) : Prop := l.Pairwise ltP
theorem Asc.ext : ∀ {a b : List Pr}, Asc a → Asc b → (∀ x, x ∈ a ↔ x ∈ b) → a = b
  | [], [], _, _, _ => rfl
  | [], y :: b, _, _, h => absurd ((h y).2 List.mem_cons_self) (by simp)
  | x :: a, [], _, _, h => absurd ((h x).1 List.mem_cons_self) (by simp)
  | x :: a, y :: b, ha, hb, h => by
    have ha' := List.pairwise_cons.1 ha
    have hb' := List.pairwise_cons.1 hb
    have hxy : x = y := by
      rcases List.mem_cons.1 ((h x).1 List.mem_cons_self) with e | e
      · exact e
      · rcases List.mem_cons.1 ((h y).2 List.mem_cons_self) with e' | e'
        · exact e'.symm
        · exact absurd (ha'.1 y e') (hb'.1 x e).asymm
    subst hxy
    rw [Asc.ext ha'.2 hb'.2 fun z => ?_]
    constructor
    · intro hz
      rcases List.mem_cons.1 ((h z).1 (List.mem_cons_of_mem _ hz)) with e | e
      · subst e; exact absurd (ha'.1 z hz) (ltP.irr z)
      · exact e
    · intro hz
      rcases List.mem_cons.1 ((h z).2 (List.mem_cons_of_mem _ hz)) with e | e
      · subst e; exact absurd (hb'.1 z hz) (ltP.irr z)
      · exact e

/-! ## Inserting -/
/-! ## Without doubles next to each other -/
theorem getD_someG {α : Type} {z : α} {l : List α} {j : Nat} (h : j < l.length) : l[j]? = some (l.getD j z) := by
  rw [List.getD_eq_getElem?_getD, List.getElem?_eq_getElem h]; rfl
section
variable {α : Type} [DecidableEq α] {z : α}
def cpG (z : α) (d : List α) : Nat → List α
  | 0 => []
  | i + 1 => if 0 < i ∧ d.getD i z = d.getD (i - 1) z then cpG z d i else cpG z d i ++ [d.getD i z]
theorem cpG_len (d : List α) : ∀ i, (cpG z d i).length ≤ i
  | 0 => Nat.le_refl _
  | i + 1 => by
    have := cpG_len d i
    rw [cpG]
    split
    · omega
    · rw [List.length_append]; simp; omega
theorem cpG_full {d : List α} : ∀ {i : Nat}, i ≤ d.length → (∀ j, 0 < j → j < i → d.getD j z ≠ d.getD (j - 1) z) → cpG z d i = d.take i
  | 0, _, _ => by simp [cpG]
  | i + 1, hi, h => by
    rw [cpG, cpG_full (by omega) (fun j h0 hj => h j h0 (by omega))]
    rw [if_neg (fun e => h i e.1 (by omega) e.2), List.take_add_one, getD_someG (z := z) (by omega)]
    rfl
theorem cpG_all {d : List α} (h : ∀ j, 0 < j → j < d.length → d.getD j z ≠ d.getD (j - 1) z) : cpG z d d.length = d := by
  rw [cpG_full (Nat.le_refl _) h, List.take_length]
theorem cpG_mem {d : List α} {x : α} : ∀ {i : Nat}, x ∈ cpG z d i ↔ ∃ j, j < i ∧ d.getD j z = x
  | 0 => by simp [cpG]
  | i + 1 => by
    have ih := cpG_mem (d := d) (x := x) (i := i)
    rw [cpG]
    split
    · rename_i h
      rw [ih]
      constructor
      · rintro ⟨j, hj, e⟩; exact ⟨j, by omega, e⟩
      · rintro ⟨j, hj, e⟩
        by_cases hji : j = i
        · subst hji; exact ⟨j - 1, by omega, by rw [← h.2]; exact e⟩
        · exact ⟨j, by omega, e⟩
    · rw [List.mem_append, ih, List.mem_singleton]
      constructor
      · rintro (⟨j, hj, e⟩ | e)
        · exact ⟨j, by omega, e⟩
        · exact ⟨i, by omega, e.symm⟩
      · rintro ⟨j, hj, e⟩
        by_cases hji : j = i
        · subst hji; exact .inr e.symm
        · exact .inl ⟨j, by omega, e⟩
/-- The second loop's state: what has been kept stands ahead, what is to come is as it was. -/
structure CpSt (z : α) (d row : List α) (k j kk : Nat) : Prop where
  len : row.length = d.length
  cnt : (cpG z d (k + j)).length = kk
  pre : row.take kk = cpG z d (k + j)
  post : ∀ m, k + j ≤ m + 1 → m < d.length → row.getD m z = d.getD m z
  lt : kk < k + j
  bnd : k + j ≤ d.length
theorem CpSt.start {d : List α} {k : Nat} (h0 : 0 < k) (hk : k < d.length) (h : ∀ j, 0 < j → j < k → d.getD j z ≠ d.getD (j - 1) z) (he : d.getD k z = d.getD (k - 1) z) : CpSt z d d k 1 k := by
  have e : cpG z d (k + 1) = d.take k := by
    rw [cpG, if_pos ⟨h0, he⟩, cpG_full (by omega) h]
  exact ⟨rfl, by rw [e, List.length_take]; omega, e.symm, fun _ _ _ => rfl, by omega, by omega⟩
theorem CpSt.hold {d row : List α} {k j kk : Nat} (h : CpSt z d row k j kk) (hj : k + j < d.length) (h0 : 0 < k + j) (he : d.getD (k + j) z = d.getD (k + j - 1) z) : CpSt z d row k (j + 1) kk := by
  have e : cpG z d (k + (j + 1)) = cpG z d (k + j) := by
    rw [show k + (j + 1) = (k + j) + 1 from by omega, cpG, if_pos ⟨h0, he⟩]
  exact ⟨h.len, by rw [e]; exact h.cnt, by rw [e]; exact h.pre, fun m hm hl => h.post m (by omega) hl, by have := h.lt; omega, by omega⟩
theorem CpSt.put {d row : List α} {k j kk : Nat} (h : CpSt z d row k j kk) (hj : k + j < d.length) (he : d.getD (k + j) z ≠ d.getD (k + j - 1) z) : CpSt z d (row.set kk (d.getD (k + j) z)) k (j + 1) (kk + 1) := by
  have hl := h.lt
  have e : cpG z d (k + (j + 1)) = cpG z d (k + j) ++ [d.getD (k + j) z] := by
    rw [show k + (j + 1) = (k + j) + 1 from by omega, cpG, if_neg (fun e => he e.2)]
  refine ⟨by rw [List.length_set]; exact h.len, by rw [e, List.length_append, h.cnt]; rfl, ?_, fun m hm hl' => ?_, by omega, by omega⟩
  · rw [e, ← h.pre]
    have hlen : kk < row.length := by rw [h.len]; omega
    apply List.ext_getElem?
    intro t
    rcases Nat.lt_trichotomy t kk with ht | ht | ht
    · rw [List.getElem?_take, if_pos (by omega), List.getElem?_set_ne (by omega), List.getElem?_append_left (by rw [List.length_take]; omega), List.getElem?_take, if_pos ht]
    · subst ht
      rw [List.getElem?_take, if_pos (by omega), List.getElem?_set_self hlen, List.getElem?_append_right (by rw [List.length_take]; omega), List.length_take, Nat.min_eq_left (by omega), Nat.sub_self]
      rfl
    · rw [List.getElem?_eq_none (by rw [List.length_take, List.length_set]; omega), List.getElem?_eq_none (by rw [List.length_append, List.length_take]; simp; omega)]
  · rw [List.getD_eq_getElem?_getD, List.getElem?_set_ne (by omega), ← List.getD_eq_getElem?_getD]
    exact h.post m (by omega) hl'
end
theorem getD_dropG {α : Type} {z : α} (l : List α) (k j : Nat) : (l.drop k).getD j z = l.getD (k + j) z := by
  rw [List.getD_eq_getElem?_getD, List.getD_eq_getElem?_getD, List.getElem?_drop]
end Go.Fw

/- Chapter 48: concordances, what they lead to. Plain. -/
namespace Go.Fw
open Go Go.RowKit

abbrev numOk (n : Int) : Prop := 1 ≤ n ∧ n ≤ 999
def okAt (l : List Pr) (i : Nat) : Prop := (numOk (l.getD i dP).1 ∧ numOk (l.getD i dP).2) ∧ (0 < i → ltP (l.getD (i - 1) dP) (l.getD i dP))
instance (l : List Pr) (i : Nat) : Decidable (okAt l i) := by unfold okAt; infer_instance
def validC (l : List Pr) : Prop := (∀ i, i < l.length → okAt l i) ∧ l.length ≤ 128
instance (l : List Pr) : Decidable (validC l) := by unfold validC; infer_instance
theorem validC.asc {l : List Pr} (h : validC l) : Asc l := by
  have step : ∀ i, i + 1 < l.length → ltP (l.getD i dP) (l.getD (i + 1) dP) := fun i hi => (h.1 (i + 1) hi).2 (by omega)
  have far : ∀ d i, i + d + 1 < l.length → ltP (l.getD i dP) (l.getD (i + d + 1) dP) := by
    intro d
    induction d with
    | zero => intro i hi; exact step i hi
    | succ d ih => intro i hi; exact (ih i (by omega)).trans (step (i + d + 1) hi)
  refine List.pairwise_iff_getElem.2 fun i j hi hj hij => ?_
  have := far (j - i - 1) i (by omega)
  rw [show i + (j - i - 1) + 1 = j from by omega] at this
  rw [List.getD_eq_getElem?_getD, List.getD_eq_getElem?_getD, List.getElem?_eq_getElem hi, List.getElem?_eq_getElem hj] at this
  exact this
theorem validC.num {l : List Pr} (h : validC l) {x : Pr} (hx : x ∈ l) : numOk x.1 ∧ numOk x.2 := by
  obtain ⟨i, hi, rfl⟩ := List.mem_iff_getElem.1 hx
  have := (h.1 i hi).1
  rwa [List.getD_eq_getElem?_getD, List.getElem?_eq_getElem hi] at this
end Go.Fw
namespace Go.Fw
open Go Go.RowKit
end Go.Fw
namespace Go.Fw
open Go Go.RowKit
end Go.Fw
namespace Go.Fw
open Go Go.RowKit
/-! ## The inverse -/
/-! ## The composition -/
end Go.Fw
