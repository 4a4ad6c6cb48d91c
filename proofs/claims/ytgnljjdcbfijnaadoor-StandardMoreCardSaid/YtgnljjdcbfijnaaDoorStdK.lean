/- Chapter 38: what meets two lists of spans. Plain. -/
import Derived.Test.YtgnljjdcbfijnaaDoorStdF
import Derived.Test.YtgnljjdcbfijnaaDoorStdJ
namespace Go.Fw
open Go Go.RowKit Go.Nat9

theorem maxr (a b : Rat) : a ≤ (if a < b then b else a) ∧ b ≤ (if a < b then b else a) := by
  split
  · rename_i h; exact ⟨Rat.le_of_lt h, Rat.le_refl⟩
  · rename_i h; exact ⟨Rat.le_refl, Rat.not_lt.1 h⟩
theorem minr (a b : Rat) : (if b < a then b else a) ≤ a ∧ (if b < a then b else a) ≤ b := by
  split
  · rename_i h; exact ⟨Rat.le_of_lt h, Rat.le_refl⟩
  · rename_i h; exact ⟨Rat.le_refl, Rat.not_lt.1 h⟩
theorem max_le {a b q : Rat} (h1 : a ≤ q) (h2 : b ≤ q) : (if a < b then b else a) ≤ q := by split <;> assumption
theorem le_min {a b q : Rat} (h1 : q ≤ a) (h2 : q ≤ b) : q ≤ (if b < a then b else a) := by split <;> assumption
theorem meet1_mem {a b x : Rat × Rat} (h : x ∈ meet1 a b) : (a.1 ≤ x.1 ∧ b.1 ≤ x.1) ∧ (x.2 ≤ a.2 ∧ x.2 ≤ b.2) ∧ x.1 ≤ x.2 := by
  by_cases hc : (if a.1 < b.1 then b.1 else a.1) ≤ (if b.2 < a.2 then b.2 else a.2)
  · rw [meet1_yes rfl rfl hc, List.mem_singleton] at h
    subst h
    exact ⟨maxr _ _, minr _ _, hc⟩
  · rw [meet1_no rfl rfl hc] at h; cases h
theorem meet1_in {a b : Rat × Rat} {q : Rat} : (∃ x, x ∈ meet1 a b ∧ x.1 ≤ q ∧ q ≤ x.2) ↔ (a.1 ≤ q ∧ q ≤ a.2) ∧ (b.1 ≤ q ∧ q ≤ b.2) := by
  constructor
  · rintro ⟨x, hx, h1, h2⟩
    obtain ⟨⟨a1, b1⟩, ⟨a2, b2⟩, _⟩ := meet1_mem hx
    exact ⟨⟨Rat.le_trans a1 h1, Rat.le_trans h2 a2⟩, Rat.le_trans b1 h1, Rat.le_trans h2 b2⟩
  · rintro ⟨⟨a1, a2⟩, b1, b2⟩
    have h1 := max_le a1 b1
    have h2 := le_min a2 b2
    refine ⟨((if a.1 < b.1 then b.1 else a.1), (if b.2 < a.2 then b.2 else a.2)), ?_, h1, h2⟩
    rw [meet1_yes rfl rfl (Rat.le_trans h1 h2)]
    exact List.mem_singleton.2 rfl
theorem meetI_mem {S : List (Rat × Rat)} {a x : Rat × Rat} {B : List (Rat × Rat)} : ∀ {j : Nat}, x ∈ meetI S a B j ↔ x ∈ S ∨ ∃ k, k < j ∧ x ∈ meet1 a (B.getD k (0, 0))
  | 0 => ⟨.inl, fun h => h.elim id fun ⟨_, hk, _⟩ => absurd hk (Nat.not_lt_zero _)⟩
  | j + 1 => by
    rw [meetI, List.mem_append, meetI_mem (j := j)]
    constructor
    · rintro ((h | ⟨k, hk, h⟩) | h)
      · exact .inl h
      · exact .inr ⟨k, by omega, h⟩
      · exact .inr ⟨j, by omega, h⟩
    · rintro (h | ⟨k, hk, h⟩)
      · exact .inl (.inl h)
      · by_cases e : k = j
        · subst e; exact .inr h
        · exact .inl (.inr ⟨k, by omega, h⟩)
theorem meetL_mem {A B : List (Rat × Rat)} {x : Rat × Rat} : ∀ {i : Nat}, x ∈ meetL A B i ↔ ∃ k, k < i ∧ ∃ n, n < B.length ∧ x ∈ meet1 (A.getD k (0, 0)) (B.getD n (0, 0))
  | 0 => ⟨fun h => (by cases h), fun ⟨_, hk, _⟩ => absurd hk (Nat.not_lt_zero _)⟩
  | i + 1 => by
    rw [meetL, meetI_mem, meetL_mem (i := i)]
    constructor
    · rintro (⟨k, hk, h⟩ | h)
      · exact ⟨k, by omega, h⟩
      · exact ⟨i, by omega, h⟩
    · rintro ⟨k, hk, h⟩
      by_cases e : k = i
      · subst e; exact .inr h
      · exact .inl ⟨k, by omega, h⟩
theorem inS_mem {S : List (Rat × Rat)} {q : Rat} : inS S q = true ↔ ∃ x, x ∈ S ∧ x.1 ≤ q ∧ q ≤ x.2 := by
  unfold inS
  rw [List.any_eq_true]
  constructor
  · rintro ⟨x, hx, h⟩; exact ⟨x, hx, of_decide_eq_true h⟩
  · rintro ⟨x, hx, h⟩; exact ⟨x, hx, decide_eq_true h⟩
/-- the union of what meets is the meeting of the unions -/
theorem meetL_in (A B : List (Rat × Rat)) (q : Rat) : inS (meetL A B A.length) q = (inS A q && inS B q) := by
  rw [Bool.eq_iff_iff, Bool.and_eq_true, inS_mem, inS_iff, inS_iff]
  constructor
  · rintro ⟨x, hx, h⟩
    obtain ⟨k, hk, n, hn, hm⟩ := meetL_mem.1 hx
    obtain ⟨h1, h2⟩ := meet1_in.1 ⟨x, hm, h⟩
    exact ⟨⟨k, hk, h1⟩, n, hn, h2⟩
  · rintro ⟨⟨k, hk, h1⟩, n, hn, h2⟩
    obtain ⟨x, hx, h⟩ := meet1_in.2 ⟨h1, h2⟩
    exact ⟨x, meetL_mem.2 ⟨k, hk, n, hn, hx⟩, h⟩
/-- spans one after another -/
def Ord (S : List (Rat × Rat)) : Prop := S.Pairwise fun x y => x.2 < y.1
def OrdX (S : List (Rat × Rat)) : Prop := ∀ i j, i < j → j < S.length → (S.getD i (0, 0)).2 < (S.getD j (0, 0)).1
theorem SI.ordX {S : List (Rat × Rat)} {B : Rat → Prop} (h : SI S B) : OrdX S := by
  intro i j hij hj
  obtain ⟨d, rfl⟩ : ∃ d, j = i + 1 + d := ⟨j - (i + 1), by omega⟩
  induction d with
  | zero => exact h.ap i hj
  | succ d ih =>
    have h1 := ih (by omega) (by omega)
    exact Rat.not_le.1 fun e => absurd (lt_le h1 (Rat.le_trans (h.el (i + 1 + d) (by omega)).2.1 (Rat.le_of_lt (h.ap (i + 1 + d) (by omega))))) (Rat.not_lt.2 e)
theorem meetI_ord {S : List (Rat × Rat)} {a : Rat × Rat} {B : List (Rat × Rat)} (hS : Ord S) (hlo : ∀ x, x ∈ S → x.2 < a.1) (hB : OrdX B) : ∀ {j : Nat}, j ≤ B.length → Ord (meetI S a B j)
  | 0, _ => hS
  | j + 1, hj => by
    rw [meetI]
    refine List.pairwise_append.2 ⟨meetI_ord hS hlo hB (j := j) (by omega), ?_, fun x hx y hy => ?_⟩
    · by_cases hc : (if a.1 < (B.getD j (0, 0)).1 then (B.getD j (0, 0)).1 else a.1) ≤ (if (B.getD j (0, 0)).2 < a.2 then (B.getD j (0, 0)).2 else a.2)
      · rw [meet1_yes rfl rfl hc]; exact List.pairwise_singleton _ _
      · rw [meet1_no rfl rfl hc]; exact List.Pairwise.nil
    · have hy1 := (meet1_mem hy).1
      rcases meetI_mem.1 hx with hx | ⟨k, hk, hx⟩
      · exact lt_le (hlo x hx) hy1.1
      · have hx1 := (meet1_mem hx).2.1.2
        have hb := lt_le (hB k j hk (by omega)) hy1.2
        exact Rat.not_le.1 fun e => absurd hb (Rat.not_lt.2 (Rat.le_trans e hx1))
theorem meetL_ord {A B : List (Rat × Rat)} (hA : OrdX A) (hB : OrdX B) : ∀ {i : Nat}, i ≤ A.length → Ord (meetL A B i)
  | 0, _ => List.Pairwise.nil
  | i + 1, hi => by
    rw [meetL]
    refine meetI_ord (meetL_ord hA hB (i := i) (by omega)) (fun x hx => ?_) hB (Nat.le_refl _)
    obtain ⟨k, hk, n, hn, hm⟩ := meetL_mem.1 hx
    have hx1 := (meet1_mem hm).2.1.1
    exact Rat.not_le.1 fun e => absurd (hA k i hk (by omega)) (Rat.not_lt.2 (Rat.le_trans e hx1))
theorem meetL_ne {A B : List (Rat × Rat)} {x : Rat × Rat} {i : Nat} (h : x ∈ meetL A B i) : x.1 ≤ x.2 := by
  obtain ⟨_, _, _, _, hm⟩ := meetL_mem.1 h
  exact (meet1_mem hm).2.2
theorem Ord.ordX {S : List (Rat × Rat)} (h : Ord S) : OrdX S := by
  intro i j hij hj
  have e := List.pairwise_iff_getElem.1 h i j (by omega) hj hij
  rw [List.getD_eq_getElem?_getD, List.getElem?_eq_getElem (show i < S.length by omega), List.getD_eq_getElem?_getD, List.getElem?_eq_getElem hj]
  exact e
end Go.Fw
