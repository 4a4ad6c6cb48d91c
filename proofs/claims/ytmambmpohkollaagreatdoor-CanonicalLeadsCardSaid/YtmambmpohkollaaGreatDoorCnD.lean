/- Chapter 16: die numbers that ascend, places in ascending lists, graphs that are valid. Plain. -/
import Derived.Test.YtmambmpohkollaaGreatDoorCnB
import Derived.Test.YtmambmpohkollaaGreatDoorCnR
import Derived.Test.YtmambmpohkollaaGreatDoorFwTW
namespace Go.Fw.Cn
open Go Go.RowKit Go.Fw
theorem memI_first {x : Int} {L : List Int} {r : Int} (h : firstI (fun j => decide (x = L.getD j 0)) L.length r) : decide (0 ≤ r) = decide (x ∈ L) := by
  rw [decide_eq_decide]
  rcases h with ⟨rfl, h⟩ | ⟨j, hj, rfl, h1, h2⟩
  · exact ⟨fun e => absurd e (by decide), fun hx => by
      obtain ⟨j, hj, e⟩ := List.mem_iff_getElem.1 hx
      have h2 : decide (x = L.getD j 0) = false := h j hj
      exact absurd (show x = L.getD j 0 by rw [List.getD_eq_getElem?_getD, List.getElem?_eq_getElem hj]; exact e.symm) (of_decide_eq_false h2)⟩
  · refine ⟨fun _ => ?_, fun _ => by omega⟩
    have := of_decide_eq_true h1
    rw [this, List.getD_eq_getElem?_getD, List.getElem?_eq_getElem hj]
    exact List.getElem_mem hj
theorem getI_mem {l : List Int} {j : Nat} (h : j < l.length) : l.getD j 0 ∈ l := by
  rw [List.getD_eq_getElem?_getD, List.getElem?_eq_getElem h]; exact List.getElem_mem h
theorem mem_getI {l : List Int} {x : Int} (h : x ∈ l) : ∃ j, j < l.length ∧ l.getD j 0 = x := by
  obtain ⟨j, hj, e⟩ := List.mem_iff_getElem.1 h
  exact ⟨j, hj, by rw [List.getD_eq_getElem?_getD, List.getElem?_eq_getElem hj, e]; rfl⟩
/-! ## Die numbers -/
def nmA (L : List Int) (i : Nat) : Prop := 1 ≤ L.getD i 0 ∧ L.getD i 0 ≤ 999 ∧ (i = 0 ∨ L.getD (i - 1) 0 < L.getD i 0)
instance (L : List Int) (i : Nat) : Decidable (nmA L i) := by unfold nmA; infer_instance
def nmL (L : List Int) : Prop := ∀ i, i < L.length → nmA L i
instance (L : List Int) : Decidable (nmL L) := by unfold nmL; infer_instance
theorem nm_step {L : List Int} {i : Nat} (h : ∀ j, j < i → nmA L j) (h2 : nmA L i) : ∀ j, j < i + 1 → nmA L j := fun j hj => by
  by_cases e : j = i
  · subst e; exact h2
  · exact h j (by omega)
theorem nm5 (L : List Int) (i : Nat) : L.getD i 0 < 1 ∨ (¬ L.getD i 0 < 1 ∧ 999 < L.getD i 0) ∨ (¬ L.getD i 0 < 1 ∧ ¬ 999 < L.getD i 0 ∧ ¬ (0 : Int) < (i : Int)) ∨
    (¬ L.getD i 0 < 1 ∧ ¬ 999 < L.getD i 0 ∧ (0 : Int) < (i : Int) ∧ L.getD i 0 ≤ L.getD (i - 1) 0) ∨ (¬ L.getD i 0 < 1 ∧ ¬ 999 < L.getD i 0 ∧ (0 : Int) < (i : Int) ∧ ¬ L.getD i 0 ≤ L.getD (i - 1) 0) := by omega
theorem nm_no {L : List Int} {i : Nat} (hi : i < L.length) (h : ¬ nmA L i) : decide (nmL L) = false := decide_eq_false fun c => h (c i hi)
/-- Strictly ascending. -/
def ascI (L : List Int) : Prop := ∀ i j, i < j → j < L.length → L.getD i 0 < L.getD j 0
theorem nmL.asc {L : List Int} (h : nmL L) : ascI L := by
  intro i j hij hj
  induction j with
  | zero => omega
  | succ j ih =>
    have h1 := (h (j + 1) hj).2.2.resolve_left (by omega)
    rw [Nat.add_sub_cancel] at h1
    rcases Nat.lt_or_ge i j with hl | hl
    · have := ih hl (by omega); omega
    · obtain rfl : i = j := by omega
      exact h1
theorem nmL.pos {L : List Int} (h : nmL L) {x : Int} (hx : x ∈ L) : 1 ≤ x ∧ x ≤ 999 := by
  obtain ⟨j, hj, rfl⟩ := mem_getI hx
  exact ⟨(h j hj).1, (h j hj).2.1⟩
/-- The place of a number in an ascending list: how many are smaller at the beginning. -/
def bsI (x : Int) : List Int → Nat
  | [] => 0
  | y :: l => if y < x then bsI x l + 1 else 0
theorem bsI_eq {x : Int} : ∀ {L : List Int} {i : Nat}, i ≤ L.length → (∀ k, k < i → L.getD k 0 < x) → (i < L.length → x ≤ L.getD i 0) → bsI x L = i
  | [], i, h, _, _ => by simp at h; subst h; rfl
  | y :: l, 0, _, _, h2 => by
    have : x ≤ y := h2 (by simp)
    rw [bsI, if_neg (by omega)]
  | y :: l, i + 1, h, h1, h2 => by
    have h0 : y < x := h1 0 (by omega)
    rw [bsI, if_pos h0, bsI_eq (by simpa using h) (fun k hk => by simpa using h1 (k + 1) (by omega)) (fun hi => by simpa using h2 (by simpa using hi))]
structure BS (L : List Int) (x : Int) (i j : Nat) : Prop where
  le : i ≤ j
  len : j ≤ L.length
  lo : ∀ k, k < i → L.getD k 0 < x
  hi : ∀ k, j ≤ k → k < L.length → x ≤ L.getD k 0
theorem BS.zero (L : List Int) (x : Int) : BS L x 0 L.length := ⟨Nat.zero_le _, Nat.le_refl _, fun k hk => absurd hk (Nat.not_lt_zero _), fun k h1 h2 => absurd h2 (by omega)⟩
theorem asc_le {L : List Int} (h : ascI L) {i j : Nat} (hij : i ≤ j) (hj : j < L.length) : L.getD i 0 ≤ L.getD j 0 := by
  rcases Nat.lt_or_eq_of_le hij with h1 | rfl
  · exact Int.le_of_lt (h i j h1 hj)
  · exact Int.le_refl _
theorem BS.up {L : List Int} {x : Int} {i j m : Nat} (h : BS L x i j) (ha : ascI L) (hm : m < j) (hx : L.getD m 0 < x) : BS L x (m + 1) j :=
  ⟨hm, h.len, fun k hk => Int.lt_of_le_of_lt (asc_le ha (by omega) (Nat.lt_of_lt_of_le hm h.len)) hx, h.hi⟩
theorem BS.down {L : List Int} {x : Int} {i j m : Nat} (h : BS L x i j) (ha : ascI L) (hi : i ≤ m) (hm : m < j) (hx : ¬ L.getD m 0 < x) : BS L x i m :=
  ⟨hi, Nat.le_trans (Nat.le_of_lt hm) h.len, h.lo, fun k h1 h2 => Int.le_trans (by omega) (asc_le ha h1 h2)⟩
theorem BS.bs {L : List Int} {x : Int} {i j : Nat} (h : BS L x i j) (hij : j ≤ i) : bsI x L = i := by
  have := h.le
  obtain rfl : i = j := by omega
  exact bsI_eq h.len h.lo (h.hi i (Nat.le_refl _))
theorem BS.yes {L : List Int} {x : Int} {i : Nat} (hl : i < L.length) (he : L.getD i 0 = x) : decide (x ∈ L) = true := decide_eq_true (he ▸ getI_mem hl)
theorem BS.no {L : List Int} {x : Int} {i j : Nat} (h : BS L x i j) (hij : j ≤ i) (ha : ascI L) (hn : ¬ (i < L.length ∧ L.getD i 0 = x)) : decide (x ∈ L) = false := by
  refine decide_eq_false fun hx => hn ?_
  obtain ⟨k, hk, e⟩ := mem_getI hx
  have hle := h.le
  obtain rfl : i = j := by omega
  have hik : i ≤ k := Nat.le_of_not_lt fun hk2 => by have := h.lo k hk2; omega
  have h1 := h.hi i (Nat.le_refl _) (by omega)
  have h2 := asc_le ha hik hk
  exact ⟨by omega, by omega⟩
theorem bsI_get {L : List Int} (ha : ascI L) {x : Int} (hx : x ∈ L) : bsI x L < L.length ∧ L.getD (bsI x L) 0 = x := by
  obtain ⟨k, hk, e⟩ := mem_getI hx
  have : bsI x L = k := bsI_eq (by omega) (fun j hj => by rw [← e]; exact ha j k hj hk) (fun _ => by omega)
  rw [this]; exact ⟨hk, e⟩
theorem bsI_inj {L : List Int} (ha : ascI L) {i : Nat} (hi : i < L.length) : bsI (L.getD i 0) L = i := bsI_eq (by omega) (fun j hj => ha j i hj hi) (fun _ => Int.le_refl _)
theorem shr1_nat {i j : Nat} : ((i : Int) + (j : Int)).fdiv (2 ^ (min (1 : Int).toNat IntKind.u64.bits)) = (((i + j) / 2 : Nat) : Int) := by
  rw [← Int.natCast_add]
  exact shr_nat .u64 (i + j) 1 (by decide)
end Go.Fw.Cn
