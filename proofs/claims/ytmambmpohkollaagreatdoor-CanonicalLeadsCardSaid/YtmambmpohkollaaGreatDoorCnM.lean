/- Chapter 16: errors of graphs; bounds of the number of maps; what a map is found to be. Plain. -/
import Derived.Test.YtmambmpohkollaaGreatDoorCnL
namespace Go.Fw.Cn
open Go Go.RowKit Go.Fw
/-- The error of a graph that is to be written. -/
def errG (O R : List Int) (K : List Lk) : Int := if valG O R K then (if 6 < O.length ∨ 6 < R.length then 6 else 0) else 1
theorem errG_0 {O R : List Int} {K : List Lk} : errG O R K = 0 ↔ valG O R K ∧ O.length ≤ 6 ∧ R.length ≤ 6 := by
  unfold errG
  by_cases h1 : valG O R K
  · rw [if_pos h1]
    by_cases h2 : 6 < O.length ∨ 6 < R.length
    · rw [if_pos h2]; exact ⟨fun h => absurd h (by decide), fun h => by omega⟩
    · rw [if_neg h2]; exact ⟨fun _ => ⟨h1, by omega, by omega⟩, fun _ => rfl⟩
  · rw [if_neg h1]; exact ⟨fun h => absurd h (by decide), fun h => absurd h.1 h1⟩
theorem errG_1 {O R : List Int} {K : List Lk} (h : ¬ valG O R K) : errG O R K = 1 := if_neg h
theorem errG_6 {O R : List Int} {K : List Lk} (h : valG O R K) (h2 : 6 < O.length ∨ 6 < R.length) : errG O R K = 6 := by unfold errG; rw [if_pos h, if_pos h2]
theorem errG_ok {O R : List Int} {K : List Lk} (h : valG O R K) (h2 : ¬ (6 < O.length ∨ 6 < R.length)) : errG O R K = 0 := by unfold errG; rw [if_pos h, if_neg h2]
theorem valG_nw {O R : List Int} {K : List Lk} (h : valG O R K) (h0 : O.length = 0) : R.length = 0 := by
  cases R with
  | nil => rfl
  | cons x R =>
    obtain ⟨k, hk, _⟩ := List.mem_map.1 (h.2.2.2.2.2 x List.mem_cons_self)
    obtain ⟨j, hj, rfl⟩ := mem_getK hk
    have := (h.2.2.2.1 j hj).2.2.2.1
    rw [List.eq_nil_of_length_eq_zero h0] at this
    cases this
theorem matG_rows {O R : List Int} {K : List Lk} {D : List Rw} (h : Rls D = matG O R K) : D.length = O.length ∧ ∀ r ∈ D, r.L.length = R.length := by
  refine ⟨by rw [← Rls_len, h, matG_len], fun r hr => ?_⟩
  have : r.L ∈ Rls D := List.mem_map.2 ⟨r, hr, rfl⟩
  rw [h] at this
  exact matG_row this
theorem len_flatMap_le {α β : Type} {f : α → List β} {c : Nat} : ∀ {l : List α}, (∀ a ∈ l, (f a).length ≤ c) → (l.flatMap f).length ≤ l.length * c
  | [], _ => by simp
  | a :: l, h => by
    rw [List.flatMap_cons, List.length_append, List.length_cons, Nat.succ_mul]
    have h1 := h a List.mem_cons_self
    have h2 := len_flatMap_le fun b hb => h b (List.mem_cons_of_mem _ hb)
    omega
theorem ordF_len_le (n : Nat) : ∀ k, (ordF n k).length ≤ n ^ k
  | 0 => Nat.le_refl _
  | k + 1 => by
    rw [ordF, Nat.pow_succ]
    refine Nat.le_trans (len_flatMap_le (c := n) fun p _ => ?_) (Nat.mul_le_mul (ordF_len_le n k) (Nat.le_refl _))
    unfold ext
    rw [List.length_map]
    exact Nat.le_trans (List.length_filter_le _ _) (by rw [List.length_range]; exact Nat.le_refl _)
theorem sum_le {c : Nat} : ∀ {l : List Nat}, (∀ x ∈ l, x ≤ c) → l.sum ≤ l.length * c
  | [], _ => by simp
  | a :: l, h => by
    rw [List.sum_cons, List.length_cons, Nat.succ_mul]
    have h1 := h a List.mem_cons_self
    have h2 := sum_le fun b hb => h b (List.mem_cons_of_mem _ hb)
    omega
theorem pow6 {n : Nat} (h : n ≤ 6) : n ^ n ≤ 46656 := by
  have h1 : n ^ n ≤ 6 ^ n := Nat.pow_le_pow_left h n
  have h2 : 6 ^ n ≤ 6 ^ 6 := Nat.pow_le_pow_right (by decide) h
  exact Nat.le_trans h1 (Nat.le_trans h2 (by decide))
theorem nM_le {X Y : List (List Int)} {w : Nat} (hX : X.length ≤ 6) (hw : w ≤ 6) : nM X Y w ≤ 46656 * 46656 := by
  unfold nM
  refine Nat.le_trans (sum_le (c := 46656) fun x hx => ?_) (Nat.mul_le_mul ?_ (Nat.le_refl _))
  · obtain ⟨p, _, rfl⟩ := List.mem_map.1 hx
    exact Nat.le_trans (List.length_filter_le _ _) (Nat.le_trans (ordF_len_le w w) (pow6 hw))
  · rw [List.length_map]
    exact Nat.le_trans (ordF_len_le _ _) (pow6 hX)
theorem nM_wr {X Y : List (List Int)} {w : Nat} (hX : X.length ≤ 6) (hw : w ≤ 6) : wr64 (nM X Y w) = nM X Y w := wr64_small (by have := nM_le (Y := Y) hX hw; omega)
/-- What Map answers. -/
def bigG (O R : List Int) : Prop := 6 < O.length ∨ 6 < R.length
def MapS (O R : List Int) (K : List Lk) (O' R' : List Int) (K' : List Lk) (o : Option (List Nat × List Nat)) (e : Int) : Prop :=
  (¬ (valG O R K ∧ valG O' R' K') ∧ o = none ∧ e = 1) ∨ (valG O R K ∧ valG O' R' K' ∧ (bigG O R ∨ bigG O' R') ∧ o = none ∧ e = 6) ∨
  (valG O R K ∧ valG O' R' K' ∧ ¬ bigG O R ∧ ¬ bigG O' R' ∧ (O.length ≠ O'.length ∨ R.length ≠ R'.length) ∧ o = none ∧ e = 7) ∨
  (valG O R K ∧ valG O' R' K' ∧ ¬ bigG O R ∧ ¬ bigG O' R' ∧ O.length = O'.length ∧ R.length = R'.length ∧ FM (matG O R K) (matG O' R' K') R.length o ∧ e = mErr o)
theorem MapS.uniq {O R O' R' : List Int} {K K' : List Lk} {o o2 : Option (List Nat × List Nat)} {e e2 : Int} (h : MapS O R K O' R' K' o e) (h2 : MapS O R K O' R' K' o2 e2) : o = o2 ∧ e = e2 := by
  rcases h with ⟨a, b, c⟩ | ⟨a1, a2, a, b, c⟩ | ⟨a1, a2, a3, a4, a, b, c⟩ | ⟨a1, a2, a3, a4, a5, a6, b, c⟩ <;>
  rcases h2 with ⟨a', b', c'⟩ | ⟨a1', a2', a', b', c'⟩ | ⟨a1', a2', a3', a4', a', b', c'⟩ | ⟨a1', a2', a3', a4', a5', a6', b', c'⟩
  · exact ⟨b.trans b'.symm, c.trans c'.symm⟩
  · exact absurd ⟨a1', a2'⟩ a
  · exact absurd ⟨a1', a2'⟩ a
  · exact absurd ⟨a1', a2'⟩ a
  · exact absurd ⟨a1, a2⟩ a'
  · exact ⟨b.trans b'.symm, c.trans c'.symm⟩
  · exact absurd a (fun h => h.elim a3' a4')
  · exact absurd a (fun h => h.elim a3' a4')
  · exact absurd ⟨a1, a2⟩ a'
  · exact absurd a' (fun h => h.elim a3 a4)
  · exact ⟨b.trans b'.symm, c.trans c'.symm⟩
  · omega
  · exact absurd ⟨a1, a2⟩ a'
  · exact absurd a' (fun h => h.elim a3 a4)
  · omega
  · obtain rfl := b.uniq b'
    exact ⟨rfl, c.trans c'.symm⟩
end Go.Fw.Cn
