/- Chapter 38: spans in order; their ends fit. Plain. -/
import Derived.Test.YtgnljjdcbfijnaaDoorStdC
namespace Go.Fw
open Go Go.RowKit Go.Nat9

theorem castP {k : Int} (h : 1 ≤ k) : (0 : Rat) < (k : Rat) := by
  rw [show (0 : Rat) = ((0 : Int) : Rat) from rfl]
  exact Rat.intCast_lt_intCast.2 (by omega)
theorem ofq_pos {a k : Int} (ha : 1 ≤ a) (hk : 1 ≤ k) : 0 < ofq a k := by
  rw [ofq_eq, Rat.div_def]
  exact Rat.mul_pos (castP ha) (Rat.inv_pos.2 (castP hk))
theorem ofq_le {a b k j : Int} (hk : 1 ≤ k) (hj : 1 ≤ j) (h : a * j ≤ b * k) : ofq a k ≤ ofq b j := by
  rw [← Rat.not_lt, ofq_eq, ofq_eq]
  intro hc
  rw [Rat.div_lt_iff (castP hj), show (a : Rat) / (k : Rat) * (j : Rat) = ((a * j : Int) : Rat) / (k : Rat) from by rw [Rat.intCast_mul]; grind, Rat.lt_div_iff (castP hk), ← Rat.intCast_mul] at hc
  have := Rat.intCast_lt_intCast.1 hc
  omega
structure SI (S : List (Rat × Rat)) (B : Rat → Prop) : Prop where
  el : ∀ j, j < S.length → 0 < (S.getD j (0, 0)).1 ∧ (S.getD j (0, 0)).1 ≤ (S.getD j (0, 0)).2 ∧ B (S.getD j (0, 0)).1
  ap : ∀ j, j + 1 < S.length → (S.getD j (0, 0)).2 < (S.getD (j + 1) (0, 0)).1
theorem SI.step {S : List (Rat × Rat)} {B C : Rat → Prop} (h : SI S B) {lo hi : Rat} (h0 : 0 < lo) (h1 : lo ≤ hi) (hB : ∀ x, B x → x ≤ lo) (hC : ∀ x, B x → C x) (hl : C lo) : SI (sstep S lo hi) C := by
  unfold sstep
  split
  · rename_i hc
    have hn : S.length - 1 < S.length := by omega
    refine ⟨fun j hj => ?_, fun j hj => ?_⟩
    · rw [List.length_set] at hj
      rw [getD_setP _ _ _ _ hn]
      split
      · have e := h.el _ hn
        exact ⟨e.1, Rat.le_trans (hB _ e.2.2) h1, hC _ e.2.2⟩
      · have e := h.el _ hj
        exact ⟨e.1, e.2.1, hC _ e.2.2⟩
    · rw [List.length_set] at hj
      rw [getD_setP _ _ _ _ hn, getD_setP _ _ _ _ hn, if_neg (by omega)]
      split
      · rename_i e
        show _ < (S.getD (S.length - 1) (0, 0)).1
        rw [e]
        exact h.ap j hj
      · exact h.ap j hj
  · rename_i hc
    refine ⟨fun j hj => ?_, fun j hj => ?_⟩
    · rw [List.length_append, List.length_cons, List.length_nil] at hj
      rw [getD_snocP]
      split
      · rename_i e
        have e := h.el _ e
        exact ⟨e.1, e.2.1, hC _ e.2.2⟩
      · rw [if_pos (by omega)]
        exact ⟨h0, h1, hl⟩
    · rw [List.length_append, List.length_cons, List.length_nil] at hj
      rw [getD_snocP, getD_snocP, if_pos (by omega)]
      split
      · rename_i e; exact h.ap j e
      · rw [if_pos (by omega)]
        have e : j = S.length - 1 := by omega
        subst e
        exact Rat.not_le.1 fun e => hc ⟨by omega, e⟩
theorem si_spR {w tol m : Int} (hw : wOk w) (hl : limOk tol m) : ∀ {i : Nat}, i ≤ m.toNat → SI (spR w tol m i) (fun x => ∀ k, 1 ≤ k → k ≤ m - (i : Int) → x ≤ slo w tol k)
  | 0, _ => ⟨fun j hj => absurd hj (Nat.not_lt_zero _), fun j hj => absurd hj (Nat.not_lt_zero _)⟩
  | i + 1, hi => by
    obtain ⟨ht, h1, h2⟩ := hl
    obtain ⟨w1, w2⟩ := hw
    have hx := mxo_in (a := w - tol) (b := w + tol) (by omega) (by omega)
    refine (si_spR ⟨w1, w2⟩ ⟨ht, h1, h2⟩ (i := i) (by omega)).step (ofq_pos hx.1 (by omega)) (ofq_le (by omega) (by omega) (Int.mul_le_mul_of_nonneg_right hx.2 (by omega))) (fun x hB => hB _ (by omega) (by omega)) (fun x hB k k1 k2 => hB k k1 (by omega)) (fun k k1 k2 => ofq_le (by omega) k1 (Int.mul_le_mul_of_nonneg_left (by omega) (by omega)))
theorem sstep_one (S : List (Rat × Rat)) (lo hi : Rat) : 1 ≤ (sstep S lo hi).length := by
  unfold sstep
  split
  · rename_i h; rw [List.length_set]; omega
  · rw [List.length_append, List.length_cons]; omega
theorem spL_si {w tol m : Int} (h : spE w tol m = 0) : SI (spL w tol m) (fun _ => True) ∧ 1 ≤ (spL w tol m).length ∧ ((spL w tol m).length : Int) ≤ m := by
  rw [spL_ok h]
  by_cases hw : wOk w
  · rw [spE_lim hw] at h
    have hl := limE_zero.1 h
    have hs := si_spR hw hl (i := m.toNat) (Nat.le_refl _)
    obtain ⟨_, h1, h2⟩ := hl
    have hn := spR_len w tol m m.toNat
    refine ⟨⟨fun j hj => ⟨(hs.el j hj).1, (hs.el j hj).2.1, trivial⟩, hs.ap⟩, ?_, by omega⟩
    obtain ⟨i, hi⟩ : ∃ i, m.toNat = i + 1 := ⟨m.toNat - 1, by omega⟩
    rw [hi, spR]
    exact sstep_one _ _ _
  · rw [spE_w hw] at h; cases h
theorem fits38_in {w tol m : Int} {l : List Se} (hl : l.map Se.qq = spL w tol m) (h : spE w tol m = 0) (q : Rat) : fits38 w q tol m = inS (l.map Se.qq) q := by
  by_cases hq : 0 < q
  · rw [fits38_ok h hq, hl]
  · rw [fits38_no (.inr hq)]
    refine (inS_miss fun j hj => decide_eq_false fun e => ?_).symm
    have hs := ((spL_si h).1.el j (by rw [← hl, List.length_map]; exact hj)).1
    rw [← hl, qq_getD] at hs
    exact absurd hs (Rat.not_lt.2 (Rat.le_trans e.1 (Rat.not_lt.1 hq)))
structure SpF (w tol m : Int) (l : List Se) : Prop where
  ho : ∀ j, j < l.length → (l.getD j dS).lo.q ≤ (l.getD j dS).hi.q
  hp : ∀ j, j + 1 < l.length → (l.getD j dS).hi.q < (l.getD (j + 1) dS).lo.q
  h1 : 1 ≤ l.length
  hm : (l.length : Int) ≤ m
  fl : ∀ j, j < l.length → fits38 w (l.getD j dS).lo.q tol m = true
  fh : ∀ j, j < l.length → fits38 w (l.getD j dS).hi.q tol m = true
theorem spF {w tol m : Int} {l : List Se} (hl : l.map Se.qq = spL w tol m) (h : spE w tol m = 0) : SpF w tol m l := by
  obtain ⟨hs, h1, hm⟩ := spL_si h
  have hn : l.length = (spL w tol m).length := by rw [← hl, List.length_map]
  have ho : ∀ j, j < l.length → (l.getD j dS).lo.q ≤ (l.getD j dS).hi.q := fun j hj => by
    have e := (hs.el j (by omega)).2.1
    rw [← hl, qq_getD] at e
    exact e
  refine ⟨ho, fun j hj => ?_, by omega, by omega, fun j hj => ?_, fun j hj => ?_⟩
  · have e := hs.ap j (by omega)
    rw [← hl, qq_getD, qq_getD] at e
    exact e
  · rw [fits38_in hl h]; exact inS_hit hj Rat.le_refl (ho j hj)
  · rw [fits38_in hl h]; exact inS_hit hj (ho j hj) Rat.le_refl
end Go.Fw
