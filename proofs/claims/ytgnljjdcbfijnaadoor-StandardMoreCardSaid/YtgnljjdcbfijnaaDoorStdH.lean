/- Chapter 38: checking weights. Plain. -/
import Derived.Test.YtgnljjdcbfijnaaDoorStdG
namespace Go.Fw
open Go Go.RowKit Go.Nat9

theorem badW_hit {L : List Int} {k : Nat} (hk : k < L.length) (h : ¬ wOk (L.getD k 0)) : badW L = true := by
  rw [badW, List.any_eq_true]
  exact ⟨k, List.mem_range.2 hk, by rw [decide_eq_false h]; rfl⟩
theorem badW_miss {L : List Int} (h : ∀ k, k < L.length → wOk (L.getD k 0)) : ¬ badW L = true := by
  rw [badW, List.any_eq_true]
  rintro ⟨k, hk, hd⟩
  rw [decide_eq_true (h k (List.mem_range.1 hk))] at hd
  cases hd
theorem scoE_bad {L : List Int} {u : Rat} {tol m : Int} (h : ¬ chkE L ≠ 0) (h2 : 0 < u) (h3 : ¬ limOk tol m) : scoE L u tol m = 2 := by rw [scoE_lim h h2, limE_no h3]
theorem errE_bad {L : List Int} {u : Rat} {m : Int} (h : ¬ chkE L ≠ 0) (h2 : 0 < u) (h3 : ¬ limOk 0 m) : errE L u m = 2 := errE_lim h h2 (by rw [limE_no h3]; decide)
theorem qs_errO {L : List Int} {u : Rat} {m : Int} (hu : qs u 5) : qs (fval (errO L u m)) 12 := by
  by_cases h : errE L u m = 0
  · rw [errO_ok h]
    have hc : ¬ chkE L ≠ 0 := fun e => by rw [errE_chk e] at h; exact e h
    by_cases h0 : 0 < u
    · by_cases hl : limE 0 m ≠ 0
      · rw [errE_lim hc h0 hl] at h; cases h
      · exact qs_errR (chkE_zero (Classical.byContradiction hc)).2 hu (limE_zero.1 (Classical.byContradiction hl)).2.2 (Nat.le_refl _)
    · rw [errE_unit hc h0] at h; cases h
  · rw [errO_no h]; exact qs_zero.mono (by decide)
end Go.Fw
