/- The table of powers, out of the row's own condition. -/
import Derived.Test.YtgnljjdcbfijnaaDoorTxtG
import Derived.Test.YtgnljjdcbfijnaaDoorLwA
import Derived.Lib.LaidTab
import Derived.SevenTiedAt
namespace Go.Proofs.YtgnljjdcbfijnaaDoor
open Go Go.RowKit Go.Nat9 Go.Fw Go.ChangeShapes Go.WideShapes Go.ChangeAt
theorem tab_same : (Rows.laid_internal_strconv_uint64pow10 : DataW Unit) = Lib.tabData .u64 Lib.pow10Tab := by rfl
theorem tab_view {W : World} (h : laidMetH Tryd.prog [("math/bits.deBruijn32tab", Rows.laid_math_bits_deBruijn32tab), ("math/bits.deBruijn64tab", Rows.laid_math_bits_deBruijn64tab), ("internal/strconv.uint64pow10", Rows.laid_internal_strconv_uint64pow10)] W) :
    ∀ q ∈ [vTab], q.holds (fun _ => False) W := by
  rw [MakeChecks.laidMetH_plain _ _ _ (by kernel_rfl), tab_same] at h
  obtain ⟨ps, hv, _⟩ := h
  obtain ⟨_, _, _, _, _, _, _, _, _, _, hv2, _⟩ := hv
  obtain ⟨_, _, _, _, _, _, _, _, _, _, hv3, _⟩ := hv2
  obtain ⟨g', t', cs, fuel, p, q, hg', ht', hvar, hd, _, _⟩ := hv3
  have hg : Tryd.prog.globalNamed "internal/strconv.uint64pow10" = some 0 := by kernel_rfl
  have hty : (Tryd.prog.globals[0]?).map (·.type) = some 137 := by kernel_rfl
  obtain rfl := Option.some.inj (hg.symm.trans hg')
  obtain rfl := Option.some.inj (hty.symm.trans ht')
  have hc := Lib.cells_of_tab Tryd.underlying137 Tryd.underlying87 (by kernel_rfl) (by kernel_rfl) hd
  intro q hq
  obtain rfl := List.mem_singleton.1 hq
  have ht : Lib.TabIs Tryd.prog W "internal/strconv.uint64pow10" .u64 Lib.pow10Tab := by
    unfold Lib.TabIs
    rw [hvar, ← hc]
  refine ⟨ht, fun h => h, ?_⟩
  unfold Lib.TabIs World.var? at ht
  rw [hg] at ht
  simp only [Option.bind_some] at ht
  rcases Nat.lt_or_ge 0 W.heap.size with h | h
  · exact h
  · rw [Array.getElem?_eq_none h] at ht; simp at ht
end Go.Proofs.YtgnljjdcbfijnaaDoor
