/- The texts of 2 and 7. -/
import Derived.Test.YtehoikaiakigfaaDoorTxt
namespace Go.Proofs
open Go Go.RowKit
set_option maxHeartbeats 1000000 in
set_option maxRecDepth 100000 in
theorem txt_small2 (w : World) : Calls Tryd.prog 31 #[.int .u64 2, .int .i64 10] w fun e w' => e = .returned (.string ⟨#[50]⟩) ∧ w' = w := by
  go_enter Tryd.func31, Tryd.ntmps31
  go_wp2
  go_ret
  exact ⟨rfl, rfl⟩
set_option maxHeartbeats 1000000 in
set_option maxRecDepth 100000 in
theorem txt_small7 (w : World) : Calls Tryd.prog 31 #[.int .u64 7, .int .i64 10] w fun e w' => e = .returned (.string ⟨#[55]⟩) ∧ w' = w := by
  go_enter Tryd.func31, Tryd.ntmps31
  go_wp2
  go_ret
  exact ⟨rfl, rfl⟩
end Go.Proofs
namespace Go.Fw
open Go Go.Proofs
theorem txtAt2 : TxtAt 2 ⟨#[50]⟩ := ⟨by decide, by decide, txt_small2, by decide, by decide⟩
theorem txtAt7 : TxtAt 7 ⟨#[55]⟩ := ⟨by decide, by decide, txt_small7, by decide, by decide⟩
end Go.Fw
