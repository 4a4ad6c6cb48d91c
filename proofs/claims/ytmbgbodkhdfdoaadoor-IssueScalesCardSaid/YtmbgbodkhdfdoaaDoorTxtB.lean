/- strconv.FormatUint below 100. -/
import Derived.Test.YtmbgbodkhdfdoaaDoorTxtA
namespace Go.Proofs
open Go.RowKit

set_option maxHeartbeats 1000000 in
set_option maxRecDepth 100000 in
theorem txt_small20 (w : World) : Calls Tryd.prog 82 #[.int .u64 20, .int .i64 10] w fun e w' => e = .returned (.string ⟨#[50, 48]⟩) ∧ w' = w := by
  go_enter Tryd.func82, Tryd.ntmps82
  go_wp2
  go_ret
  exact ⟨rfl, rfl⟩
set_option maxHeartbeats 1000000 in
set_option maxRecDepth 100000 in
theorem txt_small60 (w : World) : Calls Tryd.prog 82 #[.int .u64 60, .int .i64 10] w fun e w' => e = .returned (.string ⟨#[54, 48]⟩) ∧ w' = w := by
  go_enter Tryd.func82, Tryd.ntmps82
  go_wp2
  go_ret
  exact ⟨rfl, rfl⟩
set_option maxHeartbeats 1000000 in
set_option maxRecDepth 100000 in
theorem txt_small50 (w : World) : Calls Tryd.prog 82 #[.int .u64 50, .int .i64 10] w fun e w' => e = .returned (.string ⟨#[53, 48]⟩) ∧ w' = w := by
  go_enter Tryd.func82, Tryd.ntmps82
  go_wp2
  go_ret
  exact ⟨rfl, rfl⟩
set_option maxHeartbeats 1000000 in
set_option maxRecDepth 100000 in
theorem txt_small1 (w : World) : Calls Tryd.prog 82 #[.int .u64 1, .int .i64 10] w fun e w' => e = .returned (.string ⟨#[49]⟩) ∧ w' = w := by
  go_enter Tryd.func82, Tryd.ntmps82
  go_wp2
  go_ret
  exact ⟨rfl, rfl⟩
end Go.Proofs
