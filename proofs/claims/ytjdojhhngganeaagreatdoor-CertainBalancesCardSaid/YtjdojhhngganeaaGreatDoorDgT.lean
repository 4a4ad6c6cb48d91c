/- The text of 3. -/
import Derived.Test.YtjdojhhngganeaaGreatDoorTxt
namespace Go.Proofs
open Go Go.RowKit
set_option maxHeartbeats 1000000 in
set_option maxRecDepth 100000 in
theorem txt_small3 (w : World) : Calls Tryz.prog 97 #[.int .u64 3, .int .i64 10] w fun e w' => e = .returned (.string ⟨#[51]⟩) ∧ w' = w := by
  go_enter Tryz.func97, Tryz.ntmps97
  go_wp2
  go_ret
  exact ⟨rfl, rfl⟩
end Go.Proofs
namespace Go.Fw
open Go Go.Proofs
theorem txtAt3 : TxtAt 3 ⟨#[51]⟩ := ⟨by decide, by decide, txt_small3, by decide, by decide⟩
end Go.Fw
