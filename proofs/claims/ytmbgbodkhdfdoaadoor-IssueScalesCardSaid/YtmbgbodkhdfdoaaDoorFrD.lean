/- Sizes of what laws compare. No program here. -/
import Derived.Test.YtmbgbodkhdfdoaaDoorFrC
namespace Go.Nat9
theorem qs_mlo {p q : Rat} {K : Nat} (hp : qs p K) (hq : qs q K) : qs (mlo p q) K := by unfold mlo; split <;> assumption
theorem qs_mhi {p q : Rat} {K : Nat} (hp : qs p K) (hq : qs q K) : qs (mhi p q) K := by unfold mhi; split <;> assumption
end Go.Nat9
