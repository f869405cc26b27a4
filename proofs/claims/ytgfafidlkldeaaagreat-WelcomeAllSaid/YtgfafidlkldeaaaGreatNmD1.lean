/- 32 of the names, reckoned, eight at a time. No program in sight. -/
import Derived.Test.YtgfafidlkldeaaaGreatNmC
namespace Go.Proofs.YtgfafidlkldeaaaGreat
namespace Qk
theorem Yp : kN2 32 := by decide +kernel
theorem Yr : kN2 40 := by decide +kernel
theorem YM : kN2 48 := by decide +kernel
theorem Yh : kN2 56 := by decide +kernel
end Qk
end Go.Proofs.YtgfafidlkldeaaaGreat
