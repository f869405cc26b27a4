/- 32 of the names, reckoned, eight at a time. No program in sight. -/
import Derived.Test.YtgfafidlkldeaaaGreatNmC
namespace Go.Proofs.YtgfafidlkldeaaaGreat
namespace Qk
theorem Ym : kN2 0 := by decide +kernel
theorem Yk : kN2 8 := by decide +kernel
theorem YG : kN2 16 := by decide +kernel
theorem Yx : kN2 24 := by decide +kernel
end Qk
end Go.Proofs.YtgfafidlkldeaaaGreat
