/- 32 of the names, reckoned, eight at a time. No program in sight. -/
import Derived.Test.YtgfafidlkldeaaaGreatNmC
namespace Go.Proofs.YtgfafidlkldeaaaGreat
namespace Qk
theorem Xn : kN2 224 := by decide +kernel
theorem Wg : kN2 232 := by decide +kernel
theorem Wc : kN2 240 := by decide +kernel
theorem Xr : kN2 248 := by decide +kernel
end Qk
end Go.Proofs.YtgfafidlkldeaaaGreat
