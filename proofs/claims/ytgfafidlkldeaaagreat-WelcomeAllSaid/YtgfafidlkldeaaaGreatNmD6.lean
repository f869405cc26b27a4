/- 32 of the names, reckoned, eight at a time. No program in sight. -/
import Derived.Test.YtgfafidlkldeaaaGreatNmC
namespace Go.Proofs.YtgfafidlkldeaaaGreat
namespace Qk
theorem Wk : kN2 192 := by decide +kernel
theorem Ww : kN2 200 := by decide +kernel
theorem Xo : kN2 208 := by decide +kernel
theorem Xw : kN2 216 := by decide +kernel
end Qk
end Go.Proofs.YtgfafidlkldeaaaGreat
