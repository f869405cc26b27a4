/- 32 of the names, reckoned, eight at a time. No program in sight. -/
import Derived.Test.YtgfafidlkldeaaaGreatNmC
namespace Go.Proofs.YtgfafidlkldeaaaGreat
namespace Qk
theorem VS : kN2 128 := by decide +kernel
theorem WD : kN2 136 := by decide +kernel
theorem Xl : kN2 144 := by decide +kernel
theorem Xv : kN2 152 := by decide +kernel
end Qk
end Go.Proofs.YtgfafidlkldeaaaGreat
