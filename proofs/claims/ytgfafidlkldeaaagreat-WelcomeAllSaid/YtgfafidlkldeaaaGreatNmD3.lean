/- 32 of the names, reckoned, eight at a time. No program in sight. -/
import Derived.Test.YtgfafidlkldeaaaGreatNmC
namespace Go.Proofs.YtgfafidlkldeaaaGreat
namespace Qk
theorem Wh : kN2 96 := by decide +kernel
theorem XG : kN2 104 := by decide +kernel
theorem Xf : kN2 112 := by decide +kernel
theorem We : kN2 120 := by decide +kernel
end Qk
end Go.Proofs.YtgfafidlkldeaaaGreat
