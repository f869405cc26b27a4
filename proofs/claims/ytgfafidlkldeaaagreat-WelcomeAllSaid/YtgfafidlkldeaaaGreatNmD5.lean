/- 32 of the names, reckoned, eight at a time. No program in sight. -/
import Derived.Test.YtgfafidlkldeaaaGreatNmC
namespace Go.Proofs.YtgfafidlkldeaaaGreat
namespace Qk
theorem WE : kN2 160 := by decide +kernel
theorem Xe : kN2 168 := by decide +kernel
theorem Xy : kN2 176 := by decide +kernel
theorem XQ : kN2 184 := by decide +kernel
end Qk
end Go.Proofs.YtgfafidlkldeaaaGreat
