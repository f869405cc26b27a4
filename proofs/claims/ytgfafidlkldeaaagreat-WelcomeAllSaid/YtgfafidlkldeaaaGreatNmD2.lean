/- 32 of the names, reckoned, eight at a time. No program in sight. -/
import Derived.Test.YtgfafidlkldeaaaGreatNmC
namespace Go.Proofs.YtgfafidlkldeaaaGreat
namespace Qk
theorem Yt : kN2 64 := by decide +kernel
theorem Yo : kN2 72 := by decide +kernel
theorem Xu : kN2 80 := by decide +kernel
theorem Xz : kN2 88 := by decide +kernel
end Qk
end Go.Proofs.YtgfafidlkldeaaaGreat
