/- What the rows' readings give. Conditions: none. -/
import Derived.Test.YtiamkdpljeemkaaRowC
import Derived.Test.YtiamkdpljeemkaaMa
/- What the rows' readings give. Conditions: none. -/
namespace Go.Proofs.Ytiamkdpljeemkaa
open Go.Gg
theorem own : ownKnob Try.prog.godebug = none := by kernel_rfl
theorem and_t {a b : Bool} (h : a = true) (k : b = true) : (a && b) = true := by rw [h, k]; rfl
theorem f_laid : laidOutB Try.prog = true := by kernel_rfl
theorem f_heard : Try.prog.stopsHeard = true := by kernel_rfl
end Go.Proofs.Ytiamkdpljeemkaa
