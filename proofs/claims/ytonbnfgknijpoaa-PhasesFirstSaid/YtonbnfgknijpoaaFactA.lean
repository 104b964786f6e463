/- A fact of the whole program, which takes the kernel long. Conditions: none. -/
import Derived.Test.YtonbnfgknijpoaaRows
import Derived.KernelRfl
import Derived.JoinedOf
namespace Go.Proofs.Ytonbnfgknijpoaa
theorem fact_may : Try.prog.mayEnter = true := by kernel_rfl
end Go.Proofs.Ytonbnfgknijpoaa
