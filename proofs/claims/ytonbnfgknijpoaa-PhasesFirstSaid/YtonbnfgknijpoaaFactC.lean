/- A fact of the whole program, which takes the kernel long. Conditions: none. -/
import Derived.Test.YtonbnfgknijpoaaRows
import Derived.KernelRfl
import Derived.JoinedOf
namespace Go.Proofs.Ytonbnfgknijpoaa
theorem fact_make : (Try.prog.make == some Rows.productRatesRow.make) = true := by kernel_rfl
end Go.Proofs.Ytonbnfgknijpoaa
