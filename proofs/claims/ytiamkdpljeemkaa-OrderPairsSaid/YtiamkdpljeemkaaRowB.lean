/- What is read of the structures. Conditions: none. -/
import Derived.Test.YtiamkdpljeemkaaRowA
import Derived.KernelRfl
/- What is read of the structures. Conditions: none. -/
namespace Go.Proofs.Ytiamkdpljeemkaa
open Go.Gg
def okL {α : Type} (ok : α → Prop) (l : List α) : Prop := l.length ≤ 9223372036854775807 ∧ ∀ x ∈ l, ok x
theorem rd3 (w : World) : Rd Try.prog w 3 (AV.int .i64) (fun n : Int => IntKind.i64.min ≤ n ∧ n ≤ IntKind.i64.max) (fun _ : Int => 1) := Rd_int Try.underlying3
theorem rd25 (w : World) : Rd Try.prog w 25 (eL (AV.int .i64)) (okL (fun n : Int => IntKind.i64.min ≤ n ∧ n ≤ IntKind.i64.max)) (szL (fun _ : Int => 1)) := Rd_slice (kk := 1) Try.underlying25 (by kernel_rfl) (by decide) (fun _ => rfl) (rd3 w)
end Go.Proofs.Ytiamkdpljeemkaa
