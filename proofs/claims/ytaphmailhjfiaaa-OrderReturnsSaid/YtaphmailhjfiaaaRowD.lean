/- What the rows' readings give. Conditions: none. -/
import Derived.Test.YtaphmailhjfiaaaRowC
import Derived.Test.YtaphmailhjfiaaaMa
namespace Go.Proofs.Ytaphmailhjfiaaa
open Go.Gg
theorem u32 {l:List Int} (h:∀n∈l,IntKind.u32.min<=n/\n<=IntKind.u32.max):Words l:=by
  intro i
  rcases Nat.lt_or_ge i l.length with h1 | h1
  · have:=h l[i] (List.getElem_mem h1)
    rw[List.getD_eq_getElem?_getD,List.getElem?_eq_getElem h1,Option.getD_some]
    have e1:IntKind.u32.min=0:=rfl
    have e2:IntKind.u32.max=4294967295:=rfl
    omega
  · rw[List.getD_eq_getElem?_getD,List.getElem?_eq_none h1]
    simp
theorem own:ownKnob Try.prog.godebug=none:=by kernel_rfl
theorem cO {a b:Bool} (h:a=true) (k:b=true):(a && b)=true:=by rw[h,k];rfl
theorem vH:laidOutB Try.prog=true:=by kernel_rfl
theorem uE:Try.prog.stopsHeard=true:=by kernel_rfl
end Go.Proofs.Ytaphmailhjfiaaa
