/- What the rows' readings give. Conditions: none. -/
import Derived.Test.YtbnjpdocceckeaaGreatRowC
import Derived.Test.YtbnjpdocceckeaaGreatMa
set_option linter.all false
namespace Go.Proofs.YtbnjpdocceckeaaGreat
open Go.Gg
theorem u32{l:List Int}(h:∀n∈l,IntKind.u32.min<=n/\n<=IntKind.u32.max):ba l:=by
 intro i;rcases Nat.lt_or_ge i l.length with h1|h1;·have:=h l[i] (List.getElem_mem h1);rw[List.getD_eq_getElem?_getD,List.getElem?_eq_getElem h1,Option.getD_some];have e1:IntKind.u32.min=0:=rfl;have e2:IntKind.u32.max=4294967295:=rfl;omega
 ·rw[List.getD_eq_getElem?_getD,List.getElem?_eq_none h1];simp
theorem own:ownKnob Tryz.prog.godebug=none:=by kernel_rfl
end Go.Proofs.YtbnjpdocceckeaaGreat
