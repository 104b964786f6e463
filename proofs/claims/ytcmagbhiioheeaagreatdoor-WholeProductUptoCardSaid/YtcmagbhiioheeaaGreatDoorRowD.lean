/- What the rows' readings give. Conditions: none. -/
import Derived.Test.YtcmagbhiioheeaaGreatDoorRowC
import Derived.Test.YtcmagbhiioheeaaGreatDoorMa
namespace Go.Proofs.YtcmagbhiioheeaaGreatDoor
open Go.Gg
theorem u32 {l:List Int} (h:∀n∈l,IntKind.u32.min<=n/\n<=IntKind.u32.max):az l:=by
  intro i
  rcases Nat.lt_or_ge i l.length with h1 | h1
  · have:=h l[i] (List.getElem_mem h1)
    rw[List.getD_eq_getElem?_getD,List.getElem?_eq_getElem h1,Option.getD_some]
    have e1:IntKind.u32.min=0:=rfl
    have e2:IntKind.u32.max=4294967295:=rfl
    omega
  · rw[List.getD_eq_getElem?_getD,List.getElem?_eq_none h1]
    simp
theorem Bb {α:Type} [Inhabited α] {l:List α} {i:Nat} (hi:i<l.length):at' l (i:Int)∈l:=by
  simp only[at',Int.toNat_natCast,List.getD_eq_getElem?_getD,List.getElem?_eq_getElem hi,Option.getD_some]
  exact List.getElem_mem hi
theorem abO {x:GRat} (h:uR x):WrR x:=⟨u32 h.2.1.2,u32 h.2.2.2⟩
theorem own:ownKnob Tryz.prog.godebug=none:=by kernel_rfl
end Go.Proofs.YtcmagbhiioheeaaGreatDoor
