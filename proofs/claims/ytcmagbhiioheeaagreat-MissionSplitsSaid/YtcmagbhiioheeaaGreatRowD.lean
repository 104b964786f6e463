/- What the rows' readings give. Conditions: none. -/
import Derived.Test.YtcmagbhiioheeaaGreatRowC
import Derived.Test.YtcmagbhiioheeaaGreatMa
namespace Go.Proofs.YtcmagbhiioheeaaGreat
open Go.Gg
theorem u32 {l:List Int} (h:∀n∈l,IntKind.u32.min<=n/\n<=IntKind.u32.max):Words l:=by
  intro i
  rcases Nat.lt_or_ge i l.length with h1 | h1
  · have:=h l[i] (List.getElem_mem h1)
    rw[List.getD_eq_getElem?_getD,List.getElem?_eq_getElem h1,Option.getD_some]
    have e1:IntKind.u32.min=0:=rfl
    have e2:IntKind.u32.max=4294967295:=rfl
    omega
  · rw[List.getD_eq_getElem?_getD,List.getElem?_eq_none h1]
    simp
theorem yH {α:Type} [Inhabited α] {l:List α} {i:Nat} (hi:i<l.length):at' l (i:Int)∈l:=by
  simp only[at',Int.toNat_natCast,List.getD_eq_getElem?_getD,List.getElem?_eq_getElem hi,Option.getD_some]
  exact List.getElem_mem hi
theorem Io {x:GRat} (h:vF x):WrR x:=⟨u32 h.2.1.2,u32 h.2.2.2⟩
theorem I9 {l:List GRat} (h:okL vF l):WrL l:=λ_ hi=>Io (h.2 _ (yH hi))
theorem own:ownKnob Tryz.prog.godebug=none:=by kernel_rfl
theorem fe {a b:Bool} (h:a=true) (k:b=true):(a && b)=true:=by rw[h,k];rfl
theorem HI:laidOutB Tryz.prog=true:=by kernel_rfl
theorem FZ:Tryz.prog.stopsHeard=true:=by kernel_rfl
end Go.Proofs.YtcmagbhiioheeaaGreat
