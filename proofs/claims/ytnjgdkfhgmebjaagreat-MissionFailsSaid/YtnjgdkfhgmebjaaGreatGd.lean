/- An own logic over the kit's weakest preconditions, part Z: clear, copy, rows cut short. Conditions: none. -/
import Derived.Test.YtnjgdkfhgmebjaaGreatGd0
namespace Go.Gg
open Go.RowKit (Below)
section
variable {P:Program} {G:Ghost} {S:St} {w:World}
end
theorem Aa {R:AV->St->Prop} {S:St} {rg:Nat} {l:dO} (q k:Nat) {kk:Nat} (hk:0<kk) (hrg:∀k,S rg k=none) (h:∀g,R (.sl kk q k g 0 0) (S.set q k (.arr kk []) g)):ff R .nil (stL S rg l):=λG w x hr hx=>by
  have hr':Rel G S w:=hr.sub (λr k y e=>by
    have hne:r≠rg:=by rintro rfl;rw [hrg] at e;cases e
    rw [nt hne];exact e)
  obtain ⟨g,G',q1,q2,q3⟩:=hr'.mat q k kk hk
  cases hx
  exact ⟨_,_,G',h g,q1,q2,q3⟩
end Go.Gg
