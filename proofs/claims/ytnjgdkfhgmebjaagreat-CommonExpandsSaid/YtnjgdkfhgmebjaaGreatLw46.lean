/- The law CommonExpands, over the formula. Conditions: the arguments' words are words. -/
import Derived.Test.YtnjgdkfhgmebjaaGreatMb
import Derived.Test.YtnjgdkfhgmebjaaGreatWa
namespace Go.Gg
theorem ke {f:GFormula} {x:GCauses} {Q:Bool->Prop} (ht:rng f.Top) (lp:x.P.length<=9223372036854775807) (wp:WrL x.P) (lg:x.Groups.length<=9223372036854775807)
    (wg:∀i:Nat,i<x.Groups.length->(at' x.Groups (i:Int)).Factors.length<=9223372036854775807/\WrL (at' x.Groups (i:Int)).Factors) (h:Q true):gb f x Q:=by
  refine⟨λy=>y=false->Shs x.P/\rz x.Groups,?_,?_⟩
  · refine lI (bS (λhh=>by cases hh) λ_=>?_)
    refine uP λb=>bS (λ_=>λhh=>by cases hh) λ_=>?_
    refine lH lp wp λr1 h1=>bS (λ_=>λhh=>by cases hh) (λe1=>?_)
    exact qg lg wg λr2 h2=>λe2=>⟨h1 (by simpa using e1),h2 (by simpa using e2)⟩
  · intro y hy
    refine bS (λ_=>lI h) λhf=>?_
    obtain⟨hp,hg⟩:=hy hf
    obtain⟨o1,o2,o3,o4⟩:=xx (f:=f) hp hg
    refine oz ht hp hg (oW ht hp hg (tK (ce (λ_=>?_) (λhh=>absurd rfl hh))))
    exact tE om (λi hi=>by have:=o2 i hi;omega) (bS (λ_=>kN om o4 h) (λhh=>by cases hh))
end Go.Gg
