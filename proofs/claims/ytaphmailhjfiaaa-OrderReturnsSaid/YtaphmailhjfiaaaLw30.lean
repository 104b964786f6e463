/- The law OrderReturns, over the formula. Conditions: the top is a number of the machine. -/
import Derived.Test.YtaphmailhjfiaaaMb
import Derived.Test.YtaphmailhjfiaaaWa
namespace Go.Gg
theorem i9 {f:GFormula} {Q:Bool->Prop} (ht:rng f.Top) (h:Q true):fP f Q:=by
  refine⟨λy=>y=false->FG f,?_,?_⟩
  · exact jy (cx (λhh=>by cases hh) λ_=>jv ht (gE (λ_ hc=>by cases hc) (λh0 _=>jQ.1 h0)))
  intro y hy
  refine cx (λ_=>jy h) λhf=>?_
  have g:=hy hf
  have g':=v8 g
  have v24:=g.v24
  have v0:=g.v0
  have hz:=jQ.2 g
  have hz':=jQ.2 g'
  have hV:(trF f).Vars=f.Vars:=rfl
  have rt:rng (trF f).Top:=by have:=g'.top0;have:=g'.top;have:=g'.n128;unfold rng;omega
  obtain⟨n,hn⟩:∃n:Nat,f.Vars=n:=⟨f.Vars.toNat,by omega⟩
  have hnn:f.Vars.toNat=n:=om
  obtain⟨b,pb,sb⟩:=oU (nh (wtL f f.Nodes.length)) (l:=fx f.Vars.toNat) (by rw[ep];omega)
  have sb':gP (nh (wtL (trF f) (trF f).Nodes.length)) (fx (trF f).Vars.toNat) b:=ma sb λx hx y hy=>by
    have hx:=gz.1 hx
    have hy:=gz.1 hy
    exact tH g om om
  obtain⟨r,hr⟩:∃r:List Int,VI f (c9 f)->r.Perm (dU f)/\gP (rV (usF f (c9 f).2 f.Nodes.length)) (dU f) r:=by
    by_cases hvi:VI f (c9 f)
    · obtain⟨r,h1,h2⟩:=oU (rV (usF f (c9 f).2 f.Nodes.length)) (l:=dU f) (by rw[(mQ hvi).length_eq,ep];omega)
      exact⟨r,λ_=>⟨h1,h2⟩⟩
    · exact⟨[],λhc=>absurd hc hvi⟩
  refine vT g (cx (λhc=>by cases hc) (λ_=>jv rt (gE (λhc=>absurd hz' hc) (λ_=>gE (λhc=>absurd hV hc) (λ_=>?_)))))
  refine oE ht (λhc=>absurd hz hc) (λ_ vi=>?_)
  obtain⟨pr,sr⟩:=hr vi
  refine jS ht (λhc=>absurd hz hc) (λ_=>⟨pb,sb⟩) (λ_=>?_)
  refine pC ht (λhc=>absurd hz hc) (λ_ _=>⟨pr,sr⟩) (λ_=>?_)
  refine oE rt (λhc=>absurd hz' hc) (λ_ vi'=>?_)
  refine jS rt (λhc=>absurd hz' hc) (λ_=>⟨pb,sb'⟩) (λ_=>?_)
  refine pC rt (r:=r) (λhc=>absurd hz' hc) (λ_ _=>⟨by rw[jP g];exact pr,by
    rw[jP g]
    refine ma sr λx hx y hy=>?_
    exact sG g ((ij vi).1 hx) ((ij vi).1 hy)⟩) (λ_=>?_)
  rw[jP g]
  have pd:=mQ vi
  rw[hnn] at pd pb
  have no:∀ {p:Prop},ae (Option.isSome (none:Option Int)) (Q false) p↔p:=⟨λhc=>hc.2 rfl,λhp=>cx (λhc=>by cases hc) (λ_=>hp)⟩
  rw[no,no,no,no,no,no,hn]
  have l1:(dU f).length<=9223372036854775807:=by rw[pd.length_eq,ep];omega
  have l2:b.length<=9223372036854775807:=by rw[pb.length_eq,ep];omega
  have l3:r.length<=9223372036854775807:=by rw[(pr.trans pd).length_eq,ep];omega
  refine dq ?_
  rw[mz pd om]
  refine no.2 (dq ?_)
  rw[mz pb om]
  refine no.2 (dq ?_)
  rw[mz (pr.trans pd) om]
  refine no.2 (fQ l1 ?_)
  rw[decide_eq_true rfl]
  refine cx (λ_=>fQ l2 ?_) (λhc=>by cases hc)
  rw[decide_eq_true rfl]
  refine cx (λ_=>fQ l3 ?_) (λhc=>by cases hc)
  rw[decide_eq_true rfl]
  exact h
end Go.Gg
