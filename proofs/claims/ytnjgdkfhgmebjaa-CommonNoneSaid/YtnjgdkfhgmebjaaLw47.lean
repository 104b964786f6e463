/- The law CommonNone, over the formula. Conditions: the arguments' words are words. -/
import Derived.Test.YtnjgdkfhgmebjaaMa
import Derived.Test.YtnjgdkfhgmebjaaWa
namespace Go.Gg
theorem j8 {f:GFormula} {p:List GRat} {Q:Bool->Prop} (ht:rng f.Top) (lp:p.length<=9223372036854775807) (wp:WrL p) (h:Q true):gC f p Q:=by
  refine⟨λy=>y=false->Shs p,?_,?_⟩
  · refine jQ (ct (λhh=>by cases hh) λ_=>?_)
    refine rY λb=>ct (λ_=>λhh=>by cases hh) λ_=>?_
    exact n4 lp wp λr1 h1=>λe1=>h1 (by simpa using e1)
  · intro y hy
    refine ct (λ_=>jQ h) λhf=>?_
    have hp:=hy hf
    have h0:t3 []:=⟨by simp,λi hi=>absurd hi (by simp)⟩
    refine i0 ht hp h0 ?_
    rw[sk]
    by_cases e:iw f p []=0
    · rw[if_neg (λhh=>hh e)]
      have ha:=Acc.of e
      have pl:=ha.len
      have v24:=ha.fg.v24
      have n128:=ha.fg.n128
      have p60:=hp.1
      refine ct (λhh=>by cases hh) λ_=>?_
      refine qH (f:=f) om (λi hi=>by have:=(nm (ha.fg.node i hi)).len;omega) (ct (λhh=>by cases hh) λ_=>?_)
      refine gK (a:=p) om (λi hi=>(hp.2 i hi).len) (ct (λhh=>by cases hh) λ_=>?_)
      refine condT (λ_=>h) λv2=>condT (λ_=>h) λv3=>⟨by unfold rng;omega,condT (λ_=>h) λn2=>?_⟩
      have s0:=hp.2 0 om
      have s1:=hp.2 1 om
      refine⟨⟨by omega,by omega⟩,⟨by omega,by omega⟩,_,kh s0.len.1 s0.len.2 rfl,ct (λ_=>h) λhe=>?_⟩
      have he2:at' p 0=at' p 1:=by
        rw[Bool.not_eq_false',decide_eq_true_iff] at he
        exact he
      have e1:=ux e om he2
      have hq:cc (at' p 0)=true:=lk ha.prob (i:=0) om
      have oq:=wH om he2 hq
      refine i0 (gs:=[dF]) ht hp tm ?_
      have nb:¬jq f p [dF]:=by
        have ql:(qG p [dF] [dF].length).length=p.length+1:=by
          show(qG p [dF] 1).length=_
          rw[oq];simp
        have ms:(e7 [dF] [dF].length).length=2:=rfl
        unfold jq
        rw[ql,ms]
        omega
      have er:p' f p [dF]=(qI f p [dF],p++[aH 0],0):=by
        unfold p'
        rw[if_neg (λhh=>hh e1),if_neg nb]
        show(qI f p [dF],qG p [dF] 1,(0:Int))=_
        rw[oq]
      rw[er]
      refine ct (λ_=>⟨by unfold rng;omega,?_⟩) λhh=>by cases hh
      have vq:(qI f p [dF]).Vars=f.Vars+1:=by
        show((qG p [dF] 1).length:Int)=_
        rw[oq,List.length_append]
        simp only[List.length_cons,List.length_nil]
        omega
      refine c7 (λ_=>⟨by unfold rng;omega,?_⟩) λhh=>absurd vq hh
      have ll:((p++[aH 0]).length:Int)=(p.length:Int)+1:=by rw[List.length_append];simp only[List.length_cons,List.length_nil];omega
      refine c7 (λ_=>⟨⟨by omega,by show(p.length:Int)<((p++[aH 0]).length:Int);omega⟩,?_⟩) λhh=>absurd ll hh
      have az:at' (p++[aH 0]) (p.length:Int)=aH 0:=qO
      have zr:Rp 1 (aH 0) 0:=.zero om (by decide)
      show cz (at' (p++[aH 0]) (p.length:Int)) _
      rw[az]
      refine sY zr (c7 (λ_=>⟨⟨by omega,by omega,by show(p.length:Int)<=((p++[aH 0]).length:Int);omega⟩,?_⟩) λhh=>absurd (mG.2 rfl) hh)
      have sb:eh (p++[aH 0]) 0 (p.length:Int)=p:=by
        unfold eh
        simp
      show dT (eh (p++[aH 0]) 0 (p.length:Int)) p _
      rw[sb]
      exact gK om (λi hi=>(hp.2 i hi).len) h
    · rw[if_pos e]
      refine nE (λ_=>?_) (λhh=>absurd hh e)
      exact h
end Go.Gg
