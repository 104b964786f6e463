/- An own logic over the kit's weakest preconditions, part Wm: maps of rows that go on growing. Conditions: none. -/
import Derived.Test.YtcmagbhiioheeaaGreatGd0
namespace Go.Gg
theorem Rel.famMake0 {α:Type} {G:Ghost} {S0:St} {w:World} {rg:Nat} {L:de} {kk:Nat} (q:Nat) (enc:α->AV) (hr:Rel G (stL S0 rg L) w) (hk:0<kk) :
    ∃rf gs G',rf≠rg/\rf≠q/\(∀k,S0 rf k=none)/\G.le G'/\Rel G' (stL (dz S0 rf kk enc gs []) rg L) w:=by
  obtain⟨N,hN⟩:=hr.fin
  let rf:=max N (max (rg+1) (q+1))
  have hne:rf≠rg:=by show max N (max (rg+1) (q+1))≠rg;omega
  have hnq:rf≠q:=by show max N (max (rg+1) (q+1))≠q;omega
  have hrf:∀k,S0 rf k=none:=λk=>by
    have:=hN rf (Nat.le_max_left _ _) k
    rwa[mV hne] at this
  let gs:Nat->Nat:=λk=>(hr.fing rf k).choose
  have hgs:∀k,G.loc rf k (gs k)=none:=λk=>(hr.fing rf k).choose_spec _ (Nat.le_refl _)
  let L0:Loc:=⟨0,0,kk,0⟩
  let G':Ghost:={ G with loc:=λr k g=>if r=rf/\g=gs k then some L0 else G.loc r k g }
  have hle:G.le G':=by
    refine⟨⟨rfl,λ_ h=>h,rfl⟩,λ_ _ _ e=>e,λr k g L' e=>?_⟩
    show(if r=rf/\g=gs k then some L0 else G.loc r k g)=some L'
    split
    · rename_i hc;obtain⟨rfl,rfl⟩:=hc;rw[hgs] at e;cases e
    · exact e
  have hloc:∀k,G'.loc rf k (gs k)=some L0:=λk=>by
    show(if rf=rf/\gs k=gs k then some L0 else _)=_
    rw[if_pos ⟨rfl,rfl⟩]
  have hgetD:∀k,([]:List (List α)).getD k []=[]:=λ_=>rfl
  refine⟨rf,gs,G',hne,hnq,hrf,hle,?_⟩
  show Rel G' (stL (dz S0 rf kk enc gs ([]:List (List α))) rg L) w
  · show Rel G' (stL (dz S0 rf kk enc gs ([]:List (List α))) rg L) w
    have src:∀ {r k o g},stL (dz S0 rf kk enc gs ([]:List (List α))) rg L r k=some (o,g)->(r=rf/\o = .arr kk []/\g=gs k)\/(r≠rf/\stL S0 rg L r k=some (o,g)):=λ{r k o g} e=>by
      by_cases h:r=rf
      · subst h
        rw[rU hne,hgetD] at e
        cases e
        exact .inl ⟨rfl,rfl,rfl⟩
      · refine .inr ⟨h,?_⟩
        simp only[stL] at e ⊢
        split
        · rename_i h2;rw[if_pos h2] at e;exact e
        · rename_i h2;rw[if_neg h2,yu h] at e;exact e
    refine⟨hr.below,hr.imm,λr k o g' e=>?_,?_,⟨rf+1,λr hr' k=>?_⟩,λr k=>?_⟩
    · rcases src e with⟨rfl,rfl,rfl⟩ | ⟨h,e⟩
      · exact⟨L0,hloc k,⟨hk,rfl,by simp,by simp[L0,maxLen],λi h=>by simp at h,λh=>by simp[L0] at h⟩,λh=>by simp[L0] at h⟩
      · obtain⟨L1,q1,q2,q3⟩:=hr.obj _ _ _ _ e
        exact⟨L1,hle.loc _ _ _ _ q1,q2.keep hle (λ_=>rfl),q3⟩
    · intro r1 k1 o1 g1 r2 k2 o2 g2 L1 L2 e1 e2 l1 l2 c1 c2 hne'
      rcases src e1 with⟨rfl,rfl,rfl⟩ | ⟨h1,e1⟩
      · rw[hloc] at l1;cases l1;simp[L0] at c1
      · rcases src e2 with⟨rfl,rfl,rfl⟩ | ⟨h2,e2⟩
        · rw[hloc] at l2;cases l2;simp[L0] at c2
        · obtain⟨M1,q1,_⟩:=hr.obj _ _ _ _ e1
          obtain⟨M2,q2,_⟩:=hr.obj _ _ _ _ e2
          have a1:=hle.loc _ _ _ _ q1
          have a2:=hle.loc _ _ _ _ q2
          rw[l1] at a1;cases a1
          rw[l2] at a2;cases a2
          exact hr.inj _ _ _ _ _ _ _ _ _ _ e1 e2 q1 q2 c1 c2 hne'
    · have h3:=hN r (by have:rf+1<=r:=hr';have:rf=max N (max (rg+1) (q+1)):=rfl;omega) k
      cases e:stL (dz S0 rf kk enc gs ([]:List (List α))) rg L r k with
      | none=>rfl
      | some x=>
        obtain⟨o,g'⟩:=x
        rcases src e with⟨h,_,_⟩ | ⟨_,e⟩
        · omega
        · rw[h3] at e;cases e
    · obtain⟨M,hM⟩:=hr.fing r k
      refine⟨max M (gs k+1),λg' hg'=>?_⟩
      show(if r=rf/\g'=gs k then some L0 else G.loc r k g')=none
      rw[if_neg (λhc=>om)]
      exact hM g' om
section
variable {α:Type}
variable {T:List (Int×List α)} {i:Int} {l:List α}
end
section
variable {α:Type} {S S0:St} {rf rg kk:Nat} {enc:α->AV} {gs:Nat->Nat} {T:List (Int×List α)} {L:de} {i:Int}
end
section
variable {α:Type} {P:Program} {n:Nat} {rg rf kk:Nat} {enc:α->AV} {gs:Nat->Nat} {T:List (Int×List α)} {t:Env} {S0:St} {L:de} {x y a:Operand} {i:Int} {d:Option Nat} {Ty e kt et:TypeId} {sh:KShape}
end
end Go.Gg
