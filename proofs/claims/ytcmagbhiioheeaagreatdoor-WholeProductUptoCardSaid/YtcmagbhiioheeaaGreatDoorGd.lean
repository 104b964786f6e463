/- An own logic over the kit's weakest preconditions, part Z: clear, copy, rows cut short. Conditions: none. -/
import Derived.Test.YtcmagbhiioheeaaGreatDoorGd0
namespace Go.Gg
open Go.RowKit (Below)
theorem Rel.cut {G:Ghost} {S:St} {w:World} (hr:Rel G S w) {r k g kk:Nat} {es:List AV} (hS:S r k=some (.arr kk es,g)) (n:Nat):Rel G (S.set r k (.arr kk (es.take n)) g) w:=by
  refine hr.remap (λr' k' o' g' e=>?_)
  simp only[St.set] at e
  split at e
  · rename_i hc
    obtain⟨rfl,rfl⟩:=hc
    cases e
    refine⟨_,hS,λL hL=>?_⟩
    obtain⟨L',hL',hobj,_⟩:=hr.obj _ _ _ _ hS
    obtain rfl:L'=L:=by rw[hL] at hL';exact(Option.some.inj hL').symm
    obtain⟨h1,h2,h3,h3',h4,h5⟩:=hobj
    refine⟨h1,h2,by simp;omega,h3',λi hi=>?_,λhc=>?_⟩
    · simp only[List.getElem_take];exact h4 i _
    · obtain⟨row,a1,a2,a3⟩:=h5 hc
      refine⟨row,a1,a2,λi hi j hj=>?_⟩
      simp only[List.getElem_take] at hj ⊢
      exact a3 i _ j hj
  · refine⟨o',e,λL hL=>?_⟩
    obtain⟨L',hL',hobj,_⟩:=hr.obj _ _ _ _ e
    obtain rfl:L'=L:=by rw[hL] at hL';exact(Option.some.inj hL').symm
    exact hobj
theorem EWk.cut {α:Type} {enc:α->AV} {t:Env} {S0 S':St} {r k g kk:Nat} {l l':List α} (n:Nat) (hS:S0 r k=some (.arr kk (l.map enc),g)) (hl:l.take n=l') (hset:S0.set r k (.arr kk (l'.map enc)) g=S'):EWk t S0 t S':=λ_ G _ _ hr ht=>
  ⟨G,Ghost.le.refl G,by rw[<-hset,<-hl,List.map_take];exact hr.cut hS n,ht⟩
section
variable {P:Program} {G:Ghost} {S:St} {w:World}
end
theorem A0 {R:AV->St->Prop} {S:St} {rg:Nat} {l:cq} (q k:Nat) {kk:Nat} (hk:0<kk) (hrg:∀k,S rg k=none) (h:∀g,R (.sl kk q k g 0 0) (S.set q k (.arr kk []) g)):cN R .nil (stL S rg l):=λG w x hr hx=>by
  have hr':Rel G S w:=hr.sub (λr k y e=>by
    have hne:r≠rg:=by rintro rfl;rw[hrg] at e;cases e
    rw[kU hne];exact e)
  obtain⟨g,G',q1,q2,q3⟩:=hr'.mat q k kk hk
  cases hx
  exact⟨_,_,G',h g,q1,q2,q3⟩
theorem De {α:Type} {enc:α->AV} {R:AV->St->Prop} {v:AV} {S S':St} {r k g kk:Nat} {l l':List α} (n:Nat) (hS:S r k=some (.arr kk (l.map enc),g)) (hl:l.take n=l') (hset:S.set r k (.arr kk (l'.map enc)) g=S') (h:cN R v S'):cN R v S:=λG w x hr hx=>
  h G w x (by rw[<-hset,<-hl,List.map_take];exact hr.cut hS n) hx
theorem zu {P:Program} {rg:Nat} {t:Env} {S:St} {K:AV->St->Prop} {x:Operand} {T e:TypeId} {d:Option Nat} {kk r k' g n:Nat} {hi:Option Operand} {h:Int} (hT:td P T = .slice e) (hs:sz P e=kk) (h0:0<kk) (hx:ev t x = .sl kk r k' g 0 n)
    (hhi:bnd (hi.map (ev t)) n=some h) (hb:(0:Int)<=0/\0<=h/\h<=(n:Int)) (hK:K (.sl kk r k' g 0 h.toNat) S):vo P rg d (.slice T x none hi none) t S K:=
  uS hT hs h0 hx (l:=0) rfl hhi hb (by simpa using hK)
end Go.Gg
