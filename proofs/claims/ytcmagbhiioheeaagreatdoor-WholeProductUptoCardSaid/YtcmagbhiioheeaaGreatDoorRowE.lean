/- What the bulk gives: short fractions, few arguments. Conditions: none. -/
import Derived.Test.YtcmagbhiioheeaaGreatDoorRowD
import Derived.Test.YtcmagbhiioheeaaGreatDoorMb
namespace Go.Proofs.YtcmagbhiioheeaaGreatDoor
open Go.Gg
theorem xG {α:Type} {sz:α->Nat}:∀l:List α,1<=szL sz l
  | []=>Nat.le_refl 1
  | x :: l=>by have:=xG (sz:=sz) l;simp only[szL];omega
theorem Bv {α:Type} {sz:α->Nat}:∀ {l:List α} {x:α},x∈l->sz x+1<=szL sz l
  | y :: l,x,h=>by
    simp only[szL]
    rcases List.mem_cons.1 h with rfl | h
    · have:=xG (sz:=sz) l;omega
    · have:=Bv (sz:=sz) h;omega
theorem yS {α:Type} {sz:α->Nat} {x:α}:∀l:List α,szL sz (l++[x])=szL sz l+sz x
  | []=>by simp only[szL,List.nil_append];omega
  | y :: l=>by have:=yS (sz:=sz) (x:=x) l;simp only[szL,List.cons_append];omega
theorem yR {α:Type} {sz:α->Nat}:∀(l:List α) (k:Nat),szL sz (l.take k)<=szL sz l
  | [],k=>by simp
  | y :: l,0=>by have:=xG (sz:=sz) (y :: l);simpa[szL] using this
  | y :: l,k+1=>by have:=yR (sz:=sz) l k;simp only[szL,List.take_succ_cons];omega
theorem abP {x:GRat} (h:uR x) (s:qG x<=1048576):Fr x:=by
  have h1:=tN (sz:=λ_:Int=>1) (λ_=>Nat.le_refl 1) x.L
  have h2:=tN (sz:=λ_:Int=>1) (λ_=>Nat.le_refl 1) x.W
  unfold qG at s
  dsimp only at s
  exact⟨u32 h.2.1.2,u32 h.2.2.2,om,om⟩
theorem NM {l:List GRat} (h:okL uR l) (s:szL qG l<=1048576) (i:Nat) (hi:i<l.length):WrR (at' l (i:Int))/\Fr (at' l (i:Int)):=
  ⟨abO (h.2 _ (Bb hi)),abP (h.2 _ (Bb hi)) (by have:=Bv (sz:=qG) (Bb hi);omega)⟩
theorem xt (f:GFormula):∀k,k<=f.N.length->oT f k<=szL pW (f.N.take k)
  | 0,_=>by simp[oT]
  | k+1,h=>by
    have ih:=xt f k om
    have e:f.N.take (k+1)=f.N.take k++[at' f.N (k:Int)]:=by
      rw[List.take_add_one,bX (show k<f.N.length by omega),List.getElem?_eq_getElem (show k<f.N.length by omega)];rfl
    have h2:=tN (sz:=λ_:Int=>1) (λ_=>Nat.le_refl 1) (at' f.N (k:Int)).M
    rw[e,yS,oT]
    have h3:pW (at' f.N (k:Int))=1+1+szL (λ_:Int=>1) (at' f.N (k:Int)).M+1:=rfl
    omega
theorem Jm {f:GFormula} (s:mL f<=1048576) (k:Nat) (h:k<=f.N.length):oT f k<=9223372036854775807:=by
  have h1:=xt f k h
  have h2:=yR (sz:=pW) f.N k
  unfold mL at s
  dsimp only at s
  omega
end Go.Proofs.YtcmagbhiioheeaaGreatDoor
