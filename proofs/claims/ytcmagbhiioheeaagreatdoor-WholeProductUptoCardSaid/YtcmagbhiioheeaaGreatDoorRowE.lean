/- What the bulk gives: short fractions, few arguments. Conditions: none. -/
import Derived.Test.YtcmagbhiioheeaaGreatDoorRowD
import Derived.Test.YtcmagbhiioheeaaGreatDoorMb
namespace Go.Proofs.YtcmagbhiioheeaaGreatDoor
open Go.Gg
theorem wd {α:Type} {sz:α->Nat}:∀l:List α,1<=szL sz l
  | []=>Nat.le_refl 1
  | x :: l=>by have:=wd (sz:=sz) l;simp only[szL];omega
theorem zZ {α:Type} {sz:α->Nat}:∀ {l:List α} {x:α},x∈l->sz x+1<=szL sz l
  | y :: l,x,h=>by
    simp only[szL]
    rcases List.mem_cons.1 h with rfl | h
    · have:=wd (sz:=sz) l;omega
    · have:=zZ (sz:=sz) h;omega
theorem xy {α:Type} {sz:α->Nat} {x:α}:∀l:List α,szL sz (l++[x])=szL sz l+sz x
  | []=>by simp only[szL,List.nil_append];omega
  | y :: l=>by have:=xy (sz:=sz) (x:=x) l;simp only[szL,List.cons_append];omega
theorem xx {α:Type} {sz:α->Nat}:∀(l:List α) (k:Nat),szL sz (l.take k)<=szL sz l
  | [],k=>by simp
  | y :: l,0=>by have:=wd (sz:=sz) (y :: l);simpa[szL] using this
  | y :: l,k+1=>by have:=xx (sz:=sz) l k;simp only[szL,List.take_succ_cons];omega
theorem aau {x:GRat} (h:tE x) (s:pG x<=1048576):Fr x:=by
  have h1:=sA (sz:=λ_:Int=>1) (λ_=>Nat.le_refl 1) x.L
  have h2:=sA (sz:=λ_:Int=>1) (λ_=>Nat.le_refl 1) x.W
  unfold pG at s
  dsimp only at s
  exact⟨u32 h.2.1.2,u32 h.2.2.2,om,om⟩
theorem Mj {l:List GRat} (h:okL tE l) (s:szL pG l<=1048576) (i:Nat) (hi:i<l.length):WrR (at' l (i:Int))/\Fr (at' l (i:Int)):=
  ⟨aat (h.2 _ (zF hi)),aau (h.2 _ (zF hi)) (by have:=zZ (sz:=pG) (zF hi);omega)⟩
theorem vQ (f:GFormula):∀k,k<=f.N.length->nQ f k<=szL oU (f.N.take k)
  | 0,_=>by simp[nQ]
  | k+1,h=>by
    have ih:=vQ f k om
    have e:f.N.take (k+1)=f.N.take k++[at' f.N (k:Int)]:=by
      rw[List.take_add_one,bX (show k<f.N.length by omega),List.getElem?_eq_getElem (show k<f.N.length by omega)];rfl
    have h2:=sA (sz:=λ_:Int=>1) (λ_=>Nat.le_refl 1) (at' f.N (k:Int)).M
    rw[e,xy,nQ]
    have h3:oU (at' f.N (k:Int))=1+1+szL (λ_:Int=>1) (at' f.N (k:Int)).M+1:=rfl
    omega
theorem H0 {f:GFormula} (s:lQ f<=1048576) (k:Nat) (h:k<=f.N.length):nQ f k<=9223372036854775807:=by
  have h1:=vQ f k h
  have h2:=xx (sz:=oU) f.N k
  unfold lQ at s
  dsimp only at s
  omega
end Go.Proofs.YtcmagbhiioheeaaGreatDoor
