/- What the bulk gives: few arguments. Conditions: none. -/
import Derived.Test.YtbnjpdocceckeaaGreatRowD
import Derived.Test.YtbnjpdocceckeaaGreatLwC
set_option linter.all false
namespace Go.Proofs.YtbnjpdocceckeaaGreat
open Go.Gg
theorem E5{α:Type}{sz:α->Nat}:∀l:List α,1<=T_ sz l
 | []=>Nat.le_refl 1
 | x::l=>by have:=E5 (sz:=sz) l;simp only[T_];omega
theorem CA{α:Type}{sz:α->Nat}{x:α}:∀l:List α,T_ sz (l++[x])=T_ sz l+sz x
 | []=>by simp only[T_,List.nil_append];omega
 | y::l=>by have:=CA (sz:=sz) (x:=x) l;simp only[T_,List.cons_append];omega
theorem Cz{α:Type}{sz:α->Nat}:∀(l:List α) (k:Nat),T_ sz (l.take k)<=T_ sz l
 | [],k=>by simp
 | y::l,0=>by have:=E5 (sz:=sz) (y::l);simpa[T_]using this
 | y::l,k+1=>by have:=Cz (sz:=sz) l k;simp only[T_,List.take_succ_cons];omega
theorem AS(f:GFormula):∀k,k<=f.N.length->uJ f k<=T_ sV (f.N.take k)
 | 0,_=>by simp[uJ]
 | k+1,h=>by
  have ih:=AS f k om;have e:f.N.take (k+1)=f.N.take k++[P9 f.N (k:Int)]:=by rw[List.take_add_one,uI (show k<f.N.length by omega),List.getElem?_eq_getElem (show k<f.N.length by omega)];rfl
  have h2:=E6 (sz:=λ_:Int=>1) (λ_=>Nat.le_refl 1) (P9 f.N (k:Int)).Z;rw[e,CA,uJ];have h3:sV (P9 f.N (k:Int))=1+1+T_ (λ_:Int=>1) (P9 f.N (k:Int)).Z+1:=rfl;omega
theorem Lc{f:GFormula}(s:pz f<=1048576)(k:Nat)(h:k<=f.N.length):uJ f k<=9223372036854775807:=by have h1:=AS f k h;have h2:=Cz (sz:=sV) f.N k;unfold pz at s;dsimp only at s;omega
end Go.Proofs.YtbnjpdocceckeaaGreat
