/- From what a row reads to typed values. Conditions: none. -/
import Derived.Test.YtbnjpdocceckeaaGreatWa
import Derived.Test.YtbnjpdocceckeaaGreatRows
import Derived.WalkKit
import Derived.ProofKit
import Derived.OpenShut
import Derived.JoinedCond
import Derived.ChangeArms
import Derived.Carry
set_option linter.all false
namespace Go.Gg
open Go.RowKit (Below)
def VRL(G:Qh)(av:AV)(cs:List Value):Prop:=cs.length=av.cells.length/\∀j (h:j<av.cells.length) (h':j<cs.length),VR G av.cells[j] cs[j]
def gw(w:World):Qh:=⟨w,λb o=>w.cell? ⟨b,o,none⟩,λ_ _ _=>none,λ_=>False,w.heap.size⟩
def S0:St:=λ_ _=>none
theorem Pm(w:World):Rel (gw w) S0 w:=by
 refine⟨⟨Below.refl _ _,λ_ h=>h.elim,Nat.le_refl _⟩,λ_ _ _ h=>h,λr k o g e=>?_,λr k o g r' k' o' g' L L' e=>?_,⟨0,λ_ _ _=>rfl⟩,λr k=>⟨0,λ_ _=>rfl⟩⟩;·cases e
 ·cases e
def Rd(P:Program)(w:World)(t:TypeId){α:Type}(enc:α->AV)(ok:α->Prop)(sz:α->Nat):Prop:=
 ∀(H:Type) (en:TypeId×Value->H) (fuel:Nat) (cs:List Value) (x:DataW H×List MemPlace),DataW.trod en P w 0 (λ_=>true) true fuel t cs=some x->
  ∃y,ok y/\sz y<=@Proofs.YtbnjpdocceckeaaGreat.Rows.uptoBulk H x.1/\VRL (gw w) (enc y) cs
theorem Cd{G:Qh}{av:AV}{v:Value}(h1:av.cells=[av])(h:VR G av v):VRL G av [v]:=by refine⟨by rw[h1];rfl,λj hj SU=>?_⟩;simp only[List.length_singleton]at SU;obtain rfl:j=0:=om;simp only[h1,List.getElem_cons_zero];exact h
variable{P:Program}{w:World}
theorem NI{t:TypeId}{k:IntKind}(ht:P.underlying t=some (.int k)):Rd P w t (AV.int k) (λn=>k.min<=n/\n<=k.max) (λ_=>1):=by
 intro H en fuel cs x h;cases fuel with
 | zero=>simp[DataW.trod]at h
 | succ n=>
  unfold DataW.trod at h;rw[ht]at h;split at h<;>simp_all;obtain⟨⟨rfl,hw⟩,rfl⟩:=h;simp only[Lit.wf,Bool.and_eq_true,decide_eq_true_eq]at hw;exact⟨_,hw,by simp[Proofs.YtbnjpdocceckeaaGreat.Rows.uptoBulk],Cd rfl (.int _ _)⟩
theorem FH{α:Type}{p:Nat->α->Prop}:∀n,(∀i,i<n->∃y,p i y)->∃l:List α,l.length=n/\∀i (h:i<l.length),p i l[i]
 | 0,_=>⟨[],rfl,λi h=>absurd h Qy⟩
 | n+1,h=>by
  obtain⟨l,hl,hp⟩:=FH n (λi hi=>h i om);obtain⟨y,hy⟩:=h n om;refine⟨l++[y],by simp[hl],λi hi=>?_⟩;rcases Nat.lt_or_ge i n with h1|h1;·rw[List.getElem_append_left om];exact hp i _
  ·have:i=n:=by simp at hi;omega
   subst this;rw[List.getElem_append_right om];simp[hl];exact hy
def T_{α:Type}(sz:α->Nat):List α->Nat
 | []=>1
 | x::l=>sz x+T_ sz l
theorem E6{α:Type}{sz:α->Nat}(h:∀x,1<=sz x):∀l,l.length+1<=T_ sz l
 | []=>by simp[T_]
 | x::l=>by have:=E6 h l;have:=h x;simp only[T_,List.length_cons];omega
theorem HK{α H:Type}{sz:α->Nat}:∀(l:List α) (xs:List (DataW H)),l.length=xs.length->(∀i (h:i<l.length) (h':i<xs.length),sz l[i]<=@Proofs.YtbnjpdocceckeaaGreat.Rows.uptoBulk H xs[i])->T_ sz l<=@Proofs.YtbnjpdocceckeaaGreat.Rows.uptoBulkAll H xs+1
 | [],[],_,_=>by simp[T_,Proofs.YtbnjpdocceckeaaGreat.Rows.uptoBulkAll]
 | y::l,x::xs,hl,h=>by have h0:=h 0 Qy Qy;have ih:=HK l xs (by simpa using hl) (λi hi Q9=>h (i+1) (by simpa using hi) (by simpa using Q9));simp only[T_,Proofs.YtbnjpdocceckeaaGreat.Rows.uptoBulkAll];simp only[List.getElem_cons_zero]at h0;omega
theorem uK{a:Addr}(h:a.spot=none)(n:Nat):a.add n=⟨a.block,a.off+n,none⟩:=by
 obtain⟨b,o,s⟩:=a;simp only at h;subst h;unfold Addr.add;split;·rename_i h0;subst h0;rfl
 ·rfl
theorem DD{t e:TypeId}{α:Type}{enc:α->AV}{ok:α->Prop}{sz:α->Nat}{kk:Nat}(ht:P.underlying t=some (.slice e))(hk:P.cellsOf e=kk)(h0:0<kk)(hc:∀x,(enc x).cells.length=kk)(hr:Rd P w e enc ok sz):Rd P w t (eL enc) (λl=>l.length<=9223372036854775807/\∀x∈l,ok x) (T_ sz):=by
 intro H en fuel cs x h;rcases DataW.trod_slice ht h with⟨rfl,rfl⟩|⟨a,len,cap,elems,rest,n,rfl,rfl,rfl,hb,hl,Sp,TW,TU,_,_⟩;·exact⟨[],⟨by simp,λx hx=>by cases hx⟩,by simp[T_,Proofs.YtbnjpdocceckeaaGreat.Rows.uptoBulk],Cd rfl (.list [] none 0 0 0 0 0 (λ_ _=>.bool false) rfl om (by unfold maxLen;omega) (λhh=>om) (λi hi=>by simp at hi) (λi j hi=>om) (λi hi=>by simp at hi))⟩
 ·rw[hk]at TU;have ahx:∀i,i<len->∃y,ok y/\(∀z,elems[i]? = some z->sz y<=@Proofs.YtbnjpdocceckeaaGreat.Rows.uptoBulk H z.1)/\(∃ci,w.cells? 0 (a.add (i*kk)) kk=some ci/\VRL (gw w) (enc y) ci):=by intro i hi;have hg:=TU i hi;have UZ:i<elems.length:=om;rw[List.getElem?_eq_getElem UZ]at hg;obtain⟨ci,h1,h2⟩:=Option.bind_eq_some_iff.1 hg;obtain⟨y,hy1,hy2,hy3⟩:=hr H en n ci _ h2;exact⟨y,hy1,λz hz=>by rw[List.getElem?_eq_getElem UZ]at hz;cases hz;exact hy2,ci,h1,hy3⟩
  obtain⟨l,hll,hlp⟩:=FH len ahx;have UF:∀i ci,w.cells? 0 (a.add (i*kk)) kk=some ci->ci.length=kk/\∀j (hj:j<ci.length),w.cell? ((a.add (i*kk)).add j)=some ci[j]:=by
   intro i ci hci;unfold World.cells? at hci;rw[if_pos (Nat.zero_le _)]at hci;have e1:ci.length=kk:=by simpa using mapM_some_length hci
   refine⟨e1,λj hj=>?_⟩;have hr:(List.range kk)[j]? = some j:=List.getElem?_range om;have:=mapM_some_get hci j j hr;rw[List.getElem?_eq_getElem hj]at this;exact this
  have X1:0<len->a.spot=none:=by
   intro hp;obtain⟨_,_,ci,h1,_⟩:=hlp 0 om;obtain⟨e1,e2⟩:=UF 0 ci h1;have:=e2 0 om;rw[Nat.zero_mul]at this;have e3:(a.add 0).add 0=a:=by unfold Addr.add;rfl
   rw[e3]at this;unfold World.cell? at this;split at this
   ·split at this;·cases this
    ·rename_i hs;simpa using hs
   ·cases this
  refine⟨l,⟨by rw[hll];unfold maxLen at Sp;omega,λy hy=>?_⟩,?_,?_⟩;·obtain⟨i,hi,rfl⟩:=List.mem_iff_getElem.1 hy;exact(hlp i hi).1
  ·have:=HK (sz:=sz) l (elems.map (·.1)) (by simp;omega) (λi hi Q9=>by
    have UZ:i<elems.length:=by simpa using Q9
    have:=(hlp i hi).2.1 elems[i] (List.getElem?_eq_getElem UZ);rw[List.getElem_map];exact this)
   simp only[Proofs.YtbnjpdocceckeaaGreat.Rows.uptoBulk];omega
  ·refine Cd rfl ?_;refine .list (l.map enc) (some a) len cap a.block a.off kk (λi j=>(w.cell? ⟨a.block,a.off+(i*kk+j),none⟩).getD (.bool false)) (by simp;omega) hl Sp (λhp=>?_) (λi hi=>by simp[hc]) (λi j hi hj=>?_) (λi hi j hj=>?_);·have:=X1 hp;obtain⟨b,o,s⟩:=a;simp only at this;subst this;rfl
   ·have hs:=X1 om;obtain⟨_,_,ci,h1,_⟩:=hlp i om;obtain⟨e1,e2⟩:=UF i ci h1;have:=e2 j om;rw[uK hs,uK rfl]at this;simp only[Nat.add_assoc]at this;show w.cell? _=some _;rw[this];rfl
   ·have UZ:i<l.length:=by simpa using hi
    have hs:=X1 om;obtain⟨_,_,ci,h1,h3⟩:=hlp i UZ;obtain⟨e1,e2⟩:=UF i ci h1;have YG:j<(enc l[i]).cells.length:=by simpa using hj
    have hj3:j<ci.length:=by rw[h3.1];exact YG
    have:=e2 j hj3;rw[uK hs,uK rfl]at this;simp only[Nat.add_assoc]at this;rw[this];have:=h3.2 j YG hj3;simpa using this
end Go.Gg
