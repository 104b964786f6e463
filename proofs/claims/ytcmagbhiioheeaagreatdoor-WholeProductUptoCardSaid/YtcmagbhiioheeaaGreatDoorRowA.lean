/- D what a row reads to typed values. Conditions: none. -/
import Derived.Test.YtcmagbhiioheeaaGreatDoorWa
import Derived.Test.YtcmagbhiioheeaaGreatDoorRows
import Derived.WalkKit
import Derived.ProofKit
import Derived.OpenShut
import Derived.JoinedCond
import Derived.ChangeArms
import Derived.Carry
namespace Go.Gg
open Go.RowKit (Below)
def VRL (G:Ghost) (av:AV) (cs:List Value):Prop:=cs.length=av.cells.length/\∀j (h:j<av.cells.length) (h':j<cs.length),VR G av.cells[j] cs[j]
def gw (w:World):Ghost:=⟨w,λb o=>w.cell? ⟨b,o,none⟩,λ_ _ _=>none,λ_=>False,w.heap.size⟩
def S0:St:=λ_ _=>none
theorem abD (w:World):Rel (gw w) S0 w:=by
  refine⟨⟨Below.refl _ _,λ_ h=>h.elim,Nat.le_refl _⟩,λ_ _ _ h=>h,λr k o g e=>?_,λr k o g r' k' o' g' L L' e=>?_,⟨0,λ_ _ _=>rfl⟩,λr k=>⟨0,λ_ _=>rfl⟩⟩
  · cases e
  · cases e
def Rd (P:Program) (w:World) (t:TypeId) {α:Type} (enc:α->AV) (ok:α->Prop) (sz:α->Nat):Prop:=
  ∀(H:Type) (en:TypeId×Value->H) (fuel:Nat) (cs:List Value) (x:DataW H×List MemPlace),DataW.trod en P w 0 (λ_=>true) true fuel t cs=some x->
    ∃y,ok y/\sz y<=@Proofs.YtcmagbhiioheeaaGreatDoor.Rows.uptoBulk H x.1/\VRL (gw w) (enc y) cs
theorem rF {G:Ghost} {av:AV} {v:Value} (h1:av.cells=[av]) (h:VR G av v):VRL G av [v]:=by
  refine⟨by rw[h1];rfl,λj hj hj'=>?_⟩
  simp only[List.length_singleton] at hj'
  obtain rfl:j=0:=om
  simp only[h1,List.getElem_cons_zero]
  exact h
theorem G_ {P:Program} {w:World} {t:TypeId} {k:IntKind} (ht:P.underlying t=some (.int k)):Rd P w t (AV.int k) (λn=>k.min<=n/\n<=k.max) (λ_=>1):=by
  intro H en fuel cs x h
  cases fuel with
  | zero=>simp[DataW.trod] at h
  | succ n=>
    unfold DataW.trod at h
    rw[ht] at h
    split at h<;>simp_all
    obtain⟨⟨rfl,hw⟩,rfl⟩:=h
    simp only[Lit.wf,Bool.and_eq_true,decide_eq_true_eq] at hw
    exact⟨_,hw,by simp[Proofs.YtcmagbhiioheeaaGreatDoor.Rows.uptoBulk],rF rfl (.int _ _)⟩
theorem Jv {P:Program} {w:World} {t:TypeId} (ht:P.underlying t=some .bool):Rd P w t AV.bool (λ_=>True) (λ_=>1):=by
  intro H en fuel cs x h
  cases fuel with
  | zero=>simp[DataW.trod] at h
  | succ n=>
    unfold DataW.trod at h
    rw[ht] at h
    split at h<;>simp_all
    rename_i b
    subst h
    refine⟨by simp[Proofs.YtcmagbhiioheeaaGreatDoor.Rows.uptoBulk],?_⟩
    cases b
    · exact Or.inl (rF rfl (.bool _))
    · exact Or.inr (rF rfl (.bool _))
theorem Ca {α:Type} {p:Nat->α->Prop}:∀n,(∀i,i<n->∃y,p i y)->∃l:List α,l.length=n/\∀i (h:i<l.length),p i l[i]
  | 0,_=>⟨[],rfl,λi h=>absurd h zSm⟩
  | n+1,h=>by
    obtain⟨l,hl,hp⟩:=Ca n (λi hi=>h i om)
    obtain⟨y,hy⟩:=h n om
    refine⟨l++[y],by simp[hl],λi hi=>?_⟩
    rcases Nat.lt_or_ge i n with h1 | h1
    · rw[List.getElem_append_left om];exact hp i _
    · have:i=n:=by simp at hi;omega
      subst this
      rw[List.getElem_append_right om]
      simp[hl];exact hy
def szL {α:Type} (sz:α->Nat):List α->Nat
  | []=>1
  | x :: l=>sz x+szL sz l
theorem tN {α:Type} {sz:α->Nat} (h:∀x,1<=sz x):∀l,l.length+1<=szL sz l
  | []=>by simp[szL]
  | x :: l=>by have:=tN h l;have:=h x;simp only[szL,List.length_cons];omega
theorem Fy {α H:Type} {sz:α->Nat}:∀(l:List α) (xs:List (DataW H)),l.length=xs.length->(∀i (h:i<l.length) (h':i<xs.length),sz l[i]<=@Proofs.YtcmagbhiioheeaaGreatDoor.Rows.uptoBulk H xs[i])->szL sz l<=@Proofs.YtcmagbhiioheeaaGreatDoor.Rows.uptoBulkAll H xs+1
  | [],[],_,_=>by simp[szL,Proofs.YtcmagbhiioheeaaGreatDoor.Rows.uptoBulkAll]
  | y :: l,x :: xs,hl,h=>by
    have h0:=h 0 zSm zSm
    have ih:=Fy l xs (by simpa using hl) (λi hi hi'=>h (i+1) (by simpa using hi) (by simpa using hi'))
    simp only[szL,Proofs.YtcmagbhiioheeaaGreatDoor.Rows.uptoBulkAll]
    simp only[List.getElem_cons_zero] at h0
    omega
theorem rC {a:Addr} (h:a.spot=none) (n:Nat):a.add n=⟨a.block,a.off+n,none⟩:=by
  obtain⟨b,o,s⟩:=a
  simp only at h
  subst h
  unfold Addr.add
  split
  · rename_i h0;subst h0;rfl
  · rfl
theorem rG {P:Program} {w:World} {t e:TypeId} {α:Type} {enc:α->AV} {ok:α->Prop} {sz:α->Nat} {kk:Nat} (ht:P.underlying t=some (.slice e)) (hk:P.cellsOf e=kk) (h0:0<kk)
    (hc:∀x,(enc x).cells.length=kk) (hr:Rd P w e enc ok sz):Rd P w t (eL enc) (λl=>l.length<=9223372036854775807/\∀x∈l,ok x) (szL sz):=by
  intro H en fuel cs x h
  rcases DataW.trod_slice ht h with⟨rfl,rfl⟩ | ⟨a,len,cap,elems,rest,n,rfl,rfl,rfl,hb,hl,hcap,hel,hget,_,_⟩
  · exact⟨[],⟨by simp,λx hx=>by cases hx⟩,by simp[szL,Proofs.YtcmagbhiioheeaaGreatDoor.Rows.uptoBulk],rF rfl (.list [] none 0 0 0 0 0 (λ_ _=>.bool false) rfl om (by unfold maxLen;omega) (λhh=>om) (λi hi=>by simp at hi) (λi j hi=>om) (λi hi=>by simp at hi))⟩
  · rw[hk] at hget
    have hel':∀i,i<len->∃y,ok y/\(∀z,elems[i]? = some z->sz y<=@Proofs.YtcmagbhiioheeaaGreatDoor.Rows.uptoBulk H z.1)/\(∃ci,w.cells? 0 (a.add (i*kk)) kk=some ci/\VRL (gw w) (enc y) ci):=by
      intro i hi
      have hg:=hget i hi
      have hi2:i<elems.length:=om
      rw[List.getElem?_eq_getElem hi2] at hg
      obtain⟨ci,h1,h2⟩:=Option.bind_eq_some_iff.1 hg
      obtain⟨y,hy1,hy2,hy3⟩:=hr H en n ci _ h2
      exact⟨y,hy1,λz hz=>by rw[List.getElem?_eq_getElem hi2] at hz;cases hz;exact hy2,ci,h1,hy3⟩
    obtain⟨l,hll,hlp⟩:=Ca len hel'
    have hcell:∀i ci,w.cells? 0 (a.add (i*kk)) kk=some ci->ci.length=kk/\∀j (hj:j<ci.length),w.cell? ((a.add (i*kk)).add j)=some ci[j]:=by
      intro i ci hci
      unfold World.cells? at hci
      rw[if_pos (Nat.zero_le _)] at hci
      have e1:ci.length=kk:=by simpa using mapM_some_length hci
      refine⟨e1,λj hj=>?_⟩
      have hr:(List.range kk)[j]? = some j:=List.getElem?_range om
      have:=mapM_some_get hci j j hr
      rw[List.getElem?_eq_getElem hj] at this
      exact this
    have hspot:0<len->a.spot=none:=by
      intro hp
      obtain⟨_,_,ci,h1,_⟩:=hlp 0 om
      obtain⟨e1,e2⟩:=hcell 0 ci h1
      have:=e2 0 om
      rw[Nat.zero_mul] at this
      have e3:(a.add 0).add 0=a:=by unfold Addr.add;rfl
      rw[e3] at this
      unfold World.cell? at this
      split at this
      · split at this
        · cases this
        · rename_i hs;simpa using hs
      · cases this
    refine⟨l,⟨by rw[hll];unfold maxLen at hcap;omega,λy hy=>?_⟩,?_,?_⟩
    · obtain⟨i,hi,rfl⟩:=List.mem_iff_getElem.1 hy
      exact(hlp i hi).1
    · have:=Fy (sz:=sz) l (elems.map (·.1)) (by simp;omega) (λi hi hi'=>by
        have hi2:i<elems.length:=by simpa using hi'
        have:=(hlp i hi).2.1 elems[i] (List.getElem?_eq_getElem hi2)
        rw[List.getElem_map]
        exact this)
      simp only[Proofs.YtcmagbhiioheeaaGreatDoor.Rows.uptoBulk]
      omega
    · refine rF rfl ?_
      refine .list (l.map enc) (some a) len cap a.block a.off kk (λi j=>(w.cell? ⟨a.block,a.off+(i*kk+j),none⟩).getD (.bool false)) (by simp;omega) hl hcap (λhp=>?_) (λi hi=>by simp[hc]) (λi j hi hj=>?_) (λi hi j hj=>?_)
      · have:=hspot hp
        obtain⟨b,o,s⟩:=a
        simp only at this
        subst this
        rfl
      · have hs:=hspot om
        obtain⟨_,_,ci,h1,_⟩:=hlp i om
        obtain⟨e1,e2⟩:=hcell i ci h1
        have:=e2 j om
        rw[rC hs,rC rfl] at this
        simp only[Nat.add_assoc] at this
        show w.cell? _=some _
        rw[this];rfl
      · have hi2:i<l.length:=by simpa using hi
        have hs:=hspot om
        obtain⟨_,_,ci,h1,h3⟩:=hlp i hi2
        obtain⟨e1,e2⟩:=hcell i ci h1
        have hj2:j<(enc l[i]).cells.length:=by simpa using hj
        have hj3:j<ci.length:=by rw[h3.1];exact hj2
        have:=e2 j hj3
        rw[rC hs,rC rfl] at this
        simp only[Nat.add_assoc] at this
        rw[this]
        have:=h3.2 j hj2 hj3
        simpa using this
end Go.Gg
