/- slices.Insert of own rows whose elements have kk cells: the library's text walked once, over any numbering. Conditions: none. -/
import Derived.Test.YtcmagbhiioheeaaGreatDoorGd2
import Derived.Test.YtcmagbhiioheeaaGreatDoorGd
import Derived.Shelf.Spec.SlicesInsert
import Derived.Lib.AppendZerosOnto
import Derived.Laws.NewBlocks
open Go.IntKind (i64)
namespace Go.Gg
open Go.RowKit (Below)
open Go.Shelf Go.Proofs Go.Lib
structure InsL (P:Program) (ρ:Ren) (e:TypeId) (kk by':Nat) (zv:Value) (nm no:String):Prop where
 mixed:P.follows .mixedOrders=true
 f22:P.funcs[ρ.f 22]? = some { Body2.n22 ρ with name:=nm }
 f29:P.funcs[ρ.f 29]? = some { Body2.n29 ρ with name:=no }
 n29 : (no == "runtime.NumGoroutine") = false
 o29:Extern.findNext { Body2.n29 ρ with name:=no }=none
 x29:Extern.find { Body2.n29 ρ with name:=no }=some (Extern.SlicesOverlaps.overlaps #[(ρ.t 24),(ρ.t 24)] #[(ρ.t 4)])
 t0:P.underlying (ρ.t 0)=some (TypeDesc.tuple #[])
 a0:∀w,(isAgg (ρ.t 0)).run P w = .ok false w
 z0:∀w,(Go.sizeOf (ρ.t 0)).run P w = .ok 1 w
 v0:∀w,(zeroValue (ρ.t 0)).run P w = .ok (Value.tuple #[]) w
 t3:P.underlying (ρ.t 3)=some (TypeDesc.int i64)
 a3:∀w,(isAgg (ρ.t 3)).run P w = .ok false w
 z3:∀w,(Go.sizeOf (ρ.t 3)).run P w = .ok 1 w
 v3:∀w,(zeroValue (ρ.t 3)).run P w = .ok (Value.int i64 0) w
 t4:P.underlying (ρ.t 4)=some (TypeDesc.bool)
 a4:∀w,(isAgg (ρ.t 4)).run P w = .ok false w
 z4:∀w,(Go.sizeOf (ρ.t 4)).run P w = .ok 1 w
 v4:∀w,(zeroValue (ρ.t 4)).run P w = .ok (Value.bool false) w
 t24:P.underlying (ρ.t 24)=some (TypeDesc.slice e)
 a24:∀w,(isAgg (ρ.t 24)).run P w = .ok false w
 z24:∀w,(Go.sizeOf (ρ.t 24)).run P w = .ok 1 w
 v24:∀w,(zeroValue (ρ.t 24)).run P w = .ok (Value.slice none 0 0) w
 z9:∀w,(Go.sizeOf e).run P w = .ok kk w
 i9:(P.info? e).map (λi=>(i.zero,i.size,i.bytes))=some (some zv,kk,by')
 k0:0<kk
 zc:zv.cells.size=kk
section
variable {P:Program} {ρ:Ren} {e:TypeId} {kk by':Nat} {zv:Value} {nm no:String}
end
def splice (row:Array Value) (o:Nat) (vs:List Value):Array Value:=(row.toList.take o++vs++row.toList.drop (o+vs.length)).toArray
section
variable {P:Program} {w:World}
end
end Go.Gg
namespace Go.Gg
open Go.Shelf
theorem Rel.ren {G:Ghost} {S:St} {w:World} {r k g:Nat} {o:GObj} (h:Rel G S w) (hS:S r k=some (o,g)) (r2 k2:Nat) :
  ∃g' G',G.le G'/\AL G' ((r,k,g),(r2,k2,g'))/\Rel G' ((S.del r k).set r2 k2 o g') w:=by
 obtain⟨L,hL,hobj,hown⟩:=h.obj r k o g hS
 obtain⟨g',hg'⟩:=h.fresh r2 k2
 let G':Ghost:={ G with loc:=λa b c=>if a=r2/\b=k2/\c=g' then some L else G.loc a b c }
 have hle:G.le G':=by
  refine⟨⟨rfl,λ_ h=>h,rfl⟩,λ_ _ _ e=>e,λa b c L2 e=>?_⟩
  show(if a=r2/\b=k2/\c=g' then some L else G.loc a b c)=some L2
  split
  ·rename_i hc;obtain⟨rfl,rfl,rfl⟩:=hc;rw[hg'] at e;cases e
  ·exact e
 have hloc:G'.loc r2 k2 g'=some L:=by
  show(if r2=r2/\k2=k2/\g'=g' then some L else _)=_
  rw[if_pos ⟨rfl,rfl,rfl⟩]
 have src:∀ {a b o2 c L2},((S.del r k).set r2 k2 o g') a b=some (o2,c)->G'.loc a b c=some L2->(a=r2/\b=k2/\L2=L)\/(¬(a=r/\b=k)/\S a b=some (o2,c)/\G.loc a b c=some L2):=by
  intro a b o2 c L2 e l2
  simp only[St.set,St.del] at e
  split at e
  ·rename_i hc;obtain⟨rfl,rfl⟩:=hc;cases e;rw[hloc] at l2;exact .inl ⟨rfl,rfl,(Option.some.inj l2).symm⟩
  ·split at e
   ·cases e
   ·rename_i hc2
    obtain⟨L3,q1,_⟩:=h.obj _ _ _ _ e
    have:=hle.loc _ _ _ _ q1
    rw[this] at l2;cases l2
    exact .inr ⟨hc2,e,q1⟩
 refine⟨g',G',hle,⟨L,hle.loc _ _ _ _ hL,hloc⟩,h.below,h.imm,λa b o2 c e=>?_,λr1 k1 o1 g1 r3 k3 o3 g3 L1 L3 e1 e3 l1 l3 c1 c3 hne=>?_,?_,λa b=>?_⟩
 ·simp only[St.set,St.del] at e
  split at e
  ·rename_i hc;obtain⟨rfl,rfl⟩:=hc;cases e
   exact⟨L,hloc,hobj.keep hle (λ_=>rfl),hown⟩
  ·split at e
   ·cases e
   ·obtain⟨L2,q1,q2,q3⟩:=h.obj _ _ _ _ e
    exact⟨L2,hle.loc _ _ _ _ q1,q2.keep hle (λ_=>rfl),q3⟩
 ·rcases src e1 l1 with⟨rfl,rfl,rfl⟩ | ⟨n1,f1,m1⟩
  ·rcases src e3 l3 with⟨rfl,rfl,rfl⟩ | ⟨n3,f3,m3⟩
   ·exact absurd ⟨rfl,rfl⟩ hne
   ·exact h.inj _ _ _ _ _ _ _ _ _ _ hS f3 hL m3 c1 c3 (λhc=>n3 ⟨hc.1.symm,hc.2.symm⟩)
  ·rcases src e3 l3 with⟨rfl,rfl,rfl⟩ | ⟨n3,f3,m3⟩
   ·exact h.inj _ _ _ _ _ _ _ _ _ _ f1 hS m1 hL c1 c3 n1
   ·exact h.inj _ _ _ _ _ _ _ _ _ _ f1 f3 m1 m3 c1 c3 hne
 ·obtain⟨N,hN⟩:=h.fin
  refine⟨max N (r2+1),λa ha b=>?_⟩
  simp only[St.set,St.del]
  rw[if_neg (λhc=>om)]
  split
  ·rfl
  ·exact hN a om b
 ·obtain⟨N,hN⟩:=h.fing a b
  refine⟨max N (g'+1),λc hc=>?_⟩
  show(if a=r2/\b=k2/\c=g' then some L else G.loc a b c)=none
  rw[if_neg (λh=>om)]
  exact hN c om
def Ds (A:ALs) (t:Env):List (Nat×AV)->Prop
 | []=>True
 | (k,v) :: l=>RN A (t k) v/\Ds A t l
theorem Ds.vr {A:ALs} {t:Env} {G:Ghost} (hA:∀a∈A,AL G a):∀ {l:List (Nat×AV)},Ds A t l->∀i x,VR G (t i) x->VR G (aw l i) x
 | [],_,i,x,_=>.junk _
 | (k,v) :: l,h,i,x,hv=>by
  simp only[aw]
  by_cases hi:i=k
  ·subst hi
   rw[show Nat.beq i i=true by simp]
   exact h.1 G x hA hv
  ·rw[jv hi]
   exact Ds.vr hA h.2 i x hv
section
variable {α:Type} {P:Program} {n:Nat} {ops c:List Oper} {Kt:Env->St->Prop} {t:Env} {S0:St} {rg rf kk:Nat} {enc:α->AV} {gs:Nat->Nat} {T:List (List α)} {L:cq} {g:Nat} {l:List α}
end
section
variable {α:Type} {P:Program} {t:Env} {S0:St} {rg rf kk:Nat} {enc:α->AV} {gs:Nat->Nat} {T:List (List α)} {L:cq} {d:Option Nat} {Ty e:TypeId} {x y:Operand} {K:AV->St->Prop} {l l':List α} {m:Int}
theorem jk (hne:rf≠rg) (hi:m.toNat<T.length):(stL (bR S0 rf kk enc gs T) rg L).set rf m.toNat (.arr kk (l.map enc)) (gs m.toNat)=stL (bR S0 rf kk enc gs (aN T m l)) rg L:=by
 rw[vK hne hi]
 congr 2
 funext j
 simp only[oc]
 split
 ·rename_i h;rw[h]
 ·rfl
variable {ρ:Ren} {el:TypeId} {by':Nat} {zv:Value} {nm no:String} {f z:Operand} {ts:Array TypeId} {v:List α} {i:Int} {kv gv nv N:Nat}
end
theorem GC {α:Type} {S:St} {rf rg kk:Nat} {enc:α->AV} {gs:Nat->Nat} {T:List (List α)} (hne:rf≠rg) (h:∀k,S rg k=none):∀k,bR S rf kk enc gs T rg k=none:=λk=>by rw[nM (Ne.symm hne)];exact h k
theorem rm {α:Type} {R:AV->St->Prop} {v:AV} {S0:St} {rg rf K g kk:Nat} {L:cq} {enc:α->AV} {gs:Nat->Nat} {T:List (List α)} (hne:rf≠rg) (hrf:∀k,S0 rf k=none) (hS:lkp L K=some (.arr 1 (bH rf kk gs T),g)) (h:cN R v (stL S0 rg ((K,.arr 1 (T.map (eL enc)),g) :: L))):cN R v (stL (bR S0 rf kk enc gs T) rg L):=
 .wk (λ_ _ _ hr hv=>let ⟨G',q1,q2⟩:=hr.unfam hne hrf hS;⟨G',q1,q2,hv.mono q1⟩) h
theorem cW {α:Type} {S0:St} {rf rg kk:Nat} {enc:α->AV} {gs:Nat->Nat} {T:List (List α)} {L:cq} {m:Int} (hne:rf≠rg):stL (bR S0 rf kk enc gs T) rg L rf m.toNat=some (.arr kk ((at' T m).map enc),gs m.toNat):=nN hne _
end Go.Gg
