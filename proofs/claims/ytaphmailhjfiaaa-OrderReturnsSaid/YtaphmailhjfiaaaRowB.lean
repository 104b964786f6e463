/- What is read of the structures. Conditions: none. -/
import Derived.Test.YtaphmailhjfiaaaRowA
import Derived.KernelRfl
namespace Go.Proofs.Ytaphmailhjfiaaa
open Go.Gg
def okL {α:Type} (ok:α->Prop) (l:List α):Prop:=l.length<=9223372036854775807/\∀x∈l,ok x
theorem uy {α:Type} {l:List α} (h:l.length=3):∃a0 a1 a2,l=[a0,a1,a2]:=by
  match l,h with
  | [a0,a1,a2],_=>exact⟨a0,a1,a2,rfl⟩
theorem rd3 (w:World):Rd Try.prog w 3 (AV.int .i64) (λn:Int=>IntKind.i64.min<=n/\n<=IntKind.i64.max) (λ_:Int=>1):=vV Try.underlying3
theorem wG (w:World):Rd Try.prog w 31 (eL (AV.int .i64)) (okL (λn:Int=>IntKind.i64.min<=n/\n<=IntKind.i64.max)) (szL (λ_:Int=>1)):=pD (kk:=1) Try.underlying31 (by kernel_rfl) (by decide) (λ_=>rfl) (rd3 w)
def pV (r:GNode):Prop:=(λn:Int=>IntKind.i64.min<=n/\n<=IntKind.i64.max) r.Kind/\(λn:Int=>IntKind.i64.min<=n/\n<=IntKind.i64.max) r.K/\(okL (λn:Int=>IntKind.i64.min<=n/\n<=IntKind.i64.max)) r.Args
def nV (r:GNode):Nat:=(λ_:Int=>1) r.Kind+(λ_:Int=>1) r.K+(szL (λ_:Int=>1)) r.Args+1
theorem wF (w:World):Rd Try.prog w 46 aP pV nV:=by
  intro H en fuel cs x h
  obtain⟨xs,n,rfl,rfl,hl,hxl,hf⟩:=DataW.trod_struct Try.underlying46 h
  rw[show Try.prog.cellsOf 46=3 by kernel_rfl] at hl
  have hxl:xs.length=3:=hxl
  obtain⟨c0,c1,c2,rfl⟩:=uy hl
  obtain⟨x0,x1,x2,rfl⟩:=uy hxl
  have h0:=hf 0 _ rfl
  have h0:DataW.trod en Try.prog w 0 (λ_=>true) true n 3 [c0]=some x0:=by rw[show Try.prog.cellsOf _=1 by kernel_rfl] at h0;exact h0
  obtain⟨y0,o0,s0,v0⟩:=rd3 w H en n _ _ h0
  have h1:=hf 1 _ rfl
  have h1:DataW.trod en Try.prog w 0 (λ_=>true) true n 3 [c1]=some x1:=by rw[show Try.prog.cellsOf _=1 by kernel_rfl] at h1;exact h1
  obtain⟨y1,o1,s1,v1⟩:=rd3 w H en n _ _ h1
  have h2:=hf 2 _ rfl
  have h2:DataW.trod en Try.prog w 0 (λ_=>true) true n 31 [c2]=some x2:=by rw[show Try.prog.cellsOf _=1 by kernel_rfl] at h2;exact h2
  obtain⟨y2,o2,s2,v2⟩:=wG w H en n _ _ h2
  refine⟨⟨y0,y1,y2⟩,⟨o0,o1,o2⟩,?_,rfl,λj hj hj'=>?_⟩
  · simp only[nV,Rows.uptoBulk,Rows.uptoBulkAll,List.map_cons,List.map_nil];try dsimp only at s0
    try dsimp only at s1
    try dsimp only at s2
    omega
  · match j,hj,hj' with
    | 0,_,_=>exact v0.2 0 (Nat.le_of_ble_eq_true rfl) (Nat.le_of_ble_eq_true rfl)
    | 1,_,_=>exact v1.2 0 (Nat.le_of_ble_eq_true rfl) (Nat.le_of_ble_eq_true rfl)
    | 2,_,_=>exact v2.2 0 (Nat.le_of_ble_eq_true rfl) (Nat.le_of_ble_eq_true rfl)
    | j+3,_,hj'=>exact absurd hj' (by simp)
theorem wI (w:World):Rd Try.prog w 22 (eL aP) (okL pV) (szL nV):=pD (kk:=3) Try.underlying22 (by kernel_rfl) (by decide) (λ_=>rfl) (wF w)
def ny (r:GFormula):Prop:=(λn:Int=>IntKind.i64.min<=n/\n<=IntKind.i64.max) r.Vars/\(okL pV) r.Nodes/\(λn:Int=>IntKind.i64.min<=n/\n<=IntKind.i64.max) r.Top
def nl (r:GFormula):Nat:=(λ_:Int=>1) r.Vars+(szL nV) r.Nodes+(λ_:Int=>1) r.Top+1
theorem wH (w:World):Rd Try.prog w 24 an ny nl:=by
  intro H en fuel cs x h
  obtain⟨xs,n,rfl,rfl,hl,hxl,hf⟩:=DataW.trod_struct Try.underlying24 h
  rw[show Try.prog.cellsOf 24=3 by kernel_rfl] at hl
  have hxl:xs.length=3:=hxl
  obtain⟨c0,c1,c2,rfl⟩:=uy hl
  obtain⟨x0,x1,x2,rfl⟩:=uy hxl
  have h0:=hf 0 _ rfl
  have h0:DataW.trod en Try.prog w 0 (λ_=>true) true n 3 [c0]=some x0:=by rw[show Try.prog.cellsOf _=1 by kernel_rfl] at h0;exact h0
  obtain⟨y0,o0,s0,v0⟩:=rd3 w H en n _ _ h0
  have h1:=hf 1 _ rfl
  have h1:DataW.trod en Try.prog w 0 (λ_=>true) true n 22 [c1]=some x1:=by rw[show Try.prog.cellsOf _=1 by kernel_rfl] at h1;exact h1
  obtain⟨y1,o1,s1,v1⟩:=wI w H en n _ _ h1
  have h2:=hf 2 _ rfl
  have h2:DataW.trod en Try.prog w 0 (λ_=>true) true n 3 [c2]=some x2:=by rw[show Try.prog.cellsOf _=1 by kernel_rfl] at h2;exact h2
  obtain⟨y2,o2,s2,v2⟩:=rd3 w H en n _ _ h2
  refine⟨⟨y0,y1,y2⟩,⟨o0,o1,o2⟩,?_,rfl,λj hj hj'=>?_⟩
  · simp only[nl,Rows.uptoBulk,Rows.uptoBulkAll,List.map_cons,List.map_nil];try dsimp only at s0
    try dsimp only at s1
    try dsimp only at s2
    omega
  · match j,hj,hj' with
    | 0,_,_=>exact v0.2 0 (Nat.le_of_ble_eq_true rfl) (Nat.le_of_ble_eq_true rfl)
    | 1,_,_=>exact v1.2 0 (Nat.le_of_ble_eq_true rfl) (Nat.le_of_ble_eq_true rfl)
    | 2,_,_=>exact v2.2 0 (Nat.le_of_ble_eq_true rfl) (Nat.le_of_ble_eq_true rfl)
    | j+3,_,hj'=>exact absurd hj' (by simp)
end Go.Proofs.Ytaphmailhjfiaaa
