/- What is read of the structures. Conditions: none. -/
import Derived.Test.YtnjgdkfhgmebjaaGreatRowA
import Derived.KernelRfl
namespace Go.Proofs.YtnjgdkfhgmebjaaGreat
open Go.Gg
def okL {α:Type} (ok:α->Prop) (l:List α):Prop:=l.length<=9223372036854775807/\∀x∈l,ok x
theorem yZ {α:Type} {l:List α} (h:l.length=2):∃a0 a1,l=[a0,a1]:=by
  match l,h with
  | [a0,a1],_=>exact⟨a0,a1,rfl⟩
theorem sG {α:Type} {l:List α} (h:l.length=3):∃a0 a1 a2,l=[a0,a1,a2]:=by
  match l,h with
  | [a0,a1,a2],_=>exact⟨a0,a1,a2,rfl⟩
theorem rd3 (w:World):Rd Tryz.prog w 3 (AV.int .i64) (λn:Int=>IntKind.i64.min<=n/\n<=IntKind.i64.max) (λ_:Int=>1):=wK Tryz.underlying3
theorem yK (w:World):Rd Tryz.prog w 83 (eL (AV.int .i64)) (okL (λn:Int=>IntKind.i64.min<=n/\n<=IntKind.i64.max)) (szL (λ_:Int=>1)):=kR (kk:=1) Tryz.underlying83 (by kernel_rfl) (by decide) (λ_=>rfl) (rd3 w)
def tr (r:GNode):Prop:=(λn:Int=>IntKind.i64.min<=n/\n<=IntKind.i64.max) r.Kind/\(λn:Int=>IntKind.i64.min<=n/\n<=IntKind.i64.max) r.K/\(okL (λn:Int=>IntKind.i64.min<=n/\n<=IntKind.i64.max)) r.Args
def qT (r:GNode):Nat:=(λ_:Int=>1) r.Kind+(λ_:Int=>1) r.K+(szL (λ_:Int=>1)) r.Args+1
theorem yP (w:World):Rd Tryz.prog w 103 bf tr qT:=by
  intro H en fuel cs x h
  obtain⟨xs,n,rfl,rfl,hl,hxl,hf⟩:=DataW.trod_struct Tryz.underlying103 h
  rw[show Tryz.prog.cellsOf 103=3 by kernel_rfl] at hl
  have hxl:xs.length=3:=hxl
  obtain⟨c0,c1,c2,rfl⟩:=sG hl
  obtain⟨x0,x1,x2,rfl⟩:=sG hxl
  have h0:=hf 0 _ rfl
  have h0:DataW.trod en Tryz.prog w 0 (λ_=>true) true n 3 [c0]=some x0:=by rw[show Tryz.prog.cellsOf _=1 by kernel_rfl] at h0;exact h0
  obtain⟨y0,o0,s0,v0⟩:=rd3 w H en n _ _ h0
  have h1:=hf 1 _ rfl
  have h1:DataW.trod en Tryz.prog w 0 (λ_=>true) true n 3 [c1]=some x1:=by rw[show Tryz.prog.cellsOf _=1 by kernel_rfl] at h1;exact h1
  obtain⟨y1,o1,s1,v1⟩:=rd3 w H en n _ _ h1
  have h2:=hf 2 _ rfl
  have h2:DataW.trod en Tryz.prog w 0 (λ_=>true) true n 83 [c2]=some x2:=by rw[show Tryz.prog.cellsOf _=1 by kernel_rfl] at h2;exact h2
  obtain⟨y2,o2,s2,v2⟩:=yK w H en n _ _ h2
  refine⟨⟨y0,y1,y2⟩,⟨o0,o1,o2⟩,?_,rfl,λj hj hj'=>?_⟩
  · simp only[qT,Rows.uptoBulk,Rows.uptoBulkAll,List.map_cons,List.map_nil];try dsimp only at s0
    try dsimp only at s1
    try dsimp only at s2
    omega
  · match j,hj,hj' with
    | 0,_,_=>exact v0.2 0 (Nat.le_of_ble_eq_true rfl) (Nat.le_of_ble_eq_true rfl)
    | 1,_,_=>exact v1.2 0 (Nat.le_of_ble_eq_true rfl) (Nat.le_of_ble_eq_true rfl)
    | 2,_,_=>exact v2.2 0 (Nat.le_of_ble_eq_true rfl) (Nat.le_of_ble_eq_true rfl)
    | j+3,_,hj'=>exact absurd hj' (by simp)
theorem zk (w:World):Rd Tryz.prog w 22 (eL bf) (okL tr) (szL qT):=kR (kk:=3) Tryz.underlying22 (by kernel_rfl) (by decide) (λ_=>rfl) (yP w)
def qz (r:GFormula):Prop:=(λn:Int=>IntKind.i64.min<=n/\n<=IntKind.i64.max) r.Vars/\(okL tr) r.Nodes/\(λn:Int=>IntKind.i64.min<=n/\n<=IntKind.i64.max) r.Top
def qp (r:GFormula):Nat:=(λ_:Int=>1) r.Vars+(szL qT) r.Nodes+(λ_:Int=>1) r.Top+1
theorem zj (w:World):Rd Tryz.prog w 24 ay qz qp:=by
  intro H en fuel cs x h
  obtain⟨xs,n,rfl,rfl,hl,hxl,hf⟩:=DataW.trod_struct Tryz.underlying24 h
  rw[show Tryz.prog.cellsOf 24=3 by kernel_rfl] at hl
  have hxl:xs.length=3:=hxl
  obtain⟨c0,c1,c2,rfl⟩:=sG hl
  obtain⟨x0,x1,x2,rfl⟩:=sG hxl
  have h0:=hf 0 _ rfl
  have h0:DataW.trod en Tryz.prog w 0 (λ_=>true) true n 3 [c0]=some x0:=by rw[show Tryz.prog.cellsOf _=1 by kernel_rfl] at h0;exact h0
  obtain⟨y0,o0,s0,v0⟩:=rd3 w H en n _ _ h0
  have h1:=hf 1 _ rfl
  have h1:DataW.trod en Tryz.prog w 0 (λ_=>true) true n 22 [c1]=some x1:=by rw[show Tryz.prog.cellsOf _=1 by kernel_rfl] at h1;exact h1
  obtain⟨y1,o1,s1,v1⟩:=zk w H en n _ _ h1
  have h2:=hf 2 _ rfl
  have h2:DataW.trod en Tryz.prog w 0 (λ_=>true) true n 3 [c2]=some x2:=by rw[show Tryz.prog.cellsOf _=1 by kernel_rfl] at h2;exact h2
  obtain⟨y2,o2,s2,v2⟩:=rd3 w H en n _ _ h2
  refine⟨⟨y0,y1,y2⟩,⟨o0,o1,o2⟩,?_,rfl,λj hj hj'=>?_⟩
  · simp only[qp,Rows.uptoBulk,Rows.uptoBulkAll,List.map_cons,List.map_nil];try dsimp only at s0
    try dsimp only at s1
    try dsimp only at s2
    omega
  · match j,hj,hj' with
    | 0,_,_=>exact v0.2 0 (Nat.le_of_ble_eq_true rfl) (Nat.le_of_ble_eq_true rfl)
    | 1,_,_=>exact v1.2 0 (Nat.le_of_ble_eq_true rfl) (Nat.le_of_ble_eq_true rfl)
    | 2,_,_=>exact v2.2 0 (Nat.le_of_ble_eq_true rfl) (Nat.le_of_ble_eq_true rfl)
    | j+3,_,hj'=>exact absurd hj' (by simp)
theorem rd4 (w:World):Rd Tryz.prog w 4 AV.bool (λ_:Bool=>True) (λ_:Bool=>1):=xH Tryz.underlying4
theorem yN (w:World):Rd Tryz.prog w 193 (AV.int .u32) (λn:Int=>IntKind.u32.min<=n/\n<=IntKind.u32.max) (λ_:Int=>1):=wK Tryz.underlying193
theorem yL (w:World):Rd Tryz.prog w 58 (eL (AV.int .u32)) (okL (λn:Int=>IntKind.u32.min<=n/\n<=IntKind.u32.max)) (szL (λ_:Int=>1)):=kR (kk:=1) Tryz.underlying58 (by kernel_rfl) (by decide) (λ_=>rfl) (yN w)
def qx (r:GRat):Prop:=(λ_:Bool=>True) r.Neg/\(okL (λn:Int=>IntKind.u32.min<=n/\n<=IntKind.u32.max)) r.Num/\(okL (λn:Int=>IntKind.u32.min<=n/\n<=IntKind.u32.max)) r.Den
def rL (r:GRat):Nat:=(λ_:Bool=>1) r.Neg+(szL (λ_:Int=>1)) r.Num+(szL (λ_:Int=>1)) r.Den+1
theorem zg (w:World):Rd Tryz.prog w 60 ac qx rL:=by
  intro H en fuel cs x h
  obtain⟨xs,n,rfl,rfl,hl,hxl,hf⟩:=DataW.trod_struct Tryz.underlying60 h
  rw[show Tryz.prog.cellsOf 60=3 by kernel_rfl] at hl
  have hxl:xs.length=3:=hxl
  obtain⟨c0,c1,c2,rfl⟩:=sG hl
  obtain⟨x0,x1,x2,rfl⟩:=sG hxl
  have h0:=hf 0 _ rfl
  have h0:DataW.trod en Tryz.prog w 0 (λ_=>true) true n 4 [c0]=some x0:=by rw[show Tryz.prog.cellsOf _=1 by kernel_rfl] at h0;exact h0
  obtain⟨y0,o0,s0,v0⟩:=rd4 w H en n _ _ h0
  have h1:=hf 1 _ rfl
  have h1:DataW.trod en Tryz.prog w 0 (λ_=>true) true n 58 [c1]=some x1:=by rw[show Tryz.prog.cellsOf _=1 by kernel_rfl] at h1;exact h1
  obtain⟨y1,o1,s1,v1⟩:=yL w H en n _ _ h1
  have h2:=hf 2 _ rfl
  have h2:DataW.trod en Tryz.prog w 0 (λ_=>true) true n 58 [c2]=some x2:=by rw[show Tryz.prog.cellsOf _=1 by kernel_rfl] at h2;exact h2
  obtain⟨y2,o2,s2,v2⟩:=yL w H en n _ _ h2
  refine⟨⟨y0,y1,y2⟩,⟨o0,o1,o2⟩,?_,rfl,λj hj hj'=>?_⟩
  · simp only[rL,Rows.uptoBulk,Rows.uptoBulkAll,List.map_cons,List.map_nil];try dsimp only at s0
    try dsimp only at s1
    try dsimp only at s2
    omega
  · match j,hj,hj' with
    | 0,_,_=>exact v0.2 0 (Nat.le_of_ble_eq_true rfl) (Nat.le_of_ble_eq_true rfl)
    | 1,_,_=>exact v1.2 0 (Nat.le_of_ble_eq_true rfl) (Nat.le_of_ble_eq_true rfl)
    | 2,_,_=>exact v2.2 0 (Nat.le_of_ble_eq_true rfl) (Nat.le_of_ble_eq_true rfl)
    | j+3,_,hj'=>exact absurd hj' (by simp)
theorem yM (w:World):Rd Tryz.prog w 25 (eL ac) (okL qx) (szL rL):=kR (kk:=3) Tryz.underlying25 (by kernel_rfl) (by decide) (λ_=>rfl) (zg w)
def jW (r:GCauseGroup):Prop:=(λn:Int=>IntKind.i64.min<=n/\n<=IntKind.i64.max) r.Kind/\(okL (λn:Int=>IntKind.i64.min<=n/\n<=IntKind.i64.max)) r.Members/\(okL qx) r.Factors
def ii (r:GCauseGroup):Nat:=(λ_:Int=>1) r.Kind+(szL (λ_:Int=>1)) r.Members+(szL rL) r.Factors+1
theorem yO (w:World):Rd Tryz.prog w 105 ak jW ii:=by
  intro H en fuel cs x h
  obtain⟨xs,n,rfl,rfl,hl,hxl,hf⟩:=DataW.trod_struct Tryz.underlying105 h
  rw[show Tryz.prog.cellsOf 105=3 by kernel_rfl] at hl
  have hxl:xs.length=3:=hxl
  obtain⟨c0,c1,c2,rfl⟩:=sG hl
  obtain⟨x0,x1,x2,rfl⟩:=sG hxl
  have h0:=hf 0 _ rfl
  have h0:DataW.trod en Tryz.prog w 0 (λ_=>true) true n 3 [c0]=some x0:=by rw[show Tryz.prog.cellsOf _=1 by kernel_rfl] at h0;exact h0
  obtain⟨y0,o0,s0,v0⟩:=rd3 w H en n _ _ h0
  have h1:=hf 1 _ rfl
  have h1:DataW.trod en Tryz.prog w 0 (λ_=>true) true n 83 [c1]=some x1:=by rw[show Tryz.prog.cellsOf _=1 by kernel_rfl] at h1;exact h1
  obtain⟨y1,o1,s1,v1⟩:=yK w H en n _ _ h1
  have h2:=hf 2 _ rfl
  have h2:DataW.trod en Tryz.prog w 0 (λ_=>true) true n 25 [c2]=some x2:=by rw[show Tryz.prog.cellsOf _=1 by kernel_rfl] at h2;exact h2
  obtain⟨y2,o2,s2,v2⟩:=yM w H en n _ _ h2
  refine⟨⟨y0,y1,y2⟩,⟨o0,o1,o2⟩,?_,rfl,λj hj hj'=>?_⟩
  · simp only[ii,Rows.uptoBulk,Rows.uptoBulkAll,List.map_cons,List.map_nil];try dsimp only at s0
    try dsimp only at s1
    try dsimp only at s2
    omega
  · match j,hj,hj' with
    | 0,_,_=>exact v0.2 0 (Nat.le_of_ble_eq_true rfl) (Nat.le_of_ble_eq_true rfl)
    | 1,_,_=>exact v1.2 0 (Nat.le_of_ble_eq_true rfl) (Nat.le_of_ble_eq_true rfl)
    | 2,_,_=>exact v2.2 0 (Nat.le_of_ble_eq_true rfl) (Nat.le_of_ble_eq_true rfl)
    | j+3,_,hj'=>exact absurd hj' (by simp)
theorem zi (w:World):Rd Tryz.prog w 26 (eL ak) (okL jW) (szL ii):=kR (kk:=3) Tryz.underlying26 (by kernel_rfl) (by decide) (λ_=>rfl) (yO w)
def sr (r:GCauses):Prop:=(okL qx) r.P/\(okL jW) r.Groups
def rM (r:GCauses):Nat:=(szL rL) r.P+(szL ii) r.Groups+1
theorem zh (w:World):Rd Tryz.prog w 28 lj sr rM:=by
  intro H en fuel cs x h
  obtain⟨xs,n,rfl,rfl,hl,hxl,hf⟩:=DataW.trod_struct Tryz.underlying28 h
  rw[show Tryz.prog.cellsOf 28=2 by kernel_rfl] at hl
  have hxl:xs.length=2:=hxl
  obtain⟨c0,c1,rfl⟩:=yZ hl
  obtain⟨x0,x1,rfl⟩:=yZ hxl
  have h0:=hf 0 _ rfl
  have h0:DataW.trod en Tryz.prog w 0 (λ_=>true) true n 25 [c0]=some x0:=by rw[show Tryz.prog.cellsOf _=1 by kernel_rfl] at h0;exact h0
  obtain⟨y0,o0,s0,v0⟩:=yM w H en n _ _ h0
  have h1:=hf 1 _ rfl
  have h1:DataW.trod en Tryz.prog w 0 (λ_=>true) true n 26 [c1]=some x1:=by rw[show Tryz.prog.cellsOf _=1 by kernel_rfl] at h1;exact h1
  obtain⟨y1,o1,s1,v1⟩:=zi w H en n _ _ h1
  refine⟨⟨y0,y1⟩,⟨o0,o1⟩,?_,rfl,λj hj hj'=>?_⟩
  · simp only[rM,Rows.uptoBulk,Rows.uptoBulkAll,List.map_cons,List.map_nil];try dsimp only at s0
    try dsimp only at s1
    omega
  · match j,hj,hj' with
    | 0,_,_=>exact v0.2 0 (Nat.le_of_ble_eq_true rfl) (Nat.le_of_ble_eq_true rfl)
    | 1,_,_=>exact v1.2 0 (Nat.le_of_ble_eq_true rfl) (Nat.le_of_ble_eq_true rfl)
    | j+2,_,hj'=>exact absurd hj' (by simp)
end Go.Proofs.YtnjgdkfhgmebjaaGreat
