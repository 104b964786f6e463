/- What is read of the structures. Conditions: none. -/
import Derived.Test.YtnjgdkfhgmebjaaGreatRowA
import Derived.KernelRfl
namespace Go.Proofs.YtnjgdkfhgmebjaaGreat
open Go.Gg
def okL {α:Type} (ok:α->Prop) (l:List α):Prop:=l.length<=9223372036854775807/\∀x∈l,ok x
theorem zV {α:Type} {l:List α} (h:l.length=2):∃a0 a1,l=[a0,a1]:=by
  match l,h with
  | [a0,a1],_=>exact⟨a0,a1,rfl⟩
theorem tA {α:Type} {l:List α} (h:l.length=3):∃a0 a1 a2,l=[a0,a1,a2]:=by
  match l,h with
  | [a0,a1,a2],_=>exact⟨a0,a1,a2,rfl⟩
theorem rd3 (w:World):Rd Tryz.prog w 3 (AV.int .i64) (λn:Int=>IntKind.i64.min<=n/\n<=IntKind.i64.max) (λ_:Int=>1):=xE Tryz.underlying3
theorem zI (w:World):Rd Tryz.prog w 83 (eL (AV.int .i64)) (okL (λn:Int=>IntKind.i64.min<=n/\n<=IntKind.i64.max)) (szL (λ_:Int=>1)):=lh (kk:=1) Tryz.underlying83 (by kernel_rfl) (by decide) (λ_=>rfl) (rd3 w)
def ua (r:GNode):Prop:=(λn:Int=>IntKind.i64.min<=n/\n<=IntKind.i64.max) r.Kind/\(λn:Int=>IntKind.i64.min<=n/\n<=IntKind.i64.max) r.K/\(okL (λn:Int=>IntKind.i64.min<=n/\n<=IntKind.i64.max)) r.Args
def rA (r:GNode):Nat:=(λ_:Int=>1) r.Kind+(λ_:Int=>1) r.K+(szL (λ_:Int=>1)) r.Args+1
theorem zN (w:World):Rd Tryz.prog w 103 bF ua rA:=by
  intro H en fuel cs x h
  obtain⟨xs,n,rfl,rfl,hl,hxl,hf⟩:=DataW.trod_struct Tryz.underlying103 h
  rw[show Tryz.prog.cellsOf 103=3 by kernel_rfl] at hl
  have hxl:xs.length=3:=hxl
  obtain⟨c0,c1,c2,rfl⟩:=tA hl
  obtain⟨x0,x1,x2,rfl⟩:=tA hxl
  have h0:=hf 0 _ rfl
  have h0:DataW.trod en Tryz.prog w 0 (λ_=>true) true n 3 [c0]=some x0:=by rw[show Tryz.prog.cellsOf _=1 by kernel_rfl] at h0;exact h0
  obtain⟨y0,o0,s0,v0⟩:=rd3 w H en n _ _ h0
  have h1:=hf 1 _ rfl
  have h1:DataW.trod en Tryz.prog w 0 (λ_=>true) true n 3 [c1]=some x1:=by rw[show Tryz.prog.cellsOf _=1 by kernel_rfl] at h1;exact h1
  obtain⟨y1,o1,s1,v1⟩:=rd3 w H en n _ _ h1
  have h2:=hf 2 _ rfl
  have h2:DataW.trod en Tryz.prog w 0 (λ_=>true) true n 83 [c2]=some x2:=by rw[show Tryz.prog.cellsOf _=1 by kernel_rfl] at h2;exact h2
  obtain⟨y2,o2,s2,v2⟩:=zI w H en n _ _ h2
  refine⟨⟨y0,y1,y2⟩,⟨o0,o1,o2⟩,?_,rfl,λj hj hj'=>?_⟩
  · simp only[rA,Rows.uptoBulk,Rows.uptoBulkAll,List.map_cons,List.map_nil];try dsimp only at s0
    try dsimp only at s1
    try dsimp only at s2
    omega
  · match j,hj,hj' with
    | 0,_,_=>exact v0.2 0 (Nat.le_of_ble_eq_true rfl) (Nat.le_of_ble_eq_true rfl)
    | 1,_,_=>exact v1.2 0 (Nat.le_of_ble_eq_true rfl) (Nat.le_of_ble_eq_true rfl)
    | 2,_,_=>exact v2.2 0 (Nat.le_of_ble_eq_true rfl) (Nat.le_of_ble_eq_true rfl)
    | j+3,_,hj'=>exact absurd hj' (by simp)
theorem Ad (w:World):Rd Tryz.prog w 22 (eL bF) (okL ua) (szL rA):=lh (kk:=3) Tryz.underlying22 (by kernel_rfl) (by decide) (λ_=>rfl) (zN w)
def q8 (r:GFormula):Prop:=(λn:Int=>IntKind.i64.min<=n/\n<=IntKind.i64.max) r.Vars/\(okL ua) r.Nodes/\(λn:Int=>IntKind.i64.min<=n/\n<=IntKind.i64.max) r.Top
def qP (r:GFormula):Nat:=(λ_:Int=>1) r.Vars+(szL rA) r.Nodes+(λ_:Int=>1) r.Top+1
theorem Ac (w:World):Rd Tryz.prog w 24 aA q8 qP:=by
  intro H en fuel cs x h
  obtain⟨xs,n,rfl,rfl,hl,hxl,hf⟩:=DataW.trod_struct Tryz.underlying24 h
  rw[show Tryz.prog.cellsOf 24=3 by kernel_rfl] at hl
  have hxl:xs.length=3:=hxl
  obtain⟨c0,c1,c2,rfl⟩:=tA hl
  obtain⟨x0,x1,x2,rfl⟩:=tA hxl
  have h0:=hf 0 _ rfl
  have h0:DataW.trod en Tryz.prog w 0 (λ_=>true) true n 3 [c0]=some x0:=by rw[show Tryz.prog.cellsOf _=1 by kernel_rfl] at h0;exact h0
  obtain⟨y0,o0,s0,v0⟩:=rd3 w H en n _ _ h0
  have h1:=hf 1 _ rfl
  have h1:DataW.trod en Tryz.prog w 0 (λ_=>true) true n 22 [c1]=some x1:=by rw[show Tryz.prog.cellsOf _=1 by kernel_rfl] at h1;exact h1
  obtain⟨y1,o1,s1,v1⟩:=Ad w H en n _ _ h1
  have h2:=hf 2 _ rfl
  have h2:DataW.trod en Tryz.prog w 0 (λ_=>true) true n 3 [c2]=some x2:=by rw[show Tryz.prog.cellsOf _=1 by kernel_rfl] at h2;exact h2
  obtain⟨y2,o2,s2,v2⟩:=rd3 w H en n _ _ h2
  refine⟨⟨y0,y1,y2⟩,⟨o0,o1,o2⟩,?_,rfl,λj hj hj'=>?_⟩
  · simp only[qP,Rows.uptoBulk,Rows.uptoBulkAll,List.map_cons,List.map_nil];try dsimp only at s0
    try dsimp only at s1
    try dsimp only at s2
    omega
  · match j,hj,hj' with
    | 0,_,_=>exact v0.2 0 (Nat.le_of_ble_eq_true rfl) (Nat.le_of_ble_eq_true rfl)
    | 1,_,_=>exact v1.2 0 (Nat.le_of_ble_eq_true rfl) (Nat.le_of_ble_eq_true rfl)
    | 2,_,_=>exact v2.2 0 (Nat.le_of_ble_eq_true rfl) (Nat.le_of_ble_eq_true rfl)
    | j+3,_,hj'=>exact absurd hj' (by simp)
theorem rd4 (w:World):Rd Tryz.prog w 4 AV.bool (λ_:Bool=>True) (λ_:Bool=>1):=yJ Tryz.underlying4
theorem zL (w:World):Rd Tryz.prog w 193 (AV.int .u32) (λn:Int=>IntKind.u32.min<=n/\n<=IntKind.u32.max) (λ_:Int=>1):=xE Tryz.underlying193
theorem zJ (w:World):Rd Tryz.prog w 58 (eL (AV.int .u32)) (okL (λn:Int=>IntKind.u32.min<=n/\n<=IntKind.u32.max)) (szL (λ_:Int=>1)):=lh (kk:=1) Tryz.underlying58 (by kernel_rfl) (by decide) (λ_=>rfl) (zL w)
def qX (r:GRat):Prop:=(λ_:Bool=>True) r.Neg/\(okL (λn:Int=>IntKind.u32.min<=n/\n<=IntKind.u32.max)) r.Num/\(okL (λn:Int=>IntKind.u32.min<=n/\n<=IntKind.u32.max)) r.Den
def sE (r:GRat):Nat:=(λ_:Bool=>1) r.Neg+(szL (λ_:Int=>1)) r.Num+(szL (λ_:Int=>1)) r.Den+1
theorem z_ (w:World):Rd Tryz.prog w 60 ac qX sE:=by
  intro H en fuel cs x h
  obtain⟨xs,n,rfl,rfl,hl,hxl,hf⟩:=DataW.trod_struct Tryz.underlying60 h
  rw[show Tryz.prog.cellsOf 60=3 by kernel_rfl] at hl
  have hxl:xs.length=3:=hxl
  obtain⟨c0,c1,c2,rfl⟩:=tA hl
  obtain⟨x0,x1,x2,rfl⟩:=tA hxl
  have h0:=hf 0 _ rfl
  have h0:DataW.trod en Tryz.prog w 0 (λ_=>true) true n 4 [c0]=some x0:=by rw[show Tryz.prog.cellsOf _=1 by kernel_rfl] at h0;exact h0
  obtain⟨y0,o0,s0,v0⟩:=rd4 w H en n _ _ h0
  have h1:=hf 1 _ rfl
  have h1:DataW.trod en Tryz.prog w 0 (λ_=>true) true n 58 [c1]=some x1:=by rw[show Tryz.prog.cellsOf _=1 by kernel_rfl] at h1;exact h1
  obtain⟨y1,o1,s1,v1⟩:=zJ w H en n _ _ h1
  have h2:=hf 2 _ rfl
  have h2:DataW.trod en Tryz.prog w 0 (λ_=>true) true n 58 [c2]=some x2:=by rw[show Tryz.prog.cellsOf _=1 by kernel_rfl] at h2;exact h2
  obtain⟨y2,o2,s2,v2⟩:=zJ w H en n _ _ h2
  refine⟨⟨y0,y1,y2⟩,⟨o0,o1,o2⟩,?_,rfl,λj hj hj'=>?_⟩
  · simp only[sE,Rows.uptoBulk,Rows.uptoBulkAll,List.map_cons,List.map_nil];try dsimp only at s0
    try dsimp only at s1
    try dsimp only at s2
    omega
  · match j,hj,hj' with
    | 0,_,_=>exact v0.2 0 (Nat.le_of_ble_eq_true rfl) (Nat.le_of_ble_eq_true rfl)
    | 1,_,_=>exact v1.2 0 (Nat.le_of_ble_eq_true rfl) (Nat.le_of_ble_eq_true rfl)
    | 2,_,_=>exact v2.2 0 (Nat.le_of_ble_eq_true rfl) (Nat.le_of_ble_eq_true rfl)
    | j+3,_,hj'=>exact absurd hj' (by simp)
theorem zK (w:World):Rd Tryz.prog w 25 (eL ac) (okL qX) (szL sE):=lh (kk:=3) Tryz.underlying25 (by kernel_rfl) (by decide) (λ_=>rfl) (z_ w)
def j_ (r:GCauseGroup):Prop:=(λn:Int=>IntKind.i64.min<=n/\n<=IntKind.i64.max) r.Kind/\(okL (λn:Int=>IntKind.i64.min<=n/\n<=IntKind.i64.max)) r.Members/\(okL qX) r.Factors
def iA (r:GCauseGroup):Nat:=(λ_:Int=>1) r.Kind+(szL (λ_:Int=>1)) r.Members+(szL sE) r.Factors+1
theorem zM (w:World):Rd Tryz.prog w 105 ak j_ iA:=by
  intro H en fuel cs x h
  obtain⟨xs,n,rfl,rfl,hl,hxl,hf⟩:=DataW.trod_struct Tryz.underlying105 h
  rw[show Tryz.prog.cellsOf 105=3 by kernel_rfl] at hl
  have hxl:xs.length=3:=hxl
  obtain⟨c0,c1,c2,rfl⟩:=tA hl
  obtain⟨x0,x1,x2,rfl⟩:=tA hxl
  have h0:=hf 0 _ rfl
  have h0:DataW.trod en Tryz.prog w 0 (λ_=>true) true n 3 [c0]=some x0:=by rw[show Tryz.prog.cellsOf _=1 by kernel_rfl] at h0;exact h0
  obtain⟨y0,o0,s0,v0⟩:=rd3 w H en n _ _ h0
  have h1:=hf 1 _ rfl
  have h1:DataW.trod en Tryz.prog w 0 (λ_=>true) true n 83 [c1]=some x1:=by rw[show Tryz.prog.cellsOf _=1 by kernel_rfl] at h1;exact h1
  obtain⟨y1,o1,s1,v1⟩:=zI w H en n _ _ h1
  have h2:=hf 2 _ rfl
  have h2:DataW.trod en Tryz.prog w 0 (λ_=>true) true n 25 [c2]=some x2:=by rw[show Tryz.prog.cellsOf _=1 by kernel_rfl] at h2;exact h2
  obtain⟨y2,o2,s2,v2⟩:=zK w H en n _ _ h2
  refine⟨⟨y0,y1,y2⟩,⟨o0,o1,o2⟩,?_,rfl,λj hj hj'=>?_⟩
  · simp only[iA,Rows.uptoBulk,Rows.uptoBulkAll,List.map_cons,List.map_nil];try dsimp only at s0
    try dsimp only at s1
    try dsimp only at s2
    omega
  · match j,hj,hj' with
    | 0,_,_=>exact v0.2 0 (Nat.le_of_ble_eq_true rfl) (Nat.le_of_ble_eq_true rfl)
    | 1,_,_=>exact v1.2 0 (Nat.le_of_ble_eq_true rfl) (Nat.le_of_ble_eq_true rfl)
    | 2,_,_=>exact v2.2 0 (Nat.le_of_ble_eq_true rfl) (Nat.le_of_ble_eq_true rfl)
    | j+3,_,hj'=>exact absurd hj' (by simp)
theorem Ab (w:World):Rd Tryz.prog w 26 (eL ak) (okL j_) (szL iA):=lh (kk:=3) Tryz.underlying26 (by kernel_rfl) (by decide) (λ_=>rfl) (zM w)
def tc (r:GCauses):Prop:=(okL qX) r.P/\(okL j_) r.Groups
def sF (r:GCauses):Nat:=(szL sE) r.P+(szL iA) r.Groups+1
theorem Aa (w:World):Rd Tryz.prog w 28 lB tc sF:=by
  intro H en fuel cs x h
  obtain⟨xs,n,rfl,rfl,hl,hxl,hf⟩:=DataW.trod_struct Tryz.underlying28 h
  rw[show Tryz.prog.cellsOf 28=2 by kernel_rfl] at hl
  have hxl:xs.length=2:=hxl
  obtain⟨c0,c1,rfl⟩:=zV hl
  obtain⟨x0,x1,rfl⟩:=zV hxl
  have h0:=hf 0 _ rfl
  have h0:DataW.trod en Tryz.prog w 0 (λ_=>true) true n 25 [c0]=some x0:=by rw[show Tryz.prog.cellsOf _=1 by kernel_rfl] at h0;exact h0
  obtain⟨y0,o0,s0,v0⟩:=zK w H en n _ _ h0
  have h1:=hf 1 _ rfl
  have h1:DataW.trod en Tryz.prog w 0 (λ_=>true) true n 26 [c1]=some x1:=by rw[show Tryz.prog.cellsOf _=1 by kernel_rfl] at h1;exact h1
  obtain⟨y1,o1,s1,v1⟩:=Ab w H en n _ _ h1
  refine⟨⟨y0,y1⟩,⟨o0,o1⟩,?_,rfl,λj hj hj'=>?_⟩
  · simp only[sF,Rows.uptoBulk,Rows.uptoBulkAll,List.map_cons,List.map_nil];try dsimp only at s0
    try dsimp only at s1
    omega
  · match j,hj,hj' with
    | 0,_,_=>exact v0.2 0 (Nat.le_of_ble_eq_true rfl) (Nat.le_of_ble_eq_true rfl)
    | 1,_,_=>exact v1.2 0 (Nat.le_of_ble_eq_true rfl) (Nat.le_of_ble_eq_true rfl)
    | j+2,_,hj'=>exact absurd hj' (by simp)
end Go.Proofs.YtnjgdkfhgmebjaaGreat
