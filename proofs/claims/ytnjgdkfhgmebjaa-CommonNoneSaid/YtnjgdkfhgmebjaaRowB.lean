/- What is read of the structures. Conditions: none. -/
import Derived.Test.YtnjgdkfhgmebjaaRowA
import Derived.KernelRfl
namespace Go.Proofs.Ytnjgdkfhgmebjaa
open Go.Gg
def okL {α:Type} (ok:α->Prop) (l:List α):Prop:=l.length<=9223372036854775807/\∀x∈l,ok x
theorem r_ {α:Type} {l:List α} (h:l.length=3):∃a0 a1 a2,l=[a0,a1,a2]:=by
  match l,h with
  | [a0,a1,a2],_=>exact⟨a0,a1,a2,rfl⟩
theorem rd3 (w:World):Rd Try.prog w 3 (AV.int .i64) (λn:Int=>IntKind.i64.min<=n/\n<=IntKind.i64.max) (λ_:Int=>1):=t4 Try.underlying3
theorem w3 (w:World):Rd Try.prog w 39 (eL (AV.int .i64)) (okL (λn:Int=>IntKind.i64.min<=n/\n<=IntKind.i64.max)) (szL (λ_:Int=>1)):=kW (kk:=1) Try.underlying39 (by kernel_rfl) (by decide) (λ_=>rfl) (rd3 w)
def qv (r:GNode):Prop:=(λn:Int=>IntKind.i64.min<=n/\n<=IntKind.i64.max) r.Kind/\(λn:Int=>IntKind.i64.min<=n/\n<=IntKind.i64.max) r.K/\(okL (λn:Int=>IntKind.i64.min<=n/\n<=IntKind.i64.max)) r.Args
def oK (r:GNode):Nat:=(λ_:Int=>1) r.Kind+(λ_:Int=>1) r.K+(szL (λ_:Int=>1)) r.Args+1
theorem wY (w:World):Rd Try.prog w 52 br qv oK:=by
  intro H en fuel cs x h
  obtain⟨xs,n,rfl,rfl,hl,hxl,hf⟩:=DataW.trod_struct Try.underlying52 h
  rw[show Try.prog.cellsOf 52=3 by kernel_rfl] at hl
  have hxl:xs.length=3:=hxl
  obtain⟨c0,c1,c2,rfl⟩:=r_ hl
  obtain⟨x0,x1,x2,rfl⟩:=r_ hxl
  have h0:=hf 0 _ rfl
  have h0:DataW.trod en Try.prog w 0 (λ_=>true) true n 3 [c0]=some x0:=by rw[show Try.prog.cellsOf _=1 by kernel_rfl] at h0;exact h0
  obtain⟨y0,o0,s0,v0⟩:=rd3 w H en n _ _ h0
  have h1:=hf 1 _ rfl
  have h1:DataW.trod en Try.prog w 0 (λ_=>true) true n 3 [c1]=some x1:=by rw[show Try.prog.cellsOf _=1 by kernel_rfl] at h1;exact h1
  obtain⟨y1,o1,s1,v1⟩:=rd3 w H en n _ _ h1
  have h2:=hf 2 _ rfl
  have h2:DataW.trod en Try.prog w 0 (λ_=>true) true n 39 [c2]=some x2:=by rw[show Try.prog.cellsOf _=1 by kernel_rfl] at h2;exact h2
  obtain⟨y2,o2,s2,v2⟩:=w3 w H en n _ _ h2
  refine⟨⟨y0,y1,y2⟩,⟨o0,o1,o2⟩,?_,rfl,λj hj hj'=>?_⟩
  · simp only[oK,Rows.uptoBulk,Rows.uptoBulkAll,List.map_cons,List.map_nil];try dsimp only at s0
    try dsimp only at s1
    try dsimp only at s2
    omega
  · match j,hj,hj' with
    | 0,_,_=>exact v0.2 0 (Nat.le_of_ble_eq_true rfl) (Nat.le_of_ble_eq_true rfl)
    | 1,_,_=>exact v1.2 0 (Nat.le_of_ble_eq_true rfl) (Nat.le_of_ble_eq_true rfl)
    | 2,_,_=>exact v2.2 0 (Nat.le_of_ble_eq_true rfl) (Nat.le_of_ble_eq_true rfl)
    | j+3,_,hj'=>exact absurd hj' (by simp)
theorem w7 (w:World):Rd Try.prog w 22 (eL br) (okL qv) (szL oK):=kW (kk:=3) Try.underlying22 (by kernel_rfl) (by decide) (λ_=>rfl) (wY w)
def ov (r:GFormula):Prop:=(λn:Int=>IntKind.i64.min<=n/\n<=IntKind.i64.max) r.Vars/\(okL qv) r.Nodes/\(λn:Int=>IntKind.i64.min<=n/\n<=IntKind.i64.max) r.Top
def od (r:GFormula):Nat:=(λ_:Int=>1) r.Vars+(szL oK) r.Nodes+(λ_:Int=>1) r.Top+1
theorem w6 (w:World):Rd Try.prog w 24 aq ov od:=by
  intro H en fuel cs x h
  obtain⟨xs,n,rfl,rfl,hl,hxl,hf⟩:=DataW.trod_struct Try.underlying24 h
  rw[show Try.prog.cellsOf 24=3 by kernel_rfl] at hl
  have hxl:xs.length=3:=hxl
  obtain⟨c0,c1,c2,rfl⟩:=r_ hl
  obtain⟨x0,x1,x2,rfl⟩:=r_ hxl
  have h0:=hf 0 _ rfl
  have h0:DataW.trod en Try.prog w 0 (λ_=>true) true n 3 [c0]=some x0:=by rw[show Try.prog.cellsOf _=1 by kernel_rfl] at h0;exact h0
  obtain⟨y0,o0,s0,v0⟩:=rd3 w H en n _ _ h0
  have h1:=hf 1 _ rfl
  have h1:DataW.trod en Try.prog w 0 (λ_=>true) true n 22 [c1]=some x1:=by rw[show Try.prog.cellsOf _=1 by kernel_rfl] at h1;exact h1
  obtain⟨y1,o1,s1,v1⟩:=w7 w H en n _ _ h1
  have h2:=hf 2 _ rfl
  have h2:DataW.trod en Try.prog w 0 (λ_=>true) true n 3 [c2]=some x2:=by rw[show Try.prog.cellsOf _=1 by kernel_rfl] at h2;exact h2
  obtain⟨y2,o2,s2,v2⟩:=rd3 w H en n _ _ h2
  refine⟨⟨y0,y1,y2⟩,⟨o0,o1,o2⟩,?_,rfl,λj hj hj'=>?_⟩
  · simp only[od,Rows.uptoBulk,Rows.uptoBulkAll,List.map_cons,List.map_nil];try dsimp only at s0
    try dsimp only at s1
    try dsimp only at s2
    omega
  · match j,hj,hj' with
    | 0,_,_=>exact v0.2 0 (Nat.le_of_ble_eq_true rfl) (Nat.le_of_ble_eq_true rfl)
    | 1,_,_=>exact v1.2 0 (Nat.le_of_ble_eq_true rfl) (Nat.le_of_ble_eq_true rfl)
    | 2,_,_=>exact v2.2 0 (Nat.le_of_ble_eq_true rfl) (Nat.le_of_ble_eq_true rfl)
    | j+3,_,hj'=>exact absurd hj' (by simp)
theorem rd4 (w:World):Rd Try.prog w 4 AV.bool (λ_:Bool=>True) (λ_:Bool=>1):=u7 Try.underlying4
theorem wX (w:World):Rd Try.prog w 78 (AV.int .u32) (λn:Int=>IntKind.u32.min<=n/\n<=IntKind.u32.max) (λ_:Int=>1):=t4 Try.underlying78
theorem wC (w:World):Rd Try.prog w 36 (eL (AV.int .u32)) (okL (λn:Int=>IntKind.u32.min<=n/\n<=IntKind.u32.max)) (szL (λ_:Int=>1)):=kW (kk:=1) Try.underlying36 (by kernel_rfl) (by decide) (λ_=>rfl) (wX w)
def pM (r:GRat):Prop:=(λ_:Bool=>True) r.Neg/\(okL (λn:Int=>IntKind.u32.min<=n/\n<=IntKind.u32.max)) r.Num/\(okL (λn:Int=>IntKind.u32.min<=n/\n<=IntKind.u32.max)) r.Den
def sR (r:GRat):Nat:=(λ_:Bool=>1) r.Neg+(szL (λ_:Int=>1)) r.Num+(szL (λ_:Int=>1)) r.Den+1
theorem w4 (w:World):Rd Try.prog w 38 ae pM sR:=by
  intro H en fuel cs x h
  obtain⟨xs,n,rfl,rfl,hl,hxl,hf⟩:=DataW.trod_struct Try.underlying38 h
  rw[show Try.prog.cellsOf 38=3 by kernel_rfl] at hl
  have hxl:xs.length=3:=hxl
  obtain⟨c0,c1,c2,rfl⟩:=r_ hl
  obtain⟨x0,x1,x2,rfl⟩:=r_ hxl
  have h0:=hf 0 _ rfl
  have h0:DataW.trod en Try.prog w 0 (λ_=>true) true n 4 [c0]=some x0:=by rw[show Try.prog.cellsOf _=1 by kernel_rfl] at h0;exact h0
  obtain⟨y0,o0,s0,v0⟩:=rd4 w H en n _ _ h0
  have h1:=hf 1 _ rfl
  have h1:DataW.trod en Try.prog w 0 (λ_=>true) true n 36 [c1]=some x1:=by rw[show Try.prog.cellsOf _=1 by kernel_rfl] at h1;exact h1
  obtain⟨y1,o1,s1,v1⟩:=wC w H en n _ _ h1
  have h2:=hf 2 _ rfl
  have h2:DataW.trod en Try.prog w 0 (λ_=>true) true n 36 [c2]=some x2:=by rw[show Try.prog.cellsOf _=1 by kernel_rfl] at h2;exact h2
  obtain⟨y2,o2,s2,v2⟩:=wC w H en n _ _ h2
  refine⟨⟨y0,y1,y2⟩,⟨o0,o1,o2⟩,?_,rfl,λj hj hj'=>?_⟩
  · simp only[sR,Rows.uptoBulk,Rows.uptoBulkAll,List.map_cons,List.map_nil];try dsimp only at s0
    try dsimp only at s1
    try dsimp only at s2
    omega
  · match j,hj,hj' with
    | 0,_,_=>exact v0.2 0 (Nat.le_of_ble_eq_true rfl) (Nat.le_of_ble_eq_true rfl)
    | 1,_,_=>exact v1.2 0 (Nat.le_of_ble_eq_true rfl) (Nat.le_of_ble_eq_true rfl)
    | 2,_,_=>exact v2.2 0 (Nat.le_of_ble_eq_true rfl) (Nat.le_of_ble_eq_true rfl)
    | j+3,_,hj'=>exact absurd hj' (by simp)
theorem w5 (w:World):Rd Try.prog w 25 (eL ae) (okL pM) (szL sR):=kW (kk:=3) Try.underlying25 (by kernel_rfl) (by decide) (λ_=>rfl) (w4 w)
end Go.Proofs.Ytnjgdkfhgmebjaa
