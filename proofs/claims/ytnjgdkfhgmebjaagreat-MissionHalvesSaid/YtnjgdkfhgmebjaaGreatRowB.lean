/- What is read of the structures. Conditions: none. -/
import Derived.Test.YtnjgdkfhgmebjaaGreatRowA
import Derived.KernelRfl
namespace Go.Proofs.YtnjgdkfhgmebjaaGreat
open Go.Gg
def okL {α:Type} (ok:α->Prop) (l:List α):Prop:=l.length<=9223372036854775807/\∀x∈l,ok x
theorem HY {α:Type} {l:List α} (h:l.length=2):∃a0 a1,l=[a0,a1]:=by
  match l,h with
  | [a0,a1],_=>exact⟨a0,a1,rfl⟩
theorem Ci {α:Type} {l:List α} (h:l.length=3):∃a0 a1 a2,l=[a0,a1,a2]:=by
  match l,h with
  | [a0,a1,a2],_=>exact⟨a0,a1,a2,rfl⟩
theorem rd3 (w:World):Rd Tryz.prog w 3 (AV.int .i64) (λn:Int=>IntKind.i64.min<=n/\n<=IntKind.i64.max) (λ_:Int=>1):=Er Tryz.underlying3
theorem Io (w:World):Rd Tryz.prog w 83 (eL (AV.int .i64)) (okL (λn:Int=>IntKind.i64.min<=n/\n<=IntKind.i64.max)) (szL (λ_:Int=>1)):=nD (kk:=1) Tryz.underlying83 (by kernel_rfl) (by decide) (λ_=>rfl) (rd3 w)
def Ae (r:GNode):Prop:=(λn:Int=>IntKind.i64.min<=n/\n<=IntKind.i64.max) r.D/\(λn:Int=>IntKind.i64.min<=n/\n<=IntKind.i64.max) r.K/\(okL (λn:Int=>IntKind.i64.min<=n/\n<=IntKind.i64.max)) r.M
def xE (r:GNode):Nat:=(λ_:Int=>1) r.D+(λ_:Int=>1) r.K+(szL (λ_:Int=>1)) r.M+1
theorem HH (w:World):Rd Tryz.prog w 103 bb Ae xE:=by
  intro H en fuel cs x h
  obtain⟨xs,n,rfl,rfl,hl,hxl,hf⟩:=DataW.trod_struct Tryz.underlying103 h
  rw[show Tryz.prog.cellsOf 103=3 by kernel_rfl] at hl
  have hxl:xs.length=3:=hxl
  obtain⟨c0,c1,c2,rfl⟩:=Ci hl
  obtain⟨x0,x1,x2,rfl⟩:=Ci hxl
  have h0:=hf 0 _ rfl
  have h0:DataW.trod en Tryz.prog w 0 (λ_=>true) true n 3 [c0]=some x0:=by rw[show Tryz.prog.cellsOf _=1 by kernel_rfl] at h0;exact h0
  obtain⟨y0,o0,s0,v0⟩:=rd3 w H en n _ _ h0
  have h1:=hf 1 _ rfl
  have h1:DataW.trod en Tryz.prog w 0 (λ_=>true) true n 3 [c1]=some x1:=by rw[show Tryz.prog.cellsOf _=1 by kernel_rfl] at h1;exact h1
  obtain⟨y1,o1,s1,v1⟩:=rd3 w H en n _ _ h1
  have h2:=hf 2 _ rfl
  have h2:DataW.trod en Tryz.prog w 0 (λ_=>true) true n 83 [c2]=some x2:=by rw[show Tryz.prog.cellsOf _=1 by kernel_rfl] at h2;exact h2
  obtain⟨y2,o2,s2,v2⟩:=Io w H en n _ _ h2
  refine⟨⟨y0,y1,y2⟩,⟨o0,o1,o2⟩,?_,rfl,λj hj hj'=>?_⟩
  · simp only[xE,Rows.uptoBulk,Rows.uptoBulkAll,List.map_cons,List.map_nil];try dsimp only at s0
    try dsimp only at s1
    try dsimp only at s2
    omega
  · match j,hj,hj' with
    | 0,_,_=>exact v0.2 0 (Nat.le_of_ble_eq_true rfl) (Nat.le_of_ble_eq_true rfl)
    | 1,_,_=>exact v1.2 0 (Nat.le_of_ble_eq_true rfl) (Nat.le_of_ble_eq_true rfl)
    | 2,_,_=>exact v2.2 0 (Nat.le_of_ble_eq_true rfl) (Nat.le_of_ble_eq_true rfl)
    | j+3,_,hj'=>exact absurd hj' zSm
theorem Iu (w:World):Rd Tryz.prog w 22 (eL bb) (okL Ae) (szL xE):=nD (kk:=3) Tryz.underlying22 (by kernel_rfl) (by decide) (λ_=>rfl) (HH w)
def sq (r:GFormula):Prop:=(λn:Int=>IntKind.i64.min<=n/\n<=IntKind.i64.max) r.A/\(okL Ae) r.V/\(λn:Int=>IntKind.i64.min<=n/\n<=IntKind.i64.max) r.F
def pp (r:GFormula):Nat:=(λ_:Int=>1) r.A+(szL xE) r.V+(λ_:Int=>1) r.F+1
theorem It (w:World):Rd Tryz.prog w 24 an sq pp:=by
  intro H en fuel cs x h
  obtain⟨xs,n,rfl,rfl,hl,hxl,hf⟩:=DataW.trod_struct Tryz.underlying24 h
  rw[show Tryz.prog.cellsOf 24=3 by kernel_rfl] at hl
  have hxl:xs.length=3:=hxl
  obtain⟨c0,c1,c2,rfl⟩:=Ci hl
  obtain⟨x0,x1,x2,rfl⟩:=Ci hxl
  have h0:=hf 0 _ rfl
  have h0:DataW.trod en Tryz.prog w 0 (λ_=>true) true n 3 [c0]=some x0:=by rw[show Tryz.prog.cellsOf _=1 by kernel_rfl] at h0;exact h0
  obtain⟨y0,o0,s0,v0⟩:=rd3 w H en n _ _ h0
  have h1:=hf 1 _ rfl
  have h1:DataW.trod en Tryz.prog w 0 (λ_=>true) true n 22 [c1]=some x1:=by rw[show Tryz.prog.cellsOf _=1 by kernel_rfl] at h1;exact h1
  obtain⟨y1,o1,s1,v1⟩:=Iu w H en n _ _ h1
  have h2:=hf 2 _ rfl
  have h2:DataW.trod en Tryz.prog w 0 (λ_=>true) true n 3 [c2]=some x2:=by rw[show Tryz.prog.cellsOf _=1 by kernel_rfl] at h2;exact h2
  obtain⟨y2,o2,s2,v2⟩:=rd3 w H en n _ _ h2
  refine⟨⟨y0,y1,y2⟩,⟨o0,o1,o2⟩,?_,rfl,λj hj hj'=>?_⟩
  · simp only[pp,Rows.uptoBulk,Rows.uptoBulkAll,List.map_cons,List.map_nil];try dsimp only at s0
    try dsimp only at s1
    try dsimp only at s2
    omega
  · match j,hj,hj' with
    | 0,_,_=>exact v0.2 0 (Nat.le_of_ble_eq_true rfl) (Nat.le_of_ble_eq_true rfl)
    | 1,_,_=>exact v1.2 0 (Nat.le_of_ble_eq_true rfl) (Nat.le_of_ble_eq_true rfl)
    | 2,_,_=>exact v2.2 0 (Nat.le_of_ble_eq_true rfl) (Nat.le_of_ble_eq_true rfl)
    | j+3,_,hj'=>exact absurd hj' zSm
theorem Ir (w:World):Rd Tryz.prog w 49 (eL an) (okL sq) (szL pp):=nD (kk:=3) Tryz.underlying49 (by kernel_rfl) (by decide) (λ_=>rfl) (It w)
theorem rd4 (w:World):Rd Tryz.prog w 4 AV.bool (λ_:Bool=>True) (λ_:Bool=>1):=FD Tryz.underlying4
theorem HG (w:World):Rd Tryz.prog w 193 (AV.int .u32) (λn:Int=>IntKind.u32.min<=n/\n<=IntKind.u32.max) (λ_:Int=>1):=Er Tryz.underlying193
theorem HF (w:World):Rd Tryz.prog w 58 (eL (AV.int .u32)) (okL (λn:Int=>IntKind.u32.min<=n/\n<=IntKind.u32.max)) (szL (λ_:Int=>1)):=nD (kk:=1) Tryz.underlying58 (by kernel_rfl) (by decide) (λ_=>rfl) (HG w)
def uW (r:GRat):Prop:=(λ_:Bool=>True) r.Y/\(okL (λn:Int=>IntKind.u32.min<=n/\n<=IntKind.u32.max)) r.J/\(okL (λn:Int=>IntKind.u32.min<=n/\n<=IntKind.u32.max)) r.L
def yH (r:GRat):Nat:=(λ_:Bool=>1) r.Y+(szL (λ_:Int=>1)) r.J+(szL (λ_:Int=>1)) r.L+1
theorem HE (w:World):Rd Tryz.prog w 60 am uW yH:=by
  intro H en fuel cs x h
  obtain⟨xs,n,rfl,rfl,hl,hxl,hf⟩:=DataW.trod_struct Tryz.underlying60 h
  rw[show Tryz.prog.cellsOf 60=3 by kernel_rfl] at hl
  have hxl:xs.length=3:=hxl
  obtain⟨c0,c1,c2,rfl⟩:=Ci hl
  obtain⟨x0,x1,x2,rfl⟩:=Ci hxl
  have h0:=hf 0 _ rfl
  have h0:DataW.trod en Tryz.prog w 0 (λ_=>true) true n 4 [c0]=some x0:=by rw[show Tryz.prog.cellsOf _=1 by kernel_rfl] at h0;exact h0
  obtain⟨y0,o0,s0,v0⟩:=rd4 w H en n _ _ h0
  have h1:=hf 1 _ rfl
  have h1:DataW.trod en Tryz.prog w 0 (λ_=>true) true n 58 [c1]=some x1:=by rw[show Tryz.prog.cellsOf _=1 by kernel_rfl] at h1;exact h1
  obtain⟨y1,o1,s1,v1⟩:=HF w H en n _ _ h1
  have h2:=hf 2 _ rfl
  have h2:DataW.trod en Tryz.prog w 0 (λ_=>true) true n 58 [c2]=some x2:=by rw[show Tryz.prog.cellsOf _=1 by kernel_rfl] at h2;exact h2
  obtain⟨y2,o2,s2,v2⟩:=HF w H en n _ _ h2
  refine⟨⟨y0,y1,y2⟩,⟨o0,o1,o2⟩,?_,rfl,λj hj hj'=>?_⟩
  · simp only[yH,Rows.uptoBulk,Rows.uptoBulkAll,List.map_cons,List.map_nil];try dsimp only at s0
    try dsimp only at s1
    try dsimp only at s2
    omega
  · match j,hj,hj' with
    | 0,_,_=>exact v0.2 0 (Nat.le_of_ble_eq_true rfl) (Nat.le_of_ble_eq_true rfl)
    | 1,_,_=>exact v1.2 0 (Nat.le_of_ble_eq_true rfl) (Nat.le_of_ble_eq_true rfl)
    | 2,_,_=>exact v2.2 0 (Nat.le_of_ble_eq_true rfl) (Nat.le_of_ble_eq_true rfl)
    | j+3,_,hj'=>exact absurd hj' zSm
theorem Is (w:World):Rd Tryz.prog w 25 (eL am) (okL uW) (szL yH):=nD (kk:=3) Tryz.underlying25 (by kernel_rfl) (by decide) (λ_=>rfl) (HE w)
theorem Iq (w:World):Rd Tryz.prog w 50 (eL (eL am)) (okL (okL uW)) (szL (szL yH)):=nD (kk:=1) Tryz.underlying50 (by kernel_rfl) (by decide) (λ_=>rfl) (Is w)
def w7 (r:GMission):Prop:=(okL sq) r.N/\(okL (okL uW)) r.P
def wU (r:GMission):Nat:=(szL pp) r.N+(szL (szL yH)) r.P+1
theorem Ip (w:World):Rd Tryz.prog w 52 aB w7 wU:=by
  intro H en fuel cs x h
  obtain⟨xs,n,rfl,rfl,hl,hxl,hf⟩:=DataW.trod_struct Tryz.underlying52 h
  rw[show Tryz.prog.cellsOf 52=2 by kernel_rfl] at hl
  have hxl:xs.length=2:=hxl
  obtain⟨c0,c1,rfl⟩:=HY hl
  obtain⟨x0,x1,rfl⟩:=HY hxl
  have h0:=hf 0 _ rfl
  have h0:DataW.trod en Tryz.prog w 0 (λ_=>true) true n 49 [c0]=some x0:=by rw[show Tryz.prog.cellsOf _=1 by kernel_rfl] at h0;exact h0
  obtain⟨y0,o0,s0,v0⟩:=Ir w H en n _ _ h0
  have h1:=hf 1 _ rfl
  have h1:DataW.trod en Tryz.prog w 0 (λ_=>true) true n 50 [c1]=some x1:=by rw[show Tryz.prog.cellsOf _=1 by kernel_rfl] at h1;exact h1
  obtain⟨y1,o1,s1,v1⟩:=Iq w H en n _ _ h1
  refine⟨⟨y0,y1⟩,⟨o0,o1⟩,?_,rfl,λj hj hj'=>?_⟩
  · simp only[wU,Rows.uptoBulk,Rows.uptoBulkAll,List.map_cons,List.map_nil];try dsimp only at s0
    try dsimp only at s1
    omega
  · match j,hj,hj' with
    | 0,_,_=>exact v0.2 0 (Nat.le_of_ble_eq_true rfl) (Nat.le_of_ble_eq_true rfl)
    | 1,_,_=>exact v1.2 0 (Nat.le_of_ble_eq_true rfl) (Nat.le_of_ble_eq_true rfl)
    | j+2,_,hj'=>exact absurd hj' zSm
end Go.Proofs.YtnjgdkfhgmebjaaGreat
