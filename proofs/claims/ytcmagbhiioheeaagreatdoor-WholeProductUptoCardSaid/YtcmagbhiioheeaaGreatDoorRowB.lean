/- What is read of the structures. Conditions: none. -/
import Derived.Test.YtcmagbhiioheeaaGreatDoorRowA
import Derived.KernelRfl
namespace Go.Proofs.YtcmagbhiioheeaaGreatDoor
open Go.Gg
def okL {α:Type} (ok:α->Prop) (l:List α):Prop:=l.length<=9223372036854775807/\∀x∈l,ok x
theorem C_ {α:Type} {l:List α} (h:l.length=3):∃a0 a1 a2,l=[a0,a1,a2]:=by
  match l,h with
  | [a0,a1,a2],_=>exact⟨a0,a1,a2,rfl⟩
theorem rd3 (w:World):Rd Tryz.prog w 3 (AV.int .i64) (λn:Int=>IntKind.i64.min<=n/\n<=IntKind.i64.max) (λ_:Int=>1):=G_ Tryz.underlying3
theorem abF (w:World):Rd Tryz.prog w 71 (eL (AV.int .i64)) (okL (λn:Int=>IntKind.i64.min<=n/\n<=IntKind.i64.max)) (szL (λ_:Int=>1)):=rG (kk:=1) Tryz.underlying71 (by kernel_rfl) (by decide) (λ_=>rfl) (rd3 w)
def AM (r:GNode):Prop:=(λn:Int=>IntKind.i64.min<=n/\n<=IntKind.i64.max) r.F/\(λn:Int=>IntKind.i64.min<=n/\n<=IntKind.i64.max) r.K/\(okL (λn:Int=>IntKind.i64.min<=n/\n<=IntKind.i64.max)) r.M
def pW (r:GNode):Nat:=(λ_:Int=>1) r.F+(λ_:Int=>1) r.K+(szL (λ_:Int=>1)) r.M+1
theorem abE (w:World):Rd Tryz.prog w 96 cz AM pW:=by
  intro H en fuel cs x h
  obtain⟨xs,n,rfl,rfl,hl,hxl,hf⟩:=DataW.trod_struct Tryz.underlying96 h
  rw[show Tryz.prog.cellsOf 96=3 by kernel_rfl] at hl
  have hxl:xs.length=3:=hxl
  obtain⟨c0,c1,c2,rfl⟩:=C_ hl
  obtain⟨x0,x1,x2,rfl⟩:=C_ hxl
  have h0:=hf 0 _ rfl
  have h0:DataW.trod en Tryz.prog w 0 (λ_=>true) true n 3 [c0]=some x0:=by rw[show Tryz.prog.cellsOf _=1 by kernel_rfl] at h0;exact h0
  obtain⟨y0,o0,s0,v0⟩:=rd3 w H en n _ _ h0
  have h1:=hf 1 _ rfl
  have h1:DataW.trod en Tryz.prog w 0 (λ_=>true) true n 3 [c1]=some x1:=by rw[show Tryz.prog.cellsOf _=1 by kernel_rfl] at h1;exact h1
  obtain⟨y1,o1,s1,v1⟩:=rd3 w H en n _ _ h1
  have h2:=hf 2 _ rfl
  have h2:DataW.trod en Tryz.prog w 0 (λ_=>true) true n 71 [c2]=some x2:=by rw[show Tryz.prog.cellsOf _=1 by kernel_rfl] at h2;exact h2
  obtain⟨y2,o2,s2,v2⟩:=abF w H en n _ _ h2
  refine⟨⟨y0,y1,y2⟩,⟨o0,o1,o2⟩,?_,rfl,λj hj hj'=>?_⟩
  · simp only[pW,Rows.uptoBulk,Rows.uptoBulkAll,List.map_cons,List.map_nil];try dsimp only at s0
    try dsimp only at s1
    try dsimp only at s2
    omega
  · match j,hj,hj' with
    | 0,_,_=>exact v0.2 0 (Nat.le_of_ble_eq_true rfl) (Nat.le_of_ble_eq_true rfl)
    | 1,_,_=>exact v1.2 0 (Nat.le_of_ble_eq_true rfl) (Nat.le_of_ble_eq_true rfl)
    | 2,_,_=>exact v2.2 0 (Nat.le_of_ble_eq_true rfl) (Nat.le_of_ble_eq_true rfl)
    | j+3,_,hj'=>exact absurd hj' zSm
theorem abJ (w:World):Rd Tryz.prog w 22 (eL cz) (okL AM) (szL pW):=rG (kk:=3) Tryz.underlying22 (by kernel_rfl) (by decide) (λ_=>rfl) (abE w)
def wU (r:GFormula):Prop:=(λn:Int=>IntKind.i64.min<=n/\n<=IntKind.i64.max) r.A/\(okL AM) r.N/\(λn:Int=>IntKind.i64.min<=n/\n<=IntKind.i64.max) r.Z
def mL (r:GFormula):Nat:=(λ_:Int=>1) r.A+(szL pW) r.N+(λ_:Int=>1) r.Z+1
theorem abI (w:World):Rd Tryz.prog w 24 aI wU mL:=by
  intro H en fuel cs x h
  obtain⟨xs,n,rfl,rfl,hl,hxl,hf⟩:=DataW.trod_struct Tryz.underlying24 h
  rw[show Tryz.prog.cellsOf 24=3 by kernel_rfl] at hl
  have hxl:xs.length=3:=hxl
  obtain⟨c0,c1,c2,rfl⟩:=C_ hl
  obtain⟨x0,x1,x2,rfl⟩:=C_ hxl
  have h0:=hf 0 _ rfl
  have h0:DataW.trod en Tryz.prog w 0 (λ_=>true) true n 3 [c0]=some x0:=by rw[show Tryz.prog.cellsOf _=1 by kernel_rfl] at h0;exact h0
  obtain⟨y0,o0,s0,v0⟩:=rd3 w H en n _ _ h0
  have h1:=hf 1 _ rfl
  have h1:DataW.trod en Tryz.prog w 0 (λ_=>true) true n 22 [c1]=some x1:=by rw[show Tryz.prog.cellsOf _=1 by kernel_rfl] at h1;exact h1
  obtain⟨y1,o1,s1,v1⟩:=abJ w H en n _ _ h1
  have h2:=hf 2 _ rfl
  have h2:DataW.trod en Tryz.prog w 0 (λ_=>true) true n 3 [c2]=some x2:=by rw[show Tryz.prog.cellsOf _=1 by kernel_rfl] at h2;exact h2
  obtain⟨y2,o2,s2,v2⟩:=rd3 w H en n _ _ h2
  refine⟨⟨y0,y1,y2⟩,⟨o0,o1,o2⟩,?_,rfl,λj hj hj'=>?_⟩
  · simp only[mL,Rows.uptoBulk,Rows.uptoBulkAll,List.map_cons,List.map_nil];try dsimp only at s0
    try dsimp only at s1
    try dsimp only at s2
    omega
  · match j,hj,hj' with
    | 0,_,_=>exact v0.2 0 (Nat.le_of_ble_eq_true rfl) (Nat.le_of_ble_eq_true rfl)
    | 1,_,_=>exact v1.2 0 (Nat.le_of_ble_eq_true rfl) (Nat.le_of_ble_eq_true rfl)
    | 2,_,_=>exact v2.2 0 (Nat.le_of_ble_eq_true rfl) (Nat.le_of_ble_eq_true rfl)
    | j+3,_,hj'=>exact absurd hj' zSm
theorem rd4 (w:World):Rd Tryz.prog w 4 AV.bool (λ_:Bool=>True) (λ_:Bool=>1):=Jv Tryz.underlying4
theorem abG (w:World):Rd Tryz.prog w 33 (AV.int .u32) (λn:Int=>IntKind.u32.min<=n/\n<=IntKind.u32.max) (λ_:Int=>1):=G_ Tryz.underlying33
theorem Xn (w:World):Rd Tryz.prog w 28 (eL (AV.int .u32)) (okL (λn:Int=>IntKind.u32.min<=n/\n<=IntKind.u32.max)) (szL (λ_:Int=>1)):=rG (kk:=1) Tryz.underlying28 (by kernel_rfl) (by decide) (λ_=>rfl) (abG w)
def uR (r:GRat):Prop:=(λ_:Bool=>True) r.U/\(okL (λn:Int=>IntKind.u32.min<=n/\n<=IntKind.u32.max)) r.L/\(okL (λn:Int=>IntKind.u32.min<=n/\n<=IntKind.u32.max)) r.W
def qG (r:GRat):Nat:=(λ_:Bool=>1) r.U+(szL (λ_:Int=>1)) r.L+(szL (λ_:Int=>1)) r.W+1
theorem abH (w:World):Rd Tryz.prog w 30 af uR qG:=by
  intro H en fuel cs x h
  obtain⟨xs,n,rfl,rfl,hl,hxl,hf⟩:=DataW.trod_struct Tryz.underlying30 h
  rw[show Tryz.prog.cellsOf 30=3 by kernel_rfl] at hl
  have hxl:xs.length=3:=hxl
  obtain⟨c0,c1,c2,rfl⟩:=C_ hl
  obtain⟨x0,x1,x2,rfl⟩:=C_ hxl
  have h0:=hf 0 _ rfl
  have h0:DataW.trod en Tryz.prog w 0 (λ_=>true) true n 4 [c0]=some x0:=by rw[show Tryz.prog.cellsOf _=1 by kernel_rfl] at h0;exact h0
  obtain⟨y0,o0,s0,v0⟩:=rd4 w H en n _ _ h0
  have h1:=hf 1 _ rfl
  have h1:DataW.trod en Tryz.prog w 0 (λ_=>true) true n 28 [c1]=some x1:=by rw[show Tryz.prog.cellsOf _=1 by kernel_rfl] at h1;exact h1
  obtain⟨y1,o1,s1,v1⟩:=Xn w H en n _ _ h1
  have h2:=hf 2 _ rfl
  have h2:DataW.trod en Tryz.prog w 0 (λ_=>true) true n 28 [c2]=some x2:=by rw[show Tryz.prog.cellsOf _=1 by kernel_rfl] at h2;exact h2
  obtain⟨y2,o2,s2,v2⟩:=Xn w H en n _ _ h2
  refine⟨⟨y0,y1,y2⟩,⟨o0,o1,o2⟩,?_,rfl,λj hj hj'=>?_⟩
  · simp only[qG,Rows.uptoBulk,Rows.uptoBulkAll,List.map_cons,List.map_nil];try dsimp only at s0
    try dsimp only at s1
    try dsimp only at s2
    omega
  · match j,hj,hj' with
    | 0,_,_=>exact v0.2 0 (Nat.le_of_ble_eq_true rfl) (Nat.le_of_ble_eq_true rfl)
    | 1,_,_=>exact v1.2 0 (Nat.le_of_ble_eq_true rfl) (Nat.le_of_ble_eq_true rfl)
    | 2,_,_=>exact v2.2 0 (Nat.le_of_ble_eq_true rfl) (Nat.le_of_ble_eq_true rfl)
    | j+3,_,hj'=>exact absurd hj' zSm
theorem Xo (w:World):Rd Tryz.prog w 25 (eL af) (okL uR) (szL qG):=rG (kk:=3) Tryz.underlying25 (by kernel_rfl) (by decide) (λ_=>rfl) (abH w)
end Go.Proofs.YtcmagbhiioheeaaGreatDoor
