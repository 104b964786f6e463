/- What is read of the structures. Conditions: none. -/
import Derived.Test.YtcmagbhiioheeaaGreatRowA
import Derived.KernelRfl
namespace Go.Proofs.YtcmagbhiioheeaaGreat
open Go.Gg
def okL {α:Type} (ok:α->Prop) (l:List α):Prop:=l.length<=9223372036854775807/\∀x∈l,ok x
theorem Iw {α:Type} {l:List α} (h:l.length=2):∃a0 a1,l=[a0,a1]:=by
  match l,h with
  | [a0,a1],_=>exact⟨a0,a1,rfl⟩
theorem CM {α:Type} {l:List α} (h:l.length=3):∃a0 a1 a2,l=[a0,a1,a2]:=by
  match l,h with
  | [a0,a1,a2],_=>exact⟨a0,a1,a2,rfl⟩
theorem rd3 (w:World):Rd Tryz.prog w 3 (AV.int .i64) (λn:Int=>IntKind.i64.min<=n/\n<=IntKind.i64.max) (λ_:Int=>1):=EW Tryz.underlying3
theorem I1 (w:World):Rd Tryz.prog w 70 (eL (AV.int .i64)) (okL (λn:Int=>IntKind.i64.min<=n/\n<=IntKind.i64.max)) (szL (λ_:Int=>1)):=nQ (kk:=1) Tryz.underlying70 (by kernel_rfl) (by decide) (λ_=>rfl) (rd3 w)
def AJ (r:GNode):Prop:=(λn:Int=>IntKind.i64.min<=n/\n<=IntKind.i64.max) r.D/\(λn:Int=>IntKind.i64.min<=n/\n<=IntKind.i64.max) r.K/\(okL (λn:Int=>IntKind.i64.min<=n/\n<=IntKind.i64.max)) r.M
def xW (r:GNode):Nat:=(λ_:Int=>1) r.D+(λ_:Int=>1) r.K+(szL (λ_:Int=>1)) r.M+1
theorem I0 (w:World):Rd Tryz.prog w 75 aV AJ xW:=by
  intro H en fuel cs x h
  obtain⟨xs,n,rfl,rfl,hl,hxl,hf⟩:=DataW.trod_struct Tryz.underlying75 h
  rw[show Tryz.prog.cellsOf 75=3 by kernel_rfl] at hl
  have hxl:xs.length=3:=hxl
  obtain⟨c0,c1,c2,rfl⟩:=CM hl
  obtain⟨x0,x1,x2,rfl⟩:=CM hxl
  have h0:=hf 0 _ rfl
  have h0:DataW.trod en Tryz.prog w 0 (λ_=>true) true n 3 [c0]=some x0:=by rw[show Tryz.prog.cellsOf _=1 by kernel_rfl] at h0;exact h0
  obtain⟨y0,o0,s0,v0⟩:=rd3 w H en n _ _ h0
  have h1:=hf 1 _ rfl
  have h1:DataW.trod en Tryz.prog w 0 (λ_=>true) true n 3 [c1]=some x1:=by rw[show Tryz.prog.cellsOf _=1 by kernel_rfl] at h1;exact h1
  obtain⟨y1,o1,s1,v1⟩:=rd3 w H en n _ _ h1
  have h2:=hf 2 _ rfl
  have h2:DataW.trod en Tryz.prog w 0 (λ_=>true) true n 70 [c2]=some x2:=by rw[show Tryz.prog.cellsOf _=1 by kernel_rfl] at h2;exact h2
  obtain⟨y2,o2,s2,v2⟩:=I1 w H en n _ _ h2
  refine⟨⟨y0,y1,y2⟩,⟨o0,o1,o2⟩,?_,rfl,λj hj hj'=>?_⟩
  · simp only[xW,Rows.uptoBulk,Rows.uptoBulkAll,List.map_cons,List.map_nil];try dsimp only at s0
    try dsimp only at s1
    try dsimp only at s2
    omega
  · match j,hj,hj' with
    | 0,_,_=>exact v0.2 0 (Nat.le_of_ble_eq_true rfl) (Nat.le_of_ble_eq_true rfl)
    | 1,_,_=>exact v1.2 0 (Nat.le_of_ble_eq_true rfl) (Nat.le_of_ble_eq_true rfl)
    | 2,_,_=>exact v2.2 0 (Nat.le_of_ble_eq_true rfl) (Nat.le_of_ble_eq_true rfl)
    | j+3,_,hj'=>exact absurd hj' zSm
theorem I3 (w:World):Rd Tryz.prog w 52 (eL aV) (okL AJ) (szL xW):=nQ (kk:=3) Tryz.underlying52 (by kernel_rfl) (by decide) (λ_=>rfl) (I0 w)
def sK (r:GFormula):Prop:=(λn:Int=>IntKind.i64.min<=n/\n<=IntKind.i64.max) r.A/\(okL AJ) r.V/\(λn:Int=>IntKind.i64.min<=n/\n<=IntKind.i64.max) r.F
def pH (r:GFormula):Nat:=(λ_:Int=>1) r.A+(szL xW) r.V+(λ_:Int=>1) r.F+1
theorem I2 (w:World):Rd Tryz.prog w 54 am sK pH:=by
  intro H en fuel cs x h
  obtain⟨xs,n,rfl,rfl,hl,hxl,hf⟩:=DataW.trod_struct Tryz.underlying54 h
  rw[show Tryz.prog.cellsOf 54=3 by kernel_rfl] at hl
  have hxl:xs.length=3:=hxl
  obtain⟨c0,c1,c2,rfl⟩:=CM hl
  obtain⟨x0,x1,x2,rfl⟩:=CM hxl
  have h0:=hf 0 _ rfl
  have h0:DataW.trod en Tryz.prog w 0 (λ_=>true) true n 3 [c0]=some x0:=by rw[show Tryz.prog.cellsOf _=1 by kernel_rfl] at h0;exact h0
  obtain⟨y0,o0,s0,v0⟩:=rd3 w H en n _ _ h0
  have h1:=hf 1 _ rfl
  have h1:DataW.trod en Tryz.prog w 0 (λ_=>true) true n 52 [c1]=some x1:=by rw[show Tryz.prog.cellsOf _=1 by kernel_rfl] at h1;exact h1
  obtain⟨y1,o1,s1,v1⟩:=I3 w H en n _ _ h1
  have h2:=hf 2 _ rfl
  have h2:DataW.trod en Tryz.prog w 0 (λ_=>true) true n 3 [c2]=some x2:=by rw[show Tryz.prog.cellsOf _=1 by kernel_rfl] at h2;exact h2
  obtain⟨y2,o2,s2,v2⟩:=rd3 w H en n _ _ h2
  refine⟨⟨y0,y1,y2⟩,⟨o0,o1,o2⟩,?_,rfl,λj hj hj'=>?_⟩
  · simp only[pH,Rows.uptoBulk,Rows.uptoBulkAll,List.map_cons,List.map_nil];try dsimp only at s0
    try dsimp only at s1
    try dsimp only at s2
    omega
  · match j,hj,hj' with
    | 0,_,_=>exact v0.2 0 (Nat.le_of_ble_eq_true rfl) (Nat.le_of_ble_eq_true rfl)
    | 1,_,_=>exact v1.2 0 (Nat.le_of_ble_eq_true rfl) (Nat.le_of_ble_eq_true rfl)
    | 2,_,_=>exact v2.2 0 (Nat.le_of_ble_eq_true rfl) (Nat.le_of_ble_eq_true rfl)
    | j+3,_,hj'=>exact absurd hj' zSm
theorem I7 (w:World):Rd Tryz.prog w 22 (eL am) (okL sK) (szL pH):=nQ (kk:=3) Tryz.underlying22 (by kernel_rfl) (by decide) (λ_=>rfl) (I2 w)
theorem rd4 (w:World):Rd Tryz.prog w 4 AV.bool (λ_:Bool=>True) (λ_:Bool=>1):=Gj Tryz.underlying4
theorem Ii (w:World):Rd Tryz.prog w 117 (AV.int .u32) (λn:Int=>IntKind.u32.min<=n/\n<=IntKind.u32.max) (λ_:Int=>1):=EW Tryz.underlying117
theorem Ih (w:World):Rd Tryz.prog w 26 (eL (AV.int .u32)) (okL (λn:Int=>IntKind.u32.min<=n/\n<=IntKind.u32.max)) (szL (λ_:Int=>1)):=nQ (kk:=1) Tryz.underlying26 (by kernel_rfl) (by decide) (λ_=>rfl) (Ii w)
def vF (r:GRat):Prop:=(λ_:Bool=>True) r.Y/\(okL (λn:Int=>IntKind.u32.min<=n/\n<=IntKind.u32.max)) r.J/\(okL (λn:Int=>IntKind.u32.min<=n/\n<=IntKind.u32.max)) r.L
def za (r:GRat):Nat:=(λ_:Bool=>1) r.Y+(szL (λ_:Int=>1)) r.J+(szL (λ_:Int=>1)) r.L+1
theorem Ig (w:World):Rd Tryz.prog w 28 aq vF za:=by
  intro H en fuel cs x h
  obtain⟨xs,n,rfl,rfl,hl,hxl,hf⟩:=DataW.trod_struct Tryz.underlying28 h
  rw[show Tryz.prog.cellsOf 28=3 by kernel_rfl] at hl
  have hxl:xs.length=3:=hxl
  obtain⟨c0,c1,c2,rfl⟩:=CM hl
  obtain⟨x0,x1,x2,rfl⟩:=CM hxl
  have h0:=hf 0 _ rfl
  have h0:DataW.trod en Tryz.prog w 0 (λ_=>true) true n 4 [c0]=some x0:=by rw[show Tryz.prog.cellsOf _=1 by kernel_rfl] at h0;exact h0
  obtain⟨y0,o0,s0,v0⟩:=rd4 w H en n _ _ h0
  have h1:=hf 1 _ rfl
  have h1:DataW.trod en Tryz.prog w 0 (λ_=>true) true n 26 [c1]=some x1:=by rw[show Tryz.prog.cellsOf _=1 by kernel_rfl] at h1;exact h1
  obtain⟨y1,o1,s1,v1⟩:=Ih w H en n _ _ h1
  have h2:=hf 2 _ rfl
  have h2:DataW.trod en Tryz.prog w 0 (λ_=>true) true n 26 [c2]=some x2:=by rw[show Tryz.prog.cellsOf _=1 by kernel_rfl] at h2;exact h2
  obtain⟨y2,o2,s2,v2⟩:=Ih w H en n _ _ h2
  refine⟨⟨y0,y1,y2⟩,⟨o0,o1,o2⟩,?_,rfl,λj hj hj'=>?_⟩
  · simp only[za,Rows.uptoBulk,Rows.uptoBulkAll,List.map_cons,List.map_nil];try dsimp only at s0
    try dsimp only at s1
    try dsimp only at s2
    omega
  · match j,hj,hj' with
    | 0,_,_=>exact v0.2 0 (Nat.le_of_ble_eq_true rfl) (Nat.le_of_ble_eq_true rfl)
    | 1,_,_=>exact v1.2 0 (Nat.le_of_ble_eq_true rfl) (Nat.le_of_ble_eq_true rfl)
    | 2,_,_=>exact v2.2 0 (Nat.le_of_ble_eq_true rfl) (Nat.le_of_ble_eq_true rfl)
    | j+3,_,hj'=>exact absurd hj' zSm
theorem I4 (w:World):Rd Tryz.prog w 44 (eL aq) (okL vF) (szL za):=nQ (kk:=3) Tryz.underlying44 (by kernel_rfl) (by decide) (λ_=>rfl) (Ig w)
theorem I6 (w:World):Rd Tryz.prog w 23 (eL (eL aq)) (okL (okL vF)) (szL (szL za)):=nQ (kk:=1) Tryz.underlying23 (by kernel_rfl) (by decide) (λ_=>rfl) (I4 w)
def xr (r:GMission):Prop:=(okL sK) r.N/\(okL (okL vF)) r.P
def xj (r:GMission):Nat:=(szL pH) r.N+(szL (szL za)) r.P+1
theorem I5 (w:World):Rd Tryz.prog w 25 az xr xj:=by
  intro H en fuel cs x h
  obtain⟨xs,n,rfl,rfl,hl,hxl,hf⟩:=DataW.trod_struct Tryz.underlying25 h
  rw[show Tryz.prog.cellsOf 25=2 by kernel_rfl] at hl
  have hxl:xs.length=2:=hxl
  obtain⟨c0,c1,rfl⟩:=Iw hl
  obtain⟨x0,x1,rfl⟩:=Iw hxl
  have h0:=hf 0 _ rfl
  have h0:DataW.trod en Tryz.prog w 0 (λ_=>true) true n 22 [c0]=some x0:=by rw[show Tryz.prog.cellsOf _=1 by kernel_rfl] at h0;exact h0
  obtain⟨y0,o0,s0,v0⟩:=I7 w H en n _ _ h0
  have h1:=hf 1 _ rfl
  have h1:DataW.trod en Tryz.prog w 0 (λ_=>true) true n 23 [c1]=some x1:=by rw[show Tryz.prog.cellsOf _=1 by kernel_rfl] at h1;exact h1
  obtain⟨y1,o1,s1,v1⟩:=I6 w H en n _ _ h1
  refine⟨⟨y0,y1⟩,⟨o0,o1⟩,?_,rfl,λj hj hj'=>?_⟩
  · simp only[xj,Rows.uptoBulk,Rows.uptoBulkAll,List.map_cons,List.map_nil];try dsimp only at s0
    try dsimp only at s1
    omega
  · match j,hj,hj' with
    | 0,_,_=>exact v0.2 0 (Nat.le_of_ble_eq_true rfl) (Nat.le_of_ble_eq_true rfl)
    | 1,_,_=>exact v1.2 0 (Nat.le_of_ble_eq_true rfl) (Nat.le_of_ble_eq_true rfl)
    | j+2,_,hj'=>exact absurd hj' zSm
end Go.Proofs.YtcmagbhiioheeaaGreat
