/- What is read of the structures. Conditions: none. -/
import Derived.Test.YtbnjpdocceckeaaGreatRowA
import Derived.KernelRfl
set_option linter.all false
namespace Go.Proofs.YtbnjpdocceckeaaGreat
open Go.Gg
def okL{α:Type}(ok:α->Prop)(l:List α):Prop:=l.length<=9223372036854775807/\∀x∈l,ok x
theorem KQ{α:Type}{l:List α}(h:l.length=3):∃a0 a1 a2,l=[a0,a1,a2]:=by
 match l,h with
 | [a0,a1,a2],_=>exact⟨a0,a1,a2,rfl⟩
theorem rd3(w:World):Rd Tryz.prog w 3 (AV.int .i64) (λn:Int=>IntKind.i64.min<=n/\n<=IntKind.i64.max) (λ_:Int=>1):=NI Tryz.underlying3
theorem Po(w:World):Rd Tryz.prog w 27 (eL (AV.int .i64)) (okL (λn:Int=>IntKind.i64.min<=n/\n<=IntKind.i64.max)) (T_ (λ_:Int=>1)):=DD (kk:=1) Tryz.underlying27 (by kernel_rfl) (by decide) (λ_=>rfl) (rd3 w)
def D_(r:QN):Prop:=(λn:Int=>IntKind.i64.min<=n/\n<=IntKind.i64.max) r.U/\(λn:Int=>IntKind.i64.min<=n/\n<=IntKind.i64.max) r.K/\(okL (λn:Int=>IntKind.i64.min<=n/\n<=IntKind.i64.max)) r.Z
def sV(r:QN):Nat:=(λ_:Int=>1) r.U+(λ_:Int=>1) r.K+(T_ (λ_:Int=>1)) r.Z+1
theorem Pn(w:World):Rd Tryz.prog w 58 bT D_ sV:=by
 intro H en fuel cs x h;obtain⟨xs,n,rfl,rfl,hl,Xj,hf⟩:=DataW.trod_struct Tryz.underlying58 h;rw[show Tryz.prog.cellsOf 58=3 by kernel_rfl]at hl;have Xj:xs.length=3:=Xj;obtain⟨c0,c1,c2,rfl⟩:=KQ hl;obtain⟨x0,x1,x2,rfl⟩:=KQ Xj;have h0:=hf 0 _ rfl;have h0:DataW.trod en Tryz.prog w 0 (λ_=>true) true n 3 [c0]=some x0:=by rw[show Tryz.prog.cellsOf _=1 by kernel_rfl]at h0;exact h0
 obtain⟨y0,o0,s0,v0⟩:=rd3 w H en n _ _ h0;have h1:=hf 1 _ rfl;have h1:DataW.trod en Tryz.prog w 0 (λ_=>true) true n 3 [c1]=some x1:=by rw[show Tryz.prog.cellsOf _=1 by kernel_rfl]at h1;exact h1
 obtain⟨y1,o1,s1,v1⟩:=rd3 w H en n _ _ h1;have h2:=hf 2 _ rfl;have h2:DataW.trod en Tryz.prog w 0 (λ_=>true) true n 27 [c2]=some x2:=by rw[show Tryz.prog.cellsOf _=1 by kernel_rfl]at h2;exact h2
 obtain⟨y2,o2,s2,v2⟩:=Po w H en n _ _ h2;refine⟨⟨y0,y1,y2⟩,⟨o0,o1,o2⟩,?_,rfl,λj hj SU=>?_⟩
 ·simp only[sV,Rows.uptoBulk,Rows.uptoBulkAll,List.map_cons,List.map_nil];try dsimp only at s0
  try dsimp only at s1
  try dsimp only at s2
  omega
 ·match j,hj,SU with
  | 0,_,_=>exact v0.2 0 (Nat.le_of_ble_eq_true rfl) (Nat.le_of_ble_eq_true rfl)
  | 1,_,_=>exact v1.2 0 (Nat.le_of_ble_eq_true rfl) (Nat.le_of_ble_eq_true rfl)
  | 2,_,_=>exact v2.2 0 (Nat.le_of_ble_eq_true rfl) (Nat.le_of_ble_eq_true rfl)
  | j+3,_,SU=>exact absurd SU Qy
theorem Pq(w:World):Rd Tryz.prog w 22 (eL bT) (okL D_) (T_ sV):=DD (kk:=3) Tryz.underlying22 (by kernel_rfl) (by decide) (λ_=>rfl) (Pn w)
def Au(r:GFormula):Prop:=(λn:Int=>IntKind.i64.min<=n/\n<=IntKind.i64.max) r.Y/\(okL D_) r.N/\(λn:Int=>IntKind.i64.min<=n/\n<=IntKind.i64.max) r.A
def pz(r:GFormula):Nat:=(λ_:Int=>1) r.Y+(T_ sV) r.N+(λ_:Int=>1) r.A+1
theorem Pp(w:World):Rd Tryz.prog w 24 aD Au pz:=by
 intro H en fuel cs x h;obtain⟨xs,n,rfl,rfl,hl,Xj,hf⟩:=DataW.trod_struct Tryz.underlying24 h;rw[show Tryz.prog.cellsOf 24=3 by kernel_rfl]at hl;have Xj:xs.length=3:=Xj;obtain⟨c0,c1,c2,rfl⟩:=KQ hl;obtain⟨x0,x1,x2,rfl⟩:=KQ Xj;have h0:=hf 0 _ rfl;have h0:DataW.trod en Tryz.prog w 0 (λ_=>true) true n 3 [c0]=some x0:=by rw[show Tryz.prog.cellsOf _=1 by kernel_rfl]at h0;exact h0
 obtain⟨y0,o0,s0,v0⟩:=rd3 w H en n _ _ h0;have h1:=hf 1 _ rfl;have h1:DataW.trod en Tryz.prog w 0 (λ_=>true) true n 22 [c1]=some x1:=by rw[show Tryz.prog.cellsOf _=1 by kernel_rfl]at h1;exact h1
 obtain⟨y1,o1,s1,v1⟩:=Pq w H en n _ _ h1;have h2:=hf 2 _ rfl;have h2:DataW.trod en Tryz.prog w 0 (λ_=>true) true n 3 [c2]=some x2:=by rw[show Tryz.prog.cellsOf _=1 by kernel_rfl]at h2;exact h2
 obtain⟨y2,o2,s2,v2⟩:=rd3 w H en n _ _ h2;refine⟨⟨y0,y1,y2⟩,⟨o0,o1,o2⟩,?_,rfl,λj hj SU=>?_⟩
 ·simp only[pz,Rows.uptoBulk,Rows.uptoBulkAll,List.map_cons,List.map_nil];try dsimp only at s0
  try dsimp only at s1
  try dsimp only at s2
  omega
 ·match j,hj,SU with
  | 0,_,_=>exact v0.2 0 (Nat.le_of_ble_eq_true rfl) (Nat.le_of_ble_eq_true rfl)
  | 1,_,_=>exact v1.2 0 (Nat.le_of_ble_eq_true rfl) (Nat.le_of_ble_eq_true rfl)
  | 2,_,_=>exact v2.2 0 (Nat.le_of_ble_eq_true rfl) (Nat.le_of_ble_eq_true rfl)
  | j+3,_,SU=>exact absurd SU Qy
end Go.Proofs.YtbnjpdocceckeaaGreat
