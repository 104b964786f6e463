/- What is read of the structures. Conditions: none. -/
import Derived.Test.YtllegjdggcmgaaaRowA
import Derived.KernelRfl
/- What is read of the structures. Conditions: none. -/
namespace Go.Proofs.Ytllegjdggcmgaaa
open Go.Gg
def okL {α : Type} (ok : α → Prop) (l : List α) : Prop := l.length ≤ 9223372036854775807 ∧ ∀ x ∈ l, ok x
theorem len3 {α : Type} {l : List α} (h : l.length = 3) : ∃ a0 a1 a2, l = [a0, a1, a2] := by
  match l, h with
  | [a0, a1, a2], _ => exact ⟨a0, a1, a2, rfl⟩
theorem rd3 (w : World) : Rd Try.prog w 3 (AV.int .i64) (fun n : Int => IntKind.i64.min ≤ n ∧ n ≤ IntKind.i64.max) (fun _ : Int => 1) := Rd_int Try.underlying3
theorem rd22 (w : World) : Rd Try.prog w 22 (eL (AV.int .i64)) (okL (fun n : Int => IntKind.i64.min ≤ n ∧ n ≤ IntKind.i64.max)) (szL (fun _ : Int => 1)) := Rd_slice (kk := 1) Try.underlying22 (by kernel_rfl) (by decide) (fun _ => rfl) (rd3 w)
def okNode (r : GNode) : Prop := (fun n : Int => IntKind.i64.min ≤ n ∧ n ≤ IntKind.i64.max) r.Kind ∧ (fun n : Int => IntKind.i64.min ≤ n ∧ n ≤ IntKind.i64.max) r.K ∧ (okL (fun n : Int => IntKind.i64.min ≤ n ∧ n ≤ IntKind.i64.max)) r.Args
def szNode (r : GNode) : Nat := (fun _ : Int => 1) r.Kind + (fun _ : Int => 1) r.K + (szL (fun _ : Int => 1)) r.Args + 1
theorem rd154 (w : World) : Rd Try.prog w 154 eNode okNode szNode := by
  intro H en fuel cs x h
  obtain ⟨xs, n, rfl, rfl, hl, hxl, hf⟩ := DataW.trod_struct Try.underlying154 h
  rw [show Try.prog.cellsOf 154 = 3 by kernel_rfl] at hl
  have hxl : xs.length = 3 := hxl
  obtain ⟨c0, c1, c2, rfl⟩ := len3 hl
  obtain ⟨x0, x1, x2, rfl⟩ := len3 hxl
  have h0 := hf 0 _ rfl
  have h0 : DataW.trod en Try.prog w 0 (fun _ => true) true n 3 [c0] = some x0 := by rw [show Try.prog.cellsOf _ = 1 by kernel_rfl] at h0; exact h0
  obtain ⟨y0, o0, s0, v0⟩ := rd3 w H en n _ _ h0
  have h1 := hf 1 _ rfl
  have h1 : DataW.trod en Try.prog w 0 (fun _ => true) true n 3 [c1] = some x1 := by rw [show Try.prog.cellsOf _ = 1 by kernel_rfl] at h1; exact h1
  obtain ⟨y1, o1, s1, v1⟩ := rd3 w H en n _ _ h1
  have h2 := hf 2 _ rfl
  have h2 : DataW.trod en Try.prog w 0 (fun _ => true) true n 22 [c2] = some x2 := by rw [show Try.prog.cellsOf _ = 1 by kernel_rfl] at h2; exact h2
  obtain ⟨y2, o2, s2, v2⟩ := rd22 w H en n _ _ h2
  refine ⟨⟨y0, y1, y2⟩, ⟨o0, o1, o2⟩, ?_, rfl, fun j hj hj' => ?_⟩
  · simp only [szNode, Rows.uptoBulk, Rows.uptoBulkAll, List.map_cons, List.map_nil]; try dsimp only at s0
    try dsimp only at s1
    try dsimp only at s2
    omega
  · match j, hj, hj' with
    | 0, _, _ => exact v0.2 0 (Nat.le_of_ble_eq_true rfl) (Nat.le_of_ble_eq_true rfl)
    | 1, _, _ => exact v1.2 0 (Nat.le_of_ble_eq_true rfl) (Nat.le_of_ble_eq_true rfl)
    | 2, _, _ => exact v2.2 0 (Nat.le_of_ble_eq_true rfl) (Nat.le_of_ble_eq_true rfl)
    | j + 3, _, hj' => exact absurd hj' (by simp)
theorem rd66 (w : World) : Rd Try.prog w 66 (eL eNode) (okL okNode) (szL szNode) := Rd_slice (kk := 3) Try.underlying66 (by kernel_rfl) (by decide) (fun _ => rfl) (rd154 w)
def okFormula (r : GFormula) : Prop := (fun n : Int => IntKind.i64.min ≤ n ∧ n ≤ IntKind.i64.max) r.Vars ∧ (okL okNode) r.Nodes ∧ (fun n : Int => IntKind.i64.min ≤ n ∧ n ≤ IntKind.i64.max) r.Top
def szFormula (r : GFormula) : Nat := (fun _ : Int => 1) r.Vars + (szL szNode) r.Nodes + (fun _ : Int => 1) r.Top + 1
theorem rd68 (w : World) : Rd Try.prog w 68 eFormula okFormula szFormula := by
  intro H en fuel cs x h
  obtain ⟨xs, n, rfl, rfl, hl, hxl, hf⟩ := DataW.trod_struct Try.underlying68 h
  rw [show Try.prog.cellsOf 68 = 3 by kernel_rfl] at hl
  have hxl : xs.length = 3 := hxl
  obtain ⟨c0, c1, c2, rfl⟩ := len3 hl
  obtain ⟨x0, x1, x2, rfl⟩ := len3 hxl
  have h0 := hf 0 _ rfl
  have h0 : DataW.trod en Try.prog w 0 (fun _ => true) true n 3 [c0] = some x0 := by rw [show Try.prog.cellsOf _ = 1 by kernel_rfl] at h0; exact h0
  obtain ⟨y0, o0, s0, v0⟩ := rd3 w H en n _ _ h0
  have h1 := hf 1 _ rfl
  have h1 : DataW.trod en Try.prog w 0 (fun _ => true) true n 66 [c1] = some x1 := by rw [show Try.prog.cellsOf _ = 1 by kernel_rfl] at h1; exact h1
  obtain ⟨y1, o1, s1, v1⟩ := rd66 w H en n _ _ h1
  have h2 := hf 2 _ rfl
  have h2 : DataW.trod en Try.prog w 0 (fun _ => true) true n 3 [c2] = some x2 := by rw [show Try.prog.cellsOf _ = 1 by kernel_rfl] at h2; exact h2
  obtain ⟨y2, o2, s2, v2⟩ := rd3 w H en n _ _ h2
  refine ⟨⟨y0, y1, y2⟩, ⟨o0, o1, o2⟩, ?_, rfl, fun j hj hj' => ?_⟩
  · simp only [szFormula, Rows.uptoBulk, Rows.uptoBulkAll, List.map_cons, List.map_nil]; try dsimp only at s0
    try dsimp only at s1
    try dsimp only at s2
    omega
  · match j, hj, hj' with
    | 0, _, _ => exact v0.2 0 (Nat.le_of_ble_eq_true rfl) (Nat.le_of_ble_eq_true rfl)
    | 1, _, _ => exact v1.2 0 (Nat.le_of_ble_eq_true rfl) (Nat.le_of_ble_eq_true rfl)
    | 2, _, _ => exact v2.2 0 (Nat.le_of_ble_eq_true rfl) (Nat.le_of_ble_eq_true rfl)
    | j + 3, _, hj' => exact absurd hj' (by simp)
theorem rd4 (w : World) : Rd Try.prog w 4 AV.bool (fun _ : Bool => True) (fun _ : Bool => 1) := Rd_bool Try.underlying4
def okDNode (r : GDNode) : Prop := (fun n : Int => IntKind.i64.min ≤ n ∧ n ≤ IntKind.i64.max) r.Var ∧ (fun n : Int => IntKind.i64.min ≤ n ∧ n ≤ IntKind.i64.max) r.Lo ∧ (fun n : Int => IntKind.i64.min ≤ n ∧ n ≤ IntKind.i64.max) r.Hi
def szDNode (r : GDNode) : Nat := (fun _ : Int => 1) r.Var + (fun _ : Int => 1) r.Lo + (fun _ : Int => 1) r.Hi + 1
theorem rd134 (w : World) : Rd Try.prog w 134 eDNode okDNode szDNode := by
  intro H en fuel cs x h
  obtain ⟨xs, n, rfl, rfl, hl, hxl, hf⟩ := DataW.trod_struct Try.underlying134 h
  rw [show Try.prog.cellsOf 134 = 3 by kernel_rfl] at hl
  have hxl : xs.length = 3 := hxl
  obtain ⟨c0, c1, c2, rfl⟩ := len3 hl
  obtain ⟨x0, x1, x2, rfl⟩ := len3 hxl
  have h0 := hf 0 _ rfl
  have h0 : DataW.trod en Try.prog w 0 (fun _ => true) true n 3 [c0] = some x0 := by rw [show Try.prog.cellsOf _ = 1 by kernel_rfl] at h0; exact h0
  obtain ⟨y0, o0, s0, v0⟩ := rd3 w H en n _ _ h0
  have h1 := hf 1 _ rfl
  have h1 : DataW.trod en Try.prog w 0 (fun _ => true) true n 3 [c1] = some x1 := by rw [show Try.prog.cellsOf _ = 1 by kernel_rfl] at h1; exact h1
  obtain ⟨y1, o1, s1, v1⟩ := rd3 w H en n _ _ h1
  have h2 := hf 2 _ rfl
  have h2 : DataW.trod en Try.prog w 0 (fun _ => true) true n 3 [c2] = some x2 := by rw [show Try.prog.cellsOf _ = 1 by kernel_rfl] at h2; exact h2
  obtain ⟨y2, o2, s2, v2⟩ := rd3 w H en n _ _ h2
  refine ⟨⟨y0, y1, y2⟩, ⟨o0, o1, o2⟩, ?_, rfl, fun j hj hj' => ?_⟩
  · simp only [szDNode, Rows.uptoBulk, Rows.uptoBulkAll, List.map_cons, List.map_nil]; try dsimp only at s0
    try dsimp only at s1
    try dsimp only at s2
    omega
  · match j, hj, hj' with
    | 0, _, _ => exact v0.2 0 (Nat.le_of_ble_eq_true rfl) (Nat.le_of_ble_eq_true rfl)
    | 1, _, _ => exact v1.2 0 (Nat.le_of_ble_eq_true rfl) (Nat.le_of_ble_eq_true rfl)
    | 2, _, _ => exact v2.2 0 (Nat.le_of_ble_eq_true rfl) (Nat.le_of_ble_eq_true rfl)
    | j + 3, _, hj' => exact absurd hj' (by simp)
theorem rd23 (w : World) : Rd Try.prog w 23 (eL eDNode) (okL okDNode) (szL szDNode) := Rd_slice (kk := 3) Try.underlying23 (by kernel_rfl) (by decide) (fun _ => rfl) (rd134 w)
def okDiagram (r : GDiagram) : Prop := (okL (fun n : Int => IntKind.i64.min ≤ n ∧ n ≤ IntKind.i64.max)) r.Order ∧ (okL okDNode) r.Nodes ∧ (fun n : Int => IntKind.i64.min ≤ n ∧ n ≤ IntKind.i64.max) r.Root
def szDiagram (r : GDiagram) : Nat := (szL (fun _ : Int => 1)) r.Order + (szL szDNode) r.Nodes + (fun _ : Int => 1) r.Root + 1
theorem rd25 (w : World) : Rd Try.prog w 25 eDiagram okDiagram szDiagram := by
  intro H en fuel cs x h
  obtain ⟨xs, n, rfl, rfl, hl, hxl, hf⟩ := DataW.trod_struct Try.underlying25 h
  rw [show Try.prog.cellsOf 25 = 3 by kernel_rfl] at hl
  have hxl : xs.length = 3 := hxl
  obtain ⟨c0, c1, c2, rfl⟩ := len3 hl
  obtain ⟨x0, x1, x2, rfl⟩ := len3 hxl
  have h0 := hf 0 _ rfl
  have h0 : DataW.trod en Try.prog w 0 (fun _ => true) true n 22 [c0] = some x0 := by rw [show Try.prog.cellsOf _ = 1 by kernel_rfl] at h0; exact h0
  obtain ⟨y0, o0, s0, v0⟩ := rd22 w H en n _ _ h0
  have h1 := hf 1 _ rfl
  have h1 : DataW.trod en Try.prog w 0 (fun _ => true) true n 23 [c1] = some x1 := by rw [show Try.prog.cellsOf _ = 1 by kernel_rfl] at h1; exact h1
  obtain ⟨y1, o1, s1, v1⟩ := rd23 w H en n _ _ h1
  have h2 := hf 2 _ rfl
  have h2 : DataW.trod en Try.prog w 0 (fun _ => true) true n 3 [c2] = some x2 := by rw [show Try.prog.cellsOf _ = 1 by kernel_rfl] at h2; exact h2
  obtain ⟨y2, o2, s2, v2⟩ := rd3 w H en n _ _ h2
  refine ⟨⟨y0, y1, y2⟩, ⟨o0, o1, o2⟩, ?_, rfl, fun j hj hj' => ?_⟩
  · simp only [szDiagram, Rows.uptoBulk, Rows.uptoBulkAll, List.map_cons, List.map_nil]; try dsimp only at s0
    try dsimp only at s1
    try dsimp only at s2
    omega
  · match j, hj, hj' with
    | 0, _, _ => exact v0.2 0 (Nat.le_of_ble_eq_true rfl) (Nat.le_of_ble_eq_true rfl)
    | 1, _, _ => exact v1.2 0 (Nat.le_of_ble_eq_true rfl) (Nat.le_of_ble_eq_true rfl)
    | 2, _, _ => exact v2.2 0 (Nat.le_of_ble_eq_true rfl) (Nat.le_of_ble_eq_true rfl)
    | j + 3, _, hj' => exact absurd hj' (by simp)
end Go.Proofs.Ytllegjdggcmgaaa
