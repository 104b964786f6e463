/- What is read of the structures. Conditions: none. -/
import Derived.Test.YtonbnfgknijpoaaRowA
import Derived.KernelRfl
namespace Go.Proofs.Ytonbnfgknijpoaa
open Go.Gg
def okL {α : Type} (ok : α → Prop) (l : List α) : Prop := l.length ≤ 9223372036854775807 ∧ ∀ x ∈ l, ok x
theorem len1 {α : Type} {l : List α} (h : l.length = 1) : ∃ a0, l = [a0] := by
  match l, h with
  | [a0], _ => exact ⟨a0, rfl⟩
theorem len2 {α : Type} {l : List α} (h : l.length = 2) : ∃ a0 a1, l = [a0, a1] := by
  match l, h with
  | [a0, a1], _ => exact ⟨a0, a1, rfl⟩
theorem len3 {α : Type} {l : List α} (h : l.length = 3) : ∃ a0 a1 a2, l = [a0, a1, a2] := by
  match l, h with
  | [a0, a1, a2], _ => exact ⟨a0, a1, a2, rfl⟩
theorem len4 {α : Type} {l : List α} (h : l.length = 4) : ∃ a0 a1 a2 a3, l = [a0, a1, a2, a3] := by
  match l, h with
  | [a0, a1, a2, a3], _ => exact ⟨a0, a1, a2, a3, rfl⟩
theorem len5 {α : Type} {l : List α} (h : l.length = 5) : ∃ a0 a1 a2 a3 a4, l = [a0, a1, a2, a3, a4] := by
  match l, h with
  | [a0, a1, a2, a3, a4], _ => exact ⟨a0, a1, a2, a3, a4, rfl⟩
theorem len6 {α : Type} {l : List α} (h : l.length = 6) : ∃ a0 a1 a2 a3 a4 a5, l = [a0, a1, a2, a3, a4, a5] := by
  match l, h with
  | [a0, a1, a2, a3, a4, a5], _ => exact ⟨a0, a1, a2, a3, a4, a5, rfl⟩
theorem len7 {α : Type} {l : List α} (h : l.length = 7) : ∃ a0 a1 a2 a3 a4 a5 a6, l = [a0, a1, a2, a3, a4, a5, a6] := by
  match l, h with
  | [a0, a1, a2, a3, a4, a5, a6], _ => exact ⟨a0, a1, a2, a3, a4, a5, a6, rfl⟩
theorem len8 {α : Type} {l : List α} (h : l.length = 8) : ∃ a0 a1 a2 a3 a4 a5 a6 a7, l = [a0, a1, a2, a3, a4, a5, a6, a7] := by
  match l, h with
  | [a0, a1, a2, a3, a4, a5, a6, a7], _ => exact ⟨a0, a1, a2, a3, a4, a5, a6, a7, rfl⟩
theorem rd4 (w : World) : Rd Try.prog w 4 AV.bool (fun _ : Bool => True) (fun _ : Bool => 1) := Rd_bool Try.underlying4
theorem rd173 (w : World) : Rd Try.prog w 173 (AV.int .u32) (fun n : Int => IntKind.u32.min ≤ n ∧ n ≤ IntKind.u32.max) (fun _ : Int => 1) := Rd_int Try.underlying173
theorem rd25 (w : World) : Rd Try.prog w 25 (eL (AV.int .u32)) (okL (fun n : Int => IntKind.u32.min ≤ n ∧ n ≤ IntKind.u32.max)) (szL (fun _ : Int => 1)) := Rd_slice (kk := 1) Try.underlying25 (by kernel_rfl) (by decide) (fun _ => rfl) (rd173 w)
def okRat (r : GRat) : Prop := (fun _ : Bool => True) r.Neg ∧ (okL (fun n : Int => IntKind.u32.min ≤ n ∧ n ≤ IntKind.u32.max)) r.Num ∧ (okL (fun n : Int => IntKind.u32.min ≤ n ∧ n ≤ IntKind.u32.max)) r.Den
def szRat (r : GRat) : Nat := (fun _ : Bool => 1) r.Neg + (szL (fun _ : Int => 1)) r.Num + (szL (fun _ : Int => 1)) r.Den + 1
theorem rd27 (w : World) : Rd Try.prog w 27 eRat okRat szRat := by
  intro H en fuel cs x h
  obtain ⟨xs, n, rfl, rfl, hl, hxl, hf⟩ := DataW.trod_struct Try.underlying27 h
  rw [show Try.prog.cellsOf 27 = 3 by kernel_rfl] at hl
  have hxl : xs.length = 3 := hxl
  obtain ⟨c0, c1, c2, rfl⟩ := len3 hl
  obtain ⟨x0, x1, x2, rfl⟩ := len3 hxl
  have h0 := hf 0 _ rfl
  have h0 : DataW.trod en Try.prog w 0 (fun _ => true) true n 4 [c0] = some x0 := by rw [show Try.prog.cellsOf _ = 1 by kernel_rfl] at h0; exact h0
  obtain ⟨y0, o0, s0, v0⟩ := rd4 w H en n _ _ h0
  have h1 := hf 1 _ rfl
  have h1 : DataW.trod en Try.prog w 0 (fun _ => true) true n 25 [c1] = some x1 := by rw [show Try.prog.cellsOf _ = 1 by kernel_rfl] at h1; exact h1
  obtain ⟨y1, o1, s1, v1⟩ := rd25 w H en n _ _ h1
  have h2 := hf 2 _ rfl
  have h2 : DataW.trod en Try.prog w 0 (fun _ => true) true n 25 [c2] = some x2 := by rw [show Try.prog.cellsOf _ = 1 by kernel_rfl] at h2; exact h2
  obtain ⟨y2, o2, s2, v2⟩ := rd25 w H en n _ _ h2
  refine ⟨⟨y0, y1, y2⟩, ⟨o0, o1, o2⟩, ?_, rfl, fun j hj hj' => ?_⟩
  · simp only [szRat, Rows.uptoBulk, Rows.uptoBulkAll, List.map_cons, List.map_nil]; try dsimp only at s0
    try dsimp only at s1
    try dsimp only at s2
    omega
  · match j, hj, hj' with
    | 0, _, _ => exact v0.2 0 (Nat.le_of_ble_eq_true rfl) (Nat.le_of_ble_eq_true rfl)
    | 1, _, _ => exact v1.2 0 (Nat.le_of_ble_eq_true rfl) (Nat.le_of_ble_eq_true rfl)
    | 2, _, _ => exact v2.2 0 (Nat.le_of_ble_eq_true rfl) (Nat.le_of_ble_eq_true rfl)
    | j + 3, _, hj' => exact absurd hj' (by simp)
theorem rd22 (w : World) : Rd Try.prog w 22 (eL eRat) (okL okRat) (szL szRat) := Rd_slice (kk := 3) Try.underlying22 (by kernel_rfl) (by decide) (fun _ => rfl) (rd27 w)
def okRates (r : GRates) : Prop := (okL okRat) r.Fail ∧ (okL okRat) r.Repair
def szRates (r : GRates) : Nat := (szL szRat) r.Fail + (szL szRat) r.Repair + 1
theorem rd24 (w : World) : Rd Try.prog w 24 eRates okRates szRates := by
  intro H en fuel cs x h
  obtain ⟨xs, n, rfl, rfl, hl, hxl, hf⟩ := DataW.trod_struct Try.underlying24 h
  rw [show Try.prog.cellsOf 24 = 2 by kernel_rfl] at hl
  have hxl : xs.length = 2 := hxl
  obtain ⟨c0, c1, rfl⟩ := len2 hl
  obtain ⟨x0, x1, rfl⟩ := len2 hxl
  have h0 := hf 0 _ rfl
  have h0 : DataW.trod en Try.prog w 0 (fun _ => true) true n 22 [c0] = some x0 := by rw [show Try.prog.cellsOf _ = 1 by kernel_rfl] at h0; exact h0
  obtain ⟨y0, o0, s0, v0⟩ := rd22 w H en n _ _ h0
  have h1 := hf 1 _ rfl
  have h1 : DataW.trod en Try.prog w 0 (fun _ => true) true n 22 [c1] = some x1 := by rw [show Try.prog.cellsOf _ = 1 by kernel_rfl] at h1; exact h1
  obtain ⟨y1, o1, s1, v1⟩ := rd22 w H en n _ _ h1
  refine ⟨⟨y0, y1⟩, ⟨o0, o1⟩, ?_, rfl, fun j hj hj' => ?_⟩
  · simp only [szRates, Rows.uptoBulk, Rows.uptoBulkAll, List.map_cons, List.map_nil]; try dsimp only at s0
    try dsimp only at s1
    omega
  · match j, hj, hj' with
    | 0, _, _ => exact v0.2 0 (Nat.le_of_ble_eq_true rfl) (Nat.le_of_ble_eq_true rfl)
    | 1, _, _ => exact v1.2 0 (Nat.le_of_ble_eq_true rfl) (Nat.le_of_ble_eq_true rfl)
    | j + 2, _, hj' => exact absurd hj' (by simp)
theorem rd3 (w : World) : Rd Try.prog w 3 (AV.int .i64) (fun n : Int => IntKind.i64.min ≤ n ∧ n ≤ IntKind.i64.max) (fun _ : Int => 1) := Rd_int Try.underlying3
def okMove (r : GMove) : Prop := (fun n : Int => IntKind.i64.min ≤ n ∧ n ≤ IntKind.i64.max) r.From ∧ (fun n : Int => IntKind.i64.min ≤ n ∧ n ≤ IntKind.i64.max) r.To ∧ okRat r.Rate
def szMove (r : GMove) : Nat := (fun _ : Int => 1) r.From + (fun _ : Int => 1) r.To + szRat r.Rate + 1
theorem rd72 (w : World) : Rd Try.prog w 72 eMove okMove szMove := by
  intro H en fuel cs x h
  obtain ⟨xs, n, rfl, rfl, hl, hxl, hf⟩ := DataW.trod_struct Try.underlying72 h
  rw [show Try.prog.cellsOf 72 = 5 by kernel_rfl] at hl
  have hxl : xs.length = 3 := hxl
  obtain ⟨c0, c1, c2, c3, c4, rfl⟩ := len5 hl
  obtain ⟨x0, x1, x2, rfl⟩ := len3 hxl
  have h0 := hf 0 _ rfl
  have h0 : DataW.trod en Try.prog w 0 (fun _ => true) true n 3 [c0] = some x0 := by rw [show Try.prog.cellsOf _ = 1 by kernel_rfl] at h0; exact h0
  obtain ⟨y0, o0, s0, v0⟩ := rd3 w H en n _ _ h0
  have h1 := hf 1 _ rfl
  have h1 : DataW.trod en Try.prog w 0 (fun _ => true) true n 3 [c1] = some x1 := by rw [show Try.prog.cellsOf _ = 1 by kernel_rfl] at h1; exact h1
  obtain ⟨y1, o1, s1, v1⟩ := rd3 w H en n _ _ h1
  have h2 := hf 2 _ rfl
  have h2 : DataW.trod en Try.prog w 0 (fun _ => true) true n 27 [c2, c3, c4] = some x2 := by rw [show Try.prog.cellsOf _ = 3 by kernel_rfl] at h2; exact h2
  obtain ⟨y2, o2, s2, v2⟩ := rd27 w H en n _ _ h2
  refine ⟨⟨y0, y1, y2⟩, ⟨o0, o1, o2⟩, ?_, rfl, fun j hj hj' => ?_⟩
  · simp only [szMove, Rows.uptoBulk, Rows.uptoBulkAll, List.map_cons, List.map_nil]; try dsimp only at s0
    try dsimp only at s1
    try dsimp only at s2
    omega
  · match j, hj, hj' with
    | 0, _, _ => exact v0.2 0 (Nat.le_of_ble_eq_true rfl) (Nat.le_of_ble_eq_true rfl)
    | 1, _, _ => exact v1.2 0 (Nat.le_of_ble_eq_true rfl) (Nat.le_of_ble_eq_true rfl)
    | 2, _, _ => exact v2.2 0 (Nat.le_of_ble_eq_true rfl) (Nat.le_of_ble_eq_true rfl)
    | 3, _, _ => exact v2.2 1 (Nat.le_of_ble_eq_true rfl) (Nat.le_of_ble_eq_true rfl)
    | 4, _, _ => exact v2.2 2 (Nat.le_of_ble_eq_true rfl) (Nat.le_of_ble_eq_true rfl)
    | j + 5, _, hj' => exact absurd hj' (by simp)
theorem rd62 (w : World) : Rd Try.prog w 62 (eL eMove) (okL okMove) (szL szMove) := Rd_slice (kk := 5) Try.underlying62 (by kernel_rfl) (by decide) (fun _ => rfl) (rd72 w)
theorem rd63 (w : World) : Rd Try.prog w 63 (eL AV.bool) (okL (fun _ : Bool => True)) (szL (fun _ : Bool => 1)) := Rd_slice (kk := 1) Try.underlying63 (by kernel_rfl) (by decide) (fun _ => rfl) (rd4 w)
def okChain (r : GChain) : Prop := (fun n : Int => IntKind.i64.min ≤ n ∧ n ≤ IntKind.i64.max) r.States ∧ (fun n : Int => IntKind.i64.min ≤ n ∧ n ≤ IntKind.i64.max) r.Start ∧ (okL okMove) r.Moves ∧ (okL (fun _ : Bool => True)) r.Down
def szChain (r : GChain) : Nat := (fun _ : Int => 1) r.States + (fun _ : Int => 1) r.Start + (szL szMove) r.Moves + (szL (fun _ : Bool => 1)) r.Down + 1
theorem rd65 (w : World) : Rd Try.prog w 65 eChain okChain szChain := by
  intro H en fuel cs x h
  obtain ⟨xs, n, rfl, rfl, hl, hxl, hf⟩ := DataW.trod_struct Try.underlying65 h
  rw [show Try.prog.cellsOf 65 = 4 by kernel_rfl] at hl
  have hxl : xs.length = 4 := hxl
  obtain ⟨c0, c1, c2, c3, rfl⟩ := len4 hl
  obtain ⟨x0, x1, x2, x3, rfl⟩ := len4 hxl
  have h0 := hf 0 _ rfl
  have h0 : DataW.trod en Try.prog w 0 (fun _ => true) true n 3 [c0] = some x0 := by rw [show Try.prog.cellsOf _ = 1 by kernel_rfl] at h0; exact h0
  obtain ⟨y0, o0, s0, v0⟩ := rd3 w H en n _ _ h0
  have h1 := hf 1 _ rfl
  have h1 : DataW.trod en Try.prog w 0 (fun _ => true) true n 3 [c1] = some x1 := by rw [show Try.prog.cellsOf _ = 1 by kernel_rfl] at h1; exact h1
  obtain ⟨y1, o1, s1, v1⟩ := rd3 w H en n _ _ h1
  have h2 := hf 2 _ rfl
  have h2 : DataW.trod en Try.prog w 0 (fun _ => true) true n 62 [c2] = some x2 := by rw [show Try.prog.cellsOf _ = 1 by kernel_rfl] at h2; exact h2
  obtain ⟨y2, o2, s2, v2⟩ := rd62 w H en n _ _ h2
  have h3 := hf 3 _ rfl
  have h3 : DataW.trod en Try.prog w 0 (fun _ => true) true n 63 [c3] = some x3 := by rw [show Try.prog.cellsOf _ = 1 by kernel_rfl] at h3; exact h3
  obtain ⟨y3, o3, s3, v3⟩ := rd63 w H en n _ _ h3
  refine ⟨⟨y0, y1, y2, y3⟩, ⟨o0, o1, o2, o3⟩, ?_, rfl, fun j hj hj' => ?_⟩
  · simp only [szChain, Rows.uptoBulk, Rows.uptoBulkAll, List.map_cons, List.map_nil]; try dsimp only at s0
    try dsimp only at s1
    try dsimp only at s2
    try dsimp only at s3
    omega
  · match j, hj, hj' with
    | 0, _, _ => exact v0.2 0 (Nat.le_of_ble_eq_true rfl) (Nat.le_of_ble_eq_true rfl)
    | 1, _, _ => exact v1.2 0 (Nat.le_of_ble_eq_true rfl) (Nat.le_of_ble_eq_true rfl)
    | 2, _, _ => exact v2.2 0 (Nat.le_of_ble_eq_true rfl) (Nat.le_of_ble_eq_true rfl)
    | 3, _, _ => exact v3.2 0 (Nat.le_of_ble_eq_true rfl) (Nat.le_of_ble_eq_true rfl)
    | j + 4, _, hj' => exact absurd hj' (by simp)
theorem rd76 (w : World) : Rd Try.prog w 76 (eL (AV.int .i64)) (okL (fun n : Int => IntKind.i64.min ≤ n ∧ n ≤ IntKind.i64.max)) (szL (fun _ : Int => 1)) := Rd_slice (kk := 1) Try.underlying76 (by kernel_rfl) (by decide) (fun _ => rfl) (rd3 w)
def okNode (r : GNode) : Prop := (fun n : Int => IntKind.i64.min ≤ n ∧ n ≤ IntKind.i64.max) r.Kind ∧ (fun n : Int => IntKind.i64.min ≤ n ∧ n ≤ IntKind.i64.max) r.K ∧ (okL (fun n : Int => IntKind.i64.min ≤ n ∧ n ≤ IntKind.i64.max)) r.Args
def szNode (r : GNode) : Nat := (fun _ : Int => 1) r.Kind + (fun _ : Int => 1) r.K + (szL (fun _ : Int => 1)) r.Args + 1
theorem rd78 (w : World) : Rd Try.prog w 78 eNode okNode szNode := by
  intro H en fuel cs x h
  obtain ⟨xs, n, rfl, rfl, hl, hxl, hf⟩ := DataW.trod_struct Try.underlying78 h
  rw [show Try.prog.cellsOf 78 = 3 by kernel_rfl] at hl
  have hxl : xs.length = 3 := hxl
  obtain ⟨c0, c1, c2, rfl⟩ := len3 hl
  obtain ⟨x0, x1, x2, rfl⟩ := len3 hxl
  have h0 := hf 0 _ rfl
  have h0 : DataW.trod en Try.prog w 0 (fun _ => true) true n 3 [c0] = some x0 := by rw [show Try.prog.cellsOf _ = 1 by kernel_rfl] at h0; exact h0
  obtain ⟨y0, o0, s0, v0⟩ := rd3 w H en n _ _ h0
  have h1 := hf 1 _ rfl
  have h1 : DataW.trod en Try.prog w 0 (fun _ => true) true n 3 [c1] = some x1 := by rw [show Try.prog.cellsOf _ = 1 by kernel_rfl] at h1; exact h1
  obtain ⟨y1, o1, s1, v1⟩ := rd3 w H en n _ _ h1
  have h2 := hf 2 _ rfl
  have h2 : DataW.trod en Try.prog w 0 (fun _ => true) true n 76 [c2] = some x2 := by rw [show Try.prog.cellsOf _ = 1 by kernel_rfl] at h2; exact h2
  obtain ⟨y2, o2, s2, v2⟩ := rd76 w H en n _ _ h2
  refine ⟨⟨y0, y1, y2⟩, ⟨o0, o1, o2⟩, ?_, rfl, fun j hj hj' => ?_⟩
  · simp only [szNode, Rows.uptoBulk, Rows.uptoBulkAll, List.map_cons, List.map_nil]; try dsimp only at s0
    try dsimp only at s1
    try dsimp only at s2
    omega
  · match j, hj, hj' with
    | 0, _, _ => exact v0.2 0 (Nat.le_of_ble_eq_true rfl) (Nat.le_of_ble_eq_true rfl)
    | 1, _, _ => exact v1.2 0 (Nat.le_of_ble_eq_true rfl) (Nat.le_of_ble_eq_true rfl)
    | 2, _, _ => exact v2.2 0 (Nat.le_of_ble_eq_true rfl) (Nat.le_of_ble_eq_true rfl)
    | j + 3, _, hj' => exact absurd hj' (by simp)
theorem rd68 (w : World) : Rd Try.prog w 68 (eL eNode) (okL okNode) (szL szNode) := Rd_slice (kk := 3) Try.underlying68 (by kernel_rfl) (by decide) (fun _ => rfl) (rd78 w)
def okFormula (r : GFormula) : Prop := (fun n : Int => IntKind.i64.min ≤ n ∧ n ≤ IntKind.i64.max) r.Vars ∧ (okL okNode) r.Nodes ∧ (fun n : Int => IntKind.i64.min ≤ n ∧ n ≤ IntKind.i64.max) r.Top
def szFormula (r : GFormula) : Nat := (fun _ : Int => 1) r.Vars + (szL szNode) r.Nodes + (fun _ : Int => 1) r.Top + 1
theorem rd70 (w : World) : Rd Try.prog w 70 eFormula okFormula szFormula := by
  intro H en fuel cs x h
  obtain ⟨xs, n, rfl, rfl, hl, hxl, hf⟩ := DataW.trod_struct Try.underlying70 h
  rw [show Try.prog.cellsOf 70 = 3 by kernel_rfl] at hl
  have hxl : xs.length = 3 := hxl
  obtain ⟨c0, c1, c2, rfl⟩ := len3 hl
  obtain ⟨x0, x1, x2, rfl⟩ := len3 hxl
  have h0 := hf 0 _ rfl
  have h0 : DataW.trod en Try.prog w 0 (fun _ => true) true n 3 [c0] = some x0 := by rw [show Try.prog.cellsOf _ = 1 by kernel_rfl] at h0; exact h0
  obtain ⟨y0, o0, s0, v0⟩ := rd3 w H en n _ _ h0
  have h1 := hf 1 _ rfl
  have h1 : DataW.trod en Try.prog w 0 (fun _ => true) true n 68 [c1] = some x1 := by rw [show Try.prog.cellsOf _ = 1 by kernel_rfl] at h1; exact h1
  obtain ⟨y1, o1, s1, v1⟩ := rd68 w H en n _ _ h1
  have h2 := hf 2 _ rfl
  have h2 : DataW.trod en Try.prog w 0 (fun _ => true) true n 3 [c2] = some x2 := by rw [show Try.prog.cellsOf _ = 1 by kernel_rfl] at h2; exact h2
  obtain ⟨y2, o2, s2, v2⟩ := rd3 w H en n _ _ h2
  refine ⟨⟨y0, y1, y2⟩, ⟨o0, o1, o2⟩, ?_, rfl, fun j hj hj' => ?_⟩
  · simp only [szFormula, Rows.uptoBulk, Rows.uptoBulkAll, List.map_cons, List.map_nil]; try dsimp only at s0
    try dsimp only at s1
    try dsimp only at s2
    omega
  · match j, hj, hj' with
    | 0, _, _ => exact v0.2 0 (Nat.le_of_ble_eq_true rfl) (Nat.le_of_ble_eq_true rfl)
    | 1, _, _ => exact v1.2 0 (Nat.le_of_ble_eq_true rfl) (Nat.le_of_ble_eq_true rfl)
    | 2, _, _ => exact v2.2 0 (Nat.le_of_ble_eq_true rfl) (Nat.le_of_ble_eq_true rfl)
    | j + 3, _, hj' => exact absurd hj' (by simp)
theorem rd91 (w : World) : Rd Try.prog w 91 (eL eFormula) (okL okFormula) (szL szFormula) := Rd_slice (kk := 3) Try.underlying91 (by kernel_rfl) (by decide) (fun _ => rfl) (rd70 w)
theorem rd92 (w : World) : Rd Try.prog w 92 (eL (eL eRat)) (okL (okL okRat)) (szL (szL szRat)) := Rd_slice (kk := 1) Try.underlying92 (by kernel_rfl) (by decide) (fun _ => rfl) (rd22 w)
def okMission (r : GMission) : Prop := (okL okFormula) r.Phases ∧ (okL (okL okRat)) r.P
def szMission (r : GMission) : Nat := (szL szFormula) r.Phases + (szL (szL szRat)) r.P + 1
theorem rd94 (w : World) : Rd Try.prog w 94 eMission okMission szMission := by
  intro H en fuel cs x h
  obtain ⟨xs, n, rfl, rfl, hl, hxl, hf⟩ := DataW.trod_struct Try.underlying94 h
  rw [show Try.prog.cellsOf 94 = 2 by kernel_rfl] at hl
  have hxl : xs.length = 2 := hxl
  obtain ⟨c0, c1, rfl⟩ := len2 hl
  obtain ⟨x0, x1, rfl⟩ := len2 hxl
  have h0 := hf 0 _ rfl
  have h0 : DataW.trod en Try.prog w 0 (fun _ => true) true n 91 [c0] = some x0 := by rw [show Try.prog.cellsOf _ = 1 by kernel_rfl] at h0; exact h0
  obtain ⟨y0, o0, s0, v0⟩ := rd91 w H en n _ _ h0
  have h1 := hf 1 _ rfl
  have h1 : DataW.trod en Try.prog w 0 (fun _ => true) true n 92 [c1] = some x1 := by rw [show Try.prog.cellsOf _ = 1 by kernel_rfl] at h1; exact h1
  obtain ⟨y1, o1, s1, v1⟩ := rd92 w H en n _ _ h1
  refine ⟨⟨y0, y1⟩, ⟨o0, o1⟩, ?_, rfl, fun j hj hj' => ?_⟩
  · simp only [szMission, Rows.uptoBulk, Rows.uptoBulkAll, List.map_cons, List.map_nil]; try dsimp only at s0
    try dsimp only at s1
    omega
  · match j, hj, hj' with
    | 0, _, _ => exact v0.2 0 (Nat.le_of_ble_eq_true rfl) (Nat.le_of_ble_eq_true rfl)
    | 1, _, _ => exact v1.2 0 (Nat.le_of_ble_eq_true rfl) (Nat.le_of_ble_eq_true rfl)
    | j + 2, _, hj' => exact absurd hj' (by simp)
def okCauseGroup (r : GCauseGroup) : Prop := (fun n : Int => IntKind.i64.min ≤ n ∧ n ≤ IntKind.i64.max) r.Kind ∧ (okL (fun n : Int => IntKind.i64.min ≤ n ∧ n ≤ IntKind.i64.max)) r.Members ∧ (okL okRat) r.Factors
def szCauseGroup (r : GCauseGroup) : Nat := (fun _ : Int => 1) r.Kind + (szL (fun _ : Int => 1)) r.Members + (szL szRat) r.Factors + 1
theorem rd116 (w : World) : Rd Try.prog w 116 eCauseGroup okCauseGroup szCauseGroup := by
  intro H en fuel cs x h
  obtain ⟨xs, n, rfl, rfl, hl, hxl, hf⟩ := DataW.trod_struct Try.underlying116 h
  rw [show Try.prog.cellsOf 116 = 3 by kernel_rfl] at hl
  have hxl : xs.length = 3 := hxl
  obtain ⟨c0, c1, c2, rfl⟩ := len3 hl
  obtain ⟨x0, x1, x2, rfl⟩ := len3 hxl
  have h0 := hf 0 _ rfl
  have h0 : DataW.trod en Try.prog w 0 (fun _ => true) true n 3 [c0] = some x0 := by rw [show Try.prog.cellsOf _ = 1 by kernel_rfl] at h0; exact h0
  obtain ⟨y0, o0, s0, v0⟩ := rd3 w H en n _ _ h0
  have h1 := hf 1 _ rfl
  have h1 : DataW.trod en Try.prog w 0 (fun _ => true) true n 76 [c1] = some x1 := by rw [show Try.prog.cellsOf _ = 1 by kernel_rfl] at h1; exact h1
  obtain ⟨y1, o1, s1, v1⟩ := rd76 w H en n _ _ h1
  have h2 := hf 2 _ rfl
  have h2 : DataW.trod en Try.prog w 0 (fun _ => true) true n 22 [c2] = some x2 := by rw [show Try.prog.cellsOf _ = 1 by kernel_rfl] at h2; exact h2
  obtain ⟨y2, o2, s2, v2⟩ := rd22 w H en n _ _ h2
  refine ⟨⟨y0, y1, y2⟩, ⟨o0, o1, o2⟩, ?_, rfl, fun j hj hj' => ?_⟩
  · simp only [szCauseGroup, Rows.uptoBulk, Rows.uptoBulkAll, List.map_cons, List.map_nil]; try dsimp only at s0
    try dsimp only at s1
    try dsimp only at s2
    omega
  · match j, hj, hj' with
    | 0, _, _ => exact v0.2 0 (Nat.le_of_ble_eq_true rfl) (Nat.le_of_ble_eq_true rfl)
    | 1, _, _ => exact v1.2 0 (Nat.le_of_ble_eq_true rfl) (Nat.le_of_ble_eq_true rfl)
    | 2, _, _ => exact v2.2 0 (Nat.le_of_ble_eq_true rfl) (Nat.le_of_ble_eq_true rfl)
    | j + 3, _, hj' => exact absurd hj' (by simp)
theorem rd5 (w : World) : Rd Try.prog w 5 (AV.int .u8) (fun n : Int => IntKind.u8.min ≤ n ∧ n ≤ IntKind.u8.max) (fun _ : Int => 1) := Rd_int Try.underlying5
end Go.Proofs.Ytonbnfgknijpoaa
