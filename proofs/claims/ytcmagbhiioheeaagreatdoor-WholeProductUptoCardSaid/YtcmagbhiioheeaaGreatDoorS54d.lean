/- The program's texts of numbers, walked at the numbers that the self-test meets. Conditions: none. -/
import Derived.Test.YtcmagbhiioheeaaGreatDoorS54a
import Derived.Test.YtcmagbhiioheeaaGreatDoorGa
import Derived.WalkKit
import Derived.LoopN
import Derived.Lib.SlBytesRow
namespace Go.Proofs.YtcmagbhiioheeaaGreatDoor
open Go.RowKit Go.Shelf Go.Gg
set_option maxHeartbeats 1000000
set_option maxRecDepth 100000
theorem Gq (w:World):Calls Tryz.prog 93 #[.int .u32 1] w λe w'=>e = .returned (.string ⟨#[48,48,48,48,48,48,48,48,49]⟩)/\Below w.heap.size w w':=by
  go_enter Tryz.func93,Tryz.ntmps93
  go_wp2
  refine wp_loop_rounds 10 ?_
  rw[rounds_succ]
  go_wp2
  rw[rounds_succ]
  go_wp2
  rw[rounds_succ]
  go_wp2
  rw[rounds_succ]
  go_wp2
  rw[rounds_succ]
  go_wp2
  rw[rounds_succ]
  go_wp2
  rw[rounds_succ]
  go_wp2
  rw[rounds_succ]
  go_wp2
  rw[rounds_succ]
  go_wp2
  rw[rounds_succ]
  go_wp2
  have hb:Go.Lib.Bytes (w.alloc (Obj.cells #[Value.int IntKind.u8 48,Value.int IntKind.u8 48,Value.int IntKind.u8 48,Value.int IntKind.u8 48,Value.int IntKind.u8 48,Value.int IntKind.u8 48,Value.int IntKind.u8 48,Value.int IntKind.u8 48,Value.int IntKind.u8 49] 179)) w.heap.size 0 ⟨#[48,48,48,48,48,48,48,48,49]⟩:=by
    have hcell:(w.alloc (Obj.cells #[Value.int IntKind.u8 48,Value.int IntKind.u8 48,Value.int IntKind.u8 48,Value.int IntKind.u8 48,Value.int IntKind.u8 48,Value.int IntKind.u8 48,Value.int IntKind.u8 48,Value.int IntKind.u8 48,Value.int IntKind.u8 49] 179)).heap[w.heap.size]? = some (Obj.cells #[Value.int IntKind.u8 48,Value.int IntKind.u8 48,Value.int IntKind.u8 48,Value.int IntKind.u8 48,Value.int IntKind.u8 48,Value.int IntKind.u8 48,Value.int IntKind.u8 48,Value.int IntKind.u8 48,Value.int IntKind.u8 49] 179):=by
      show(w.heap.push _)[w.heap.size]? = _
      simp
    intro i hi
    have hi:i<9:=hi
    simp only[World.cell?,hcell]
    have:i=0\/i=1\/i=2\/i=3\/i=4\/i=5\/i=6\/i=7\/i=8:=om
    rcases this with rfl | rfl | rfl | rfl | rfl | rfl | rfl | rfl | rfl<;>rfl
  have hc:=Go.Lib.run_convert_whole (P:=Tryz.prog) _ 145 5 9 Tryz.underlying145 Tryz.underlying5 Tryz.underlying9 _ _ _ hb 9
  change Sem.run Tryz.prog (convert 145 9 (Value.slice (some { block:=w.heap.size,off:=0 }) 9 9)) _=_ at hc
  rw[hc]
  go_wp2
  go_ret
  exact⟨rfl,(Below.refl _ w).alloc (Nat.le_refl _) _⟩
theorem CZ (w:World):Calls Tryz.prog 93 #[.int .u32 4] w λe w'=>e = .returned (.string ⟨#[48,48,48,48,48,48,48,48,52]⟩)/\Below w.heap.size w w':=by
  go_enter Tryz.func93,Tryz.ntmps93
  go_wp2
  refine wp_loop_rounds 10 ?_
  rw[rounds_succ]
  go_wp2
  rw[rounds_succ]
  go_wp2
  rw[rounds_succ]
  go_wp2
  rw[rounds_succ]
  go_wp2
  rw[rounds_succ]
  go_wp2
  rw[rounds_succ]
  go_wp2
  rw[rounds_succ]
  go_wp2
  rw[rounds_succ]
  go_wp2
  rw[rounds_succ]
  go_wp2
  rw[rounds_succ]
  go_wp2
  have hb:Go.Lib.Bytes (w.alloc (Obj.cells #[Value.int IntKind.u8 48,Value.int IntKind.u8 48,Value.int IntKind.u8 48,Value.int IntKind.u8 48,Value.int IntKind.u8 48,Value.int IntKind.u8 48,Value.int IntKind.u8 48,Value.int IntKind.u8 48,Value.int IntKind.u8 52] 179)) w.heap.size 0 ⟨#[48,48,48,48,48,48,48,48,52]⟩:=by
    have hcell:(w.alloc (Obj.cells #[Value.int IntKind.u8 48,Value.int IntKind.u8 48,Value.int IntKind.u8 48,Value.int IntKind.u8 48,Value.int IntKind.u8 48,Value.int IntKind.u8 48,Value.int IntKind.u8 48,Value.int IntKind.u8 48,Value.int IntKind.u8 52] 179)).heap[w.heap.size]? = some (Obj.cells #[Value.int IntKind.u8 48,Value.int IntKind.u8 48,Value.int IntKind.u8 48,Value.int IntKind.u8 48,Value.int IntKind.u8 48,Value.int IntKind.u8 48,Value.int IntKind.u8 48,Value.int IntKind.u8 48,Value.int IntKind.u8 52] 179):=by
      show(w.heap.push _)[w.heap.size]? = _
      simp
    intro i hi
    have hi:i<9:=hi
    simp only[World.cell?,hcell]
    have:i=0\/i=1\/i=2\/i=3\/i=4\/i=5\/i=6\/i=7\/i=8:=om
    rcases this with rfl | rfl | rfl | rfl | rfl | rfl | rfl | rfl | rfl<;>rfl
  have hc:=Go.Lib.run_convert_whole (P:=Tryz.prog) _ 145 5 9 Tryz.underlying145 Tryz.underlying5 Tryz.underlying9 _ _ _ hb 9
  change Sem.run Tryz.prog (convert 145 9 (Value.slice (some { block:=w.heap.size,off:=0 }) 9 9)) _=_ at hc
  rw[hc]
  go_wp2
  go_ret
  exact⟨rfl,(Below.refl _ w).alloc (Nat.le_refl _) _⟩
end Go.Proofs.YtcmagbhiioheeaaGreatDoor
