/- The types' table of this seat, as equations for the formulas. Conditions: none. -/
import Derived.Test.YtiamkdpljeemkaaGb
import Derived.Test.YtiamkdpljeemkaaProg
import Derived.KernelRfl
/- The types' table of this seat, as equations for the formulas. Conditions: none. -/
namespace Go.Proofs.Ytiamkdpljeemkaa
open Go.Gg
theorem mixed : Try.prog.follows .mixedOrders = true := by kernel_rfl
theorem td3 : td Try.prog 3 = .int .i64 := by kernel_rfl
theorem sz3 : sz Try.prog 3 = 1 := by kernel_rfl
theorem bts3 : bts Try.prog 3 = 8 := by kernel_rfl
theorem ag3 : isAggT Try.prog 3 = false := by kernel_rfl
theorem zav3 : zav Try.prog 3 = .int .i64 (0) := by kernel_rfl
theorem ok3 : tyok Try.prog 3 = true := by kernel_rfl
theorem td4 : td Try.prog 4 = .bool := by kernel_rfl
theorem sz4 : sz Try.prog 4 = 1 := by kernel_rfl
theorem bts4 : bts Try.prog 4 = 1 := by kernel_rfl
theorem ag4 : isAggT Try.prog 4 = false := by kernel_rfl
theorem zav4 : zav Try.prog 4 = .bool false := by kernel_rfl
theorem ok4 : tyok Try.prog 4 = true := by kernel_rfl
theorem td5 : td Try.prog 5 = .int .u8 := by kernel_rfl
theorem td9 : td Try.prog 9 = .str := by kernel_rfl
theorem td22 : td Try.prog 22 = .slice 105 := by kernel_rfl
theorem sz22 : sz Try.prog 22 = 1 := by kernel_rfl
theorem ag22 : isAggT Try.prog 22 = false := by kernel_rfl
theorem td24 : td Try.prog 24 = .struct [(0, 3), (1, 22), (2, 3)] := by kernel_rfl
theorem sz24 : sz Try.prog 24 = 3 := by kernel_rfl
theorem ag24 : isAggT Try.prog 24 = true := by kernel_rfl
theorem zav24 : zav Try.prog 24 = .agg [.int .i64 (0), .nil, .int .i64 (0)] := by kernel_rfl
theorem ok24 : tyok Try.prog 24 = true := by kernel_rfl
theorem bok24 : (tyok Try.prog 24 && isAggZ (zav Try.prog 24) && List.all [(0, 3), (1, 22), (2, 3)] (fun f => decide (0 < sz Try.prog f.2))) = true := by kernel_rfl
theorem szs24 : List.map (fun (f : Nat × TypeId) => sz Try.prog f.2) [(0, 3), (1, 22), (2, 3)] = [1, 1, 1] := by kernel_rfl
theorem td25 : td Try.prog 25 = .slice 3 := by kernel_rfl
theorem sz25 : sz Try.prog 25 = 1 := by kernel_rfl
theorem ag25 : isAggT Try.prog 25 = false := by kernel_rfl
theorem zav25 : zav Try.prog 25 = .nil := by kernel_rfl
theorem ok25 : tyok Try.prog 25 = true := by kernel_rfl
theorem td32 : td Try.prog 32 = .iface := by kernel_rfl
theorem sz32 : sz Try.prog 32 = 1 := by kernel_rfl
theorem ag32 : isAggT Try.prog 32 = false := by kernel_rfl
theorem zav32 : zav Try.prog 32 = .niface := by kernel_rfl
theorem ok32 : tyok Try.prog 32 = true := by kernel_rfl
theorem td73 : td Try.prog 73 = .int .i64 := by kernel_rfl
theorem zav73 : zav Try.prog 73 = .int .i64 (0) := by kernel_rfl
theorem ok73 : tyok Try.prog 73 = true := by kernel_rfl
theorem td105 : td Try.prog 105 = .struct [(0, 3), (1, 3), (2, 25)] := by kernel_rfl
theorem sz105 : sz Try.prog 105 = 3 := by kernel_rfl
theorem ag105 : isAggT Try.prog 105 = true := by kernel_rfl
theorem zav105 : zav Try.prog 105 = .agg [.int .i64 (0), .int .i64 (0), .nil] := by kernel_rfl
theorem ok105 : tyok Try.prog 105 = true := by kernel_rfl
theorem bok105 : (tyok Try.prog 105 && isAggZ (zav Try.prog 105) && List.all [(0, 3), (1, 3), (2, 25)] (fun f => decide (0 < sz Try.prog f.2))) = true := by kernel_rfl
theorem szs105 : List.map (fun (f : Nat × TypeId) => sz Try.prog f.2) [(0, 3), (1, 3), (2, 25)] = [1, 1, 1] := by kernel_rfl
theorem td110 : td Try.prog 110 = .slice 4 := by kernel_rfl
theorem sz110 : sz Try.prog 110 = 1 := by kernel_rfl
theorem ag110 : isAggT Try.prog 110 = false := by kernel_rfl
theorem td127 : td Try.prog 127 = .slice 25 := by kernel_rfl
theorem td137 : td Try.prog 137 = .slice 140 := by kernel_rfl
theorem sz137 : sz Try.prog 137 = 1 := by kernel_rfl
theorem ag137 : isAggT Try.prog 137 = false := by kernel_rfl
theorem zav137 : zav Try.prog 137 = .nil := by kernel_rfl
theorem ok137 : tyok Try.prog 137 = true := by kernel_rfl
theorem td138 : td Try.prog 138 = .slice 186 := by kernel_rfl
theorem sz138 : sz Try.prog 138 = 1 := by kernel_rfl
theorem ag138 : isAggT Try.prog 138 = false := by kernel_rfl
theorem td140 : td Try.prog 140 = .struct [(0, 4), (1, 138), (2, 138)] := by kernel_rfl
theorem sz140 : sz Try.prog 140 = 3 := by kernel_rfl
theorem bts140 : bts Try.prog 140 = 56 := by kernel_rfl
theorem ag140 : isAggT Try.prog 140 = true := by kernel_rfl
theorem zav140 : zav Try.prog 140 = .agg [.bool false, .nil, .nil] := by kernel_rfl
theorem ok140 : tyok Try.prog 140 = true := by kernel_rfl
theorem bok140 : (tyok Try.prog 140 && isAggZ (zav Try.prog 140) && List.all [(0, 4), (1, 138), (2, 138)] (fun f => decide (0 < sz Try.prog f.2))) = true := by kernel_rfl
theorem szs140 : List.map (fun (f : Nat × TypeId) => sz Try.prog f.2) [(0, 4), (1, 138), (2, 138)] = [1, 1, 1] := by kernel_rfl
theorem td168 : td Try.prog 168 = .struct [(0, 24), (3, 25), (4, 110)] := by kernel_rfl
theorem sz168 : sz Try.prog 168 = 5 := by kernel_rfl
theorem zav168 : zav Try.prog 168 = .agg [.int .i64 (0), .nil, .int .i64 (0), .nil, .nil] := by kernel_rfl
theorem bok168 : (tyok Try.prog 168 && isAggZ (zav Try.prog 168) && List.all [(0, 24), (3, 25), (4, 110)] (fun f => decide (0 < sz Try.prog f.2))) = true := by kernel_rfl
theorem szs168 : List.map (fun (f : Nat × TypeId) => sz Try.prog f.2) [(0, 24), (3, 25), (4, 110)] = [3, 1, 1] := by kernel_rfl
theorem td186 : td Try.prog 186 = .int .u32 := by kernel_rfl
theorem sz186 : sz Try.prog 186 = 1 := by kernel_rfl
theorem bts186 : bts Try.prog 186 = 4 := by kernel_rfl
theorem ag186 : isAggT Try.prog 186 = false := by kernel_rfl
theorem zav186 : zav Try.prog 186 = .int .u32 (0) := by kernel_rfl
theorem ok186 : tyok Try.prog 186 = true := by kernel_rfl
theorem td188 : td Try.prog 188 = .int .u64 := by kernel_rfl
end Go.Proofs.Ytiamkdpljeemkaa
