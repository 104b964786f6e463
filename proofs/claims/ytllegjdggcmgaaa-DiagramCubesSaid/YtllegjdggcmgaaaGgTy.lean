/- The types' table of this seat, as equations for the formulas. Conditions: none. -/
import Derived.Test.YtllegjdggcmgaaaGb
import Derived.Test.YtllegjdggcmgaaaProg
import Derived.KernelRfl
/- The types' table of this seat, as equations for the formulas. Conditions: none. -/
namespace Go.Proofs.Ytllegjdggcmgaaa
open Go.Gg
theorem mixed : Try.prog.follows .mixedOrders = true := by kernel_rfl
theorem sz3 : sz Try.prog 3 = 1 := by kernel_rfl
theorem bts3 : bts Try.prog 3 = 8 := by kernel_rfl
theorem ag3 : isAggT Try.prog 3 = false := by kernel_rfl
theorem zav3 : zav Try.prog 3 = .int .i64 (0) := by kernel_rfl
theorem ok3 : tyok Try.prog 3 = true := by kernel_rfl
theorem td4 : td Try.prog 4 = .bool := by kernel_rfl
theorem sz4 : sz Try.prog 4 = 1 := by kernel_rfl
theorem bts4 : bts Try.prog 4 = 1 := by kernel_rfl
theorem ag4 : isAggT Try.prog 4 = false := by kernel_rfl
theorem zav4 : zav Try.prog 4 = .bool false := by kernel_rfl
theorem ok4 : tyok Try.prog 4 = true := by kernel_rfl
theorem td22 : td Try.prog 22 = .slice 3 := by kernel_rfl
theorem sz22 : sz Try.prog 22 = 1 := by kernel_rfl
theorem ag22 : isAggT Try.prog 22 = false := by kernel_rfl
theorem td23 : td Try.prog 23 = .slice 134 := by kernel_rfl
theorem sz23 : sz Try.prog 23 = 1 := by kernel_rfl
theorem ag23 : isAggT Try.prog 23 = false := by kernel_rfl
theorem td25 : td Try.prog 25 = .struct [(0, 22), (1, 23), (2, 3)] := by kernel_rfl
theorem sz25 : sz Try.prog 25 = 3 := by kernel_rfl
theorem ag25 : isAggT Try.prog 25 = true := by kernel_rfl
theorem zav25 : zav Try.prog 25 = .agg [.nil, .nil, .int .i64 (0)] := by kernel_rfl
theorem ok25 : tyok Try.prog 25 = true := by kernel_rfl
theorem bok25 : (tyok Try.prog 25 && isAggZ (zav Try.prog 25) && List.all [(0, 22), (1, 23), (2, 3)] (fun f => decide (0 < sz Try.prog f.2))) = true := by kernel_rfl
theorem szs25 : List.map (fun (f : Nat × TypeId) => sz Try.prog f.2) [(0, 22), (1, 23), (2, 3)] = [1, 1, 1] := by kernel_rfl
theorem td29 : td Try.prog 29 = .iface := by kernel_rfl
theorem td66 : td Try.prog 66 = .slice 154 := by kernel_rfl
theorem sz66 : sz Try.prog 66 = 1 := by kernel_rfl
theorem ag66 : isAggT Try.prog 66 = false := by kernel_rfl
theorem td68 : td Try.prog 68 = .struct [(0, 3), (1, 66), (2, 3)] := by kernel_rfl
theorem sz68 : sz Try.prog 68 = 3 := by kernel_rfl
theorem ag68 : isAggT Try.prog 68 = true := by kernel_rfl
theorem zav68 : zav Try.prog 68 = .agg [.int .i64 (0), .nil, .int .i64 (0)] := by kernel_rfl
theorem ok68 : tyok Try.prog 68 = true := by kernel_rfl
theorem bok68 : (tyok Try.prog 68 && isAggZ (zav Try.prog 68) && List.all [(0, 3), (1, 66), (2, 3)] (fun f => decide (0 < sz Try.prog f.2))) = true := by kernel_rfl
theorem szs68 : List.map (fun (f : Nat × TypeId) => sz Try.prog f.2) [(0, 3), (1, 66), (2, 3)] = [1, 1, 1] := by kernel_rfl
theorem td83 : td Try.prog 83 = .int .i64 := by kernel_rfl
theorem zav83 : zav Try.prog 83 = .int .i64 (0) := by kernel_rfl
theorem ok83 : tyok Try.prog 83 = true := by kernel_rfl
theorem td84 : td Try.prog 84 = .slice 94 := by kernel_rfl
theorem sz84 : sz Try.prog 84 = 1 := by kernel_rfl
theorem ag84 : isAggT Try.prog 84 = false := by kernel_rfl
theorem zav84 : zav Try.prog 84 = .nil := by kernel_rfl
theorem ok84 : tyok Try.prog 84 = true := by kernel_rfl
theorem td94 : td Try.prog 94 = .struct [(0, 3), (1, 3)] := by kernel_rfl
theorem sz94 : sz Try.prog 94 = 2 := by kernel_rfl
theorem bts94 : bts Try.prog 94 = 16 := by kernel_rfl
theorem ag94 : isAggT Try.prog 94 = true := by kernel_rfl
theorem zav94 : zav Try.prog 94 = .agg [.int .i64 (0), .int .i64 (0)] := by kernel_rfl
theorem ok94 : tyok Try.prog 94 = true := by kernel_rfl
theorem bok94 : (tyok Try.prog 94 && isAggZ (zav Try.prog 94) && List.all [(0, 3), (1, 3)] (fun f => decide (0 < sz Try.prog f.2))) = true := by kernel_rfl
theorem szs94 : List.map (fun (f : Nat × TypeId) => sz Try.prog f.2) [(0, 3), (1, 3)] = [1, 1] := by kernel_rfl
theorem sz128 : sz Try.prog 128 = 1 := by kernel_rfl
theorem ag128 : isAggT Try.prog 128 = false := by kernel_rfl
theorem sz132 : sz Try.prog 132 = 1 := by kernel_rfl
theorem ag132 : isAggT Try.prog 132 = false := by kernel_rfl
theorem zav132 : zav Try.prog 132 = .nilf := by kernel_rfl
theorem ok132 : tyok Try.prog 132 = true := by kernel_rfl
theorem td134 : td Try.prog 134 = .struct [(0, 3), (1, 3), (2, 3)] := by kernel_rfl
theorem sz134 : sz Try.prog 134 = 3 := by kernel_rfl
theorem bts134 : bts Try.prog 134 = 24 := by kernel_rfl
theorem ag134 : isAggT Try.prog 134 = true := by kernel_rfl
theorem zav134 : zav Try.prog 134 = .agg [.int .i64 (0), .int .i64 (0), .int .i64 (0)] := by kernel_rfl
theorem ok134 : tyok Try.prog 134 = true := by kernel_rfl
theorem bok134 : (tyok Try.prog 134 && isAggZ (zav Try.prog 134) && List.all [(0, 3), (1, 3), (2, 3)] (fun f => decide (0 < sz Try.prog f.2))) = true := by kernel_rfl
theorem szs134 : List.map (fun (f : Nat × TypeId) => sz Try.prog f.2) [(0, 3), (1, 3), (2, 3)] = [1, 1, 1] := by kernel_rfl
theorem td139 : td Try.prog 139 = .slice 4 := by kernel_rfl
theorem sz139 : sz Try.prog 139 = 1 := by kernel_rfl
theorem ag139 : isAggT Try.prog 139 = false := by kernel_rfl
theorem zav139 : zav Try.prog 139 = .nil := by kernel_rfl
theorem ok139 : tyok Try.prog 139 = true := by kernel_rfl
theorem td148 : td Try.prog 148 = .map 134 4 := by kernel_rfl
theorem td154 : td Try.prog 154 = .struct [(0, 3), (1, 3), (2, 22)] := by kernel_rfl
theorem sz154 : sz Try.prog 154 = 3 := by kernel_rfl
theorem bts154 : bts Try.prog 154 = 40 := by kernel_rfl
theorem ag154 : isAggT Try.prog 154 = true := by kernel_rfl
theorem zav154 : zav Try.prog 154 = .agg [.int .i64 (0), .int .i64 (0), .nil] := by kernel_rfl
theorem ok154 : tyok Try.prog 154 = true := by kernel_rfl
theorem bok154 : (tyok Try.prog 154 && isAggZ (zav Try.prog 154) && List.all [(0, 3), (1, 3), (2, 22)] (fun f => decide (0 < sz Try.prog f.2))) = true := by kernel_rfl
theorem szs154 : List.map (fun (f : Nat × TypeId) => sz Try.prog f.2) [(0, 3), (1, 3), (2, 22)] = [1, 1, 1] := by kernel_rfl
theorem sz158 : sz Try.prog 158 = 1 := by kernel_rfl
theorem ag158 : isAggT Try.prog 158 = false := by kernel_rfl
theorem zav158 : zav Try.prog 158 = .nilf := by kernel_rfl
theorem ok158 : tyok Try.prog 158 = true := by kernel_rfl
theorem td192 : td Try.prog 192 = .array 3 3 := by kernel_rfl
theorem sz192 : sz Try.prog 192 = 3 := by kernel_rfl
theorem ag192 : isAggT Try.prog 192 = true := by kernel_rfl
theorem zav192 : zav Try.prog 192 = .agg [.int .i64 (0), .int .i64 (0), .int .i64 (0)] := by kernel_rfl
theorem ok192 : tyok Try.prog 192 = true := by kernel_rfl
theorem td193 : td Try.prog 193 = .map 134 3 := by kernel_rfl
theorem sz193 : sz Try.prog 193 = 1 := by kernel_rfl
theorem ag193 : isAggT Try.prog 193 = false := by kernel_rfl
theorem td194 : td Try.prog 194 = .map 192 3 := by kernel_rfl
theorem sz194 : sz Try.prog 194 = 1 := by kernel_rfl
theorem ag194 : isAggT Try.prog 194 = false := by kernel_rfl
theorem td196 : td Try.prog 196 = .struct [(0, 22), (1, 22), (2, 23), (3, 193), (4, 194)] := by kernel_rfl
theorem sz196 : sz Try.prog 196 = 5 := by kernel_rfl
theorem zav196 : zav Try.prog 196 = .agg [.nil, .nil, .nil, .nilmap, .nilmap] := by kernel_rfl
theorem bok196 : (tyok Try.prog 196 && isAggZ (zav Try.prog 196) && List.all [(0, 22), (1, 22), (2, 23), (3, 193), (4, 194)] (fun f => decide (0 < sz Try.prog f.2))) = true := by kernel_rfl
theorem szs196 : List.map (fun (f : Nat × TypeId) => sz Try.prog f.2) [(0, 22), (1, 22), (2, 23), (3, 193), (4, 194)] = [1, 1, 1, 1, 1] := by kernel_rfl
theorem td199 : td Try.prog 199 = .map 3 3 := by kernel_rfl
theorem sz199 : sz Try.prog 199 = 1 := by kernel_rfl
theorem ag199 : isAggT Try.prog 199 = false := by kernel_rfl
theorem zav199 : zav Try.prog 199 = .nilmap := by kernel_rfl
theorem ok199 : tyok Try.prog 199 = true := by kernel_rfl
theorem sz200 : sz Try.prog 200 = 1 := by kernel_rfl
theorem ag200 : isAggT Try.prog 200 = false := by kernel_rfl
theorem zav200 : zav Try.prog 200 = .nilf := by kernel_rfl
theorem ok200 : tyok Try.prog 200 = true := by kernel_rfl
theorem td203 : td Try.prog 203 = .map 3 4 := by kernel_rfl
theorem sz203 : sz Try.prog 203 = 1 := by kernel_rfl
theorem ag203 : isAggT Try.prog 203 = false := by kernel_rfl
theorem zav203 : zav Try.prog 203 = .nilmap := by kernel_rfl
theorem ok203 : tyok Try.prog 203 = true := by kernel_rfl
theorem ksh3 : kshape Try.prog 3 = some (.one .i64) := by kernel_rfl
theorem ksh94 : kshape Try.prog 94 = some (.many [.i64, .i64]) := by kernel_rfl
theorem ksh134 : kshape Try.prog 134 = some (.many [.i64, .i64, .i64]) := by kernel_rfl
theorem ksh192 : kshape Try.prog 192 = some (.many [.i64, .i64, .i64]) := by kernel_rfl
end Go.Proofs.Ytllegjdggcmgaaa
