/- The types' table of this seat, as equations for the formulas. Conditions: none. -/
import Derived.Test.YtiamkdpljeemkaaGb
import Derived.Test.YtiamkdpljeemkaaProg
import Derived.KernelRfl
/- The types' table of this seat, as equations for the formulas. Conditions: none. -/
namespace Go.Proofs.Ytiamkdpljeemkaa
open Go.Gg
theorem mixed : Try.prog.follows .mixedOrders = true := by kernel_rfl
theorem sz3 : sz Try.prog 3 = 1 := by kernel_rfl
theorem bts3 : bts Try.prog 3 = 8 := by kernel_rfl
theorem ag3 : isAggT Try.prog 3 = false := by kernel_rfl
theorem zav3 : zav Try.prog 3 = .int .i64 (0) := by kernel_rfl
theorem ok3 : tyok Try.prog 3 = true := by kernel_rfl
theorem sz4 : sz Try.prog 4 = 1 := by kernel_rfl
theorem bts4 : bts Try.prog 4 = 1 := by kernel_rfl
theorem ag4 : isAggT Try.prog 4 = false := by kernel_rfl
theorem zav4 : zav Try.prog 4 = .bool false := by kernel_rfl
theorem ok4 : tyok Try.prog 4 = true := by kernel_rfl
theorem td22 : td Try.prog 22 = .slice 105 := by kernel_rfl
theorem sz22 : sz Try.prog 22 = 1 := by kernel_rfl
theorem ag22 : isAggT Try.prog 22 = false := by kernel_rfl
theorem td24 : td Try.prog 24 = .struct [(0, 3), (1, 22), (2, 3)] := by kernel_rfl
theorem sz24 : sz Try.prog 24 = 3 := by kernel_rfl
theorem ag24 : isAggT Try.prog 24 = true := by kernel_rfl
theorem zav24 : zav Try.prog 24 = .agg [.int .i64 (0), .nil, .int .i64 (0)] := by kernel_rfl
theorem ok24 : tyok Try.prog 24 = true := by kernel_rfl
theorem bok24 : (tyok Try.prog 24 && isAggZ (zav Try.prog 24) && List.all [(0, 3), (1, 22), (2, 3)] (fun f => decide (0 < sz Try.prog f.2))) = true := by kernel_rfl
theorem szs24 : List.map (fun (f : Nat × TypeId) => sz Try.prog f.2) [(0, 3), (1, 22), (2, 3)] = [1, 1, 1] := by kernel_rfl
theorem td25 : td Try.prog 25 = .slice 3 := by kernel_rfl
theorem sz25 : sz Try.prog 25 = 1 := by kernel_rfl
theorem ag25 : isAggT Try.prog 25 = false := by kernel_rfl
theorem zav25 : zav Try.prog 25 = .nil := by kernel_rfl
theorem ok25 : tyok Try.prog 25 = true := by kernel_rfl
theorem td28 : td Try.prog 28 = .slice 97 := by kernel_rfl
theorem sz28 : sz Try.prog 28 = 1 := by kernel_rfl
theorem ag28 : isAggT Try.prog 28 = false := by kernel_rfl
theorem td30 : td Try.prog 30 = .struct [(0, 25), (1, 28), (2, 3)] := by kernel_rfl
theorem sz30 : sz Try.prog 30 = 3 := by kernel_rfl
theorem ag30 : isAggT Try.prog 30 = true := by kernel_rfl
theorem zav30 : zav Try.prog 30 = .agg [.nil, .nil, .int .i64 (0)] := by kernel_rfl
theorem ok30 : tyok Try.prog 30 = true := by kernel_rfl
theorem bok30 : (tyok Try.prog 30 && isAggZ (zav Try.prog 30) && List.all [(0, 25), (1, 28), (2, 3)] (fun f => decide (0 < sz Try.prog f.2))) = true := by kernel_rfl
theorem szs30 : List.map (fun (f : Nat × TypeId) => sz Try.prog f.2) [(0, 25), (1, 28), (2, 3)] = [1, 1, 1] := by kernel_rfl
theorem td32 : td Try.prog 32 = .iface := by kernel_rfl
theorem td73 : td Try.prog 73 = .int .i64 := by kernel_rfl
theorem td97 : td Try.prog 97 = .struct [(0, 3), (1, 3), (2, 3)] := by kernel_rfl
theorem sz97 : sz Try.prog 97 = 3 := by kernel_rfl
theorem bts97 : bts Try.prog 97 = 24 := by kernel_rfl
theorem ag97 : isAggT Try.prog 97 = true := by kernel_rfl
theorem zav97 : zav Try.prog 97 = .agg [.int .i64 (0), .int .i64 (0), .int .i64 (0)] := by kernel_rfl
theorem ok97 : tyok Try.prog 97 = true := by kernel_rfl
theorem bok97 : (tyok Try.prog 97 && isAggZ (zav Try.prog 97) && List.all [(0, 3), (1, 3), (2, 3)] (fun f => decide (0 < sz Try.prog f.2))) = true := by kernel_rfl
theorem szs97 : List.map (fun (f : Nat × TypeId) => sz Try.prog f.2) [(0, 3), (1, 3), (2, 3)] = [1, 1, 1] := by kernel_rfl
theorem sz101 : sz Try.prog 101 = 1 := by kernel_rfl
theorem ag101 : isAggT Try.prog 101 = false := by kernel_rfl
theorem sz103 : sz Try.prog 103 = 1 := by kernel_rfl
theorem ag103 : isAggT Try.prog 103 = false := by kernel_rfl
theorem zav103 : zav Try.prog 103 = .nilf := by kernel_rfl
theorem ok103 : tyok Try.prog 103 = true := by kernel_rfl
theorem td105 : td Try.prog 105 = .struct [(0, 3), (1, 3), (2, 25)] := by kernel_rfl
theorem sz105 : sz Try.prog 105 = 3 := by kernel_rfl
theorem bts105 : bts Try.prog 105 = 40 := by kernel_rfl
theorem ag105 : isAggT Try.prog 105 = true := by kernel_rfl
theorem zav105 : zav Try.prog 105 = .agg [.int .i64 (0), .int .i64 (0), .nil] := by kernel_rfl
theorem ok105 : tyok Try.prog 105 = true := by kernel_rfl
theorem bok105 : (tyok Try.prog 105 && isAggZ (zav Try.prog 105) && List.all [(0, 3), (1, 3), (2, 25)] (fun f => decide (0 < sz Try.prog f.2))) = true := by kernel_rfl
theorem szs105 : List.map (fun (f : Nat × TypeId) => sz Try.prog f.2) [(0, 3), (1, 3), (2, 25)] = [1, 1, 1] := by kernel_rfl
theorem td110 : td Try.prog 110 = .slice 4 := by kernel_rfl
theorem sz110 : sz Try.prog 110 = 1 := by kernel_rfl
theorem ag110 : isAggT Try.prog 110 = false := by kernel_rfl
theorem zav110 : zav Try.prog 110 = .nil := by kernel_rfl
theorem ok110 : tyok Try.prog 110 = true := by kernel_rfl
theorem td113 : td Try.prog 113 = .map 97 4 := by kernel_rfl
theorem td150 : td Try.prog 150 = .map 97 3 := by kernel_rfl
theorem sz150 : sz Try.prog 150 = 1 := by kernel_rfl
theorem ag150 : isAggT Try.prog 150 = false := by kernel_rfl
theorem td151 : td Try.prog 151 = .map 193 3 := by kernel_rfl
theorem sz151 : sz Try.prog 151 = 1 := by kernel_rfl
theorem ag151 : isAggT Try.prog 151 = false := by kernel_rfl
theorem td153 : td Try.prog 153 = .struct [(0, 25), (1, 25), (2, 28), (3, 150), (4, 151)] := by kernel_rfl
theorem sz153 : sz Try.prog 153 = 5 := by kernel_rfl
theorem zav153 : zav Try.prog 153 = .agg [.nil, .nil, .nil, .nilmap, .nilmap] := by kernel_rfl
theorem bok153 : (tyok Try.prog 153 && isAggZ (zav Try.prog 153) && List.all [(0, 25), (1, 25), (2, 28), (3, 150), (4, 151)] (fun f => decide (0 < sz Try.prog f.2))) = true := by kernel_rfl
theorem szs153 : List.map (fun (f : Nat × TypeId) => sz Try.prog f.2) [(0, 25), (1, 25), (2, 28), (3, 150), (4, 151)] = [1, 1, 1, 1, 1] := by kernel_rfl
theorem td156 : td Try.prog 156 = .map 3 4 := by kernel_rfl
theorem sz156 : sz Try.prog 156 = 1 := by kernel_rfl
theorem ag156 : isAggT Try.prog 156 = false := by kernel_rfl
theorem zav156 : zav Try.prog 156 = .nilmap := by kernel_rfl
theorem ok156 : tyok Try.prog 156 = true := by kernel_rfl
theorem sz157 : sz Try.prog 157 = 1 := by kernel_rfl
theorem ag157 : isAggT Try.prog 157 = false := by kernel_rfl
theorem zav157 : zav Try.prog 157 = .nilf := by kernel_rfl
theorem ok157 : tyok Try.prog 157 = true := by kernel_rfl
theorem td158 : td Try.prog 158 = .map 3 3 := by kernel_rfl
theorem sz158 : sz Try.prog 158 = 1 := by kernel_rfl
theorem ag158 : isAggT Try.prog 158 = false := by kernel_rfl
theorem zav158 : zav Try.prog 158 = .nilmap := by kernel_rfl
theorem ok158 : tyok Try.prog 158 = true := by kernel_rfl
theorem td193 : td Try.prog 193 = .array 3 3 := by kernel_rfl
theorem sz193 : sz Try.prog 193 = 3 := by kernel_rfl
theorem ag193 : isAggT Try.prog 193 = true := by kernel_rfl
theorem zav193 : zav Try.prog 193 = .agg [.int .i64 (0), .int .i64 (0), .int .i64 (0)] := by kernel_rfl
theorem ok193 : tyok Try.prog 193 = true := by kernel_rfl
theorem ksh3 : kshape Try.prog 3 = some (.one .i64) := by kernel_rfl
theorem ksh97 : kshape Try.prog 97 = some (.many [.i64, .i64, .i64]) := by kernel_rfl
theorem ksh193 : kshape Try.prog 193 = some (.many [.i64, .i64, .i64]) := by kernel_rfl
end Go.Proofs.Ytiamkdpljeemkaa
