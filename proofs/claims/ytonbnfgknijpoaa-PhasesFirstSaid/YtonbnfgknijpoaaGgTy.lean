/- The types' table of this seat, as equations for the formulas. Conditions: none. -/
import Derived.Test.YtonbnfgknijpoaaGb
import Derived.Test.YtonbnfgknijpoaaProg
import Derived.KernelRfl
namespace Go.Proofs.Ytonbnfgknijpoaa
open Go.Gg

theorem mixed : Try.prog.follows .mixedOrders = true := by kernel_rfl
theorem td3 : td Try.prog 3 = .int .i64 := by kernel_rfl
theorem sz3 : sz Try.prog 3 = 1 := by kernel_rfl
theorem bts3 : bts Try.prog 3 = 8 := by kernel_rfl
theorem ag3 : isAggT Try.prog 3 = false := by kernel_rfl
theorem zav3 : zav Try.prog 3 = .int .i64 (0) := by kernel_rfl
theorem ok3 : tyok Try.prog 3 = true := by kernel_rfl
theorem td4 : td Try.prog 4 = .bool := by kernel_rfl
theorem sz4 : sz Try.prog 4 = 1 := by kernel_rfl
theorem bts4 : bts Try.prog 4 = 1 := by kernel_rfl
theorem ag4 : isAggT Try.prog 4 = false := by kernel_rfl
theorem zav4 : zav Try.prog 4 = .bool false := by kernel_rfl
theorem ok4 : tyok Try.prog 4 = true := by kernel_rfl
theorem td5 : td Try.prog 5 = .int .u8 := by kernel_rfl
theorem td9 : td Try.prog 9 = .str := by kernel_rfl
theorem td22 : td Try.prog 22 = .slice 27 := by kernel_rfl
theorem sz22 : sz Try.prog 22 = 1 := by kernel_rfl
theorem ag22 : isAggT Try.prog 22 = false := by kernel_rfl
theorem zav22 : zav Try.prog 22 = .nil := by kernel_rfl
theorem ok22 : tyok Try.prog 22 = true := by kernel_rfl
theorem td24 : td Try.prog 24 = .struct [(0, 22), (1, 22)] := by kernel_rfl
theorem td25 : td Try.prog 25 = .slice 173 := by kernel_rfl
theorem sz25 : sz Try.prog 25 = 1 := by kernel_rfl
theorem ag25 : isAggT Try.prog 25 = false := by kernel_rfl
theorem td27 : td Try.prog 27 = .struct [(0, 4), (1, 25), (2, 25)] := by kernel_rfl
theorem sz27 : sz Try.prog 27 = 3 := by kernel_rfl
theorem bts27 : bts Try.prog 27 = 56 := by kernel_rfl
theorem ag27 : isAggT Try.prog 27 = true := by kernel_rfl
theorem zav27 : zav Try.prog 27 = .agg [.bool false, .nil, .nil] := by kernel_rfl
theorem ok27 : tyok Try.prog 27 = true := by kernel_rfl
theorem bok27 : (tyok Try.prog 27 && isAggZ (zav Try.prog 27) && List.all [(0, 4), (1, 25), (2, 25)] (fun f => decide (0 < sz Try.prog f.2))) = true := by kernel_rfl
theorem szs27 : List.map (fun (f : Nat × TypeId) => sz Try.prog f.2) [(0, 4), (1, 25), (2, 25)] = [1, 1, 1] := by kernel_rfl
theorem td31 : td Try.prog 31 = .iface := by kernel_rfl
theorem td62 : td Try.prog 62 = .slice 72 := by kernel_rfl
theorem sz62 : sz Try.prog 62 = 1 := by kernel_rfl
theorem ag62 : isAggT Try.prog 62 = false := by kernel_rfl
theorem td63 : td Try.prog 63 = .slice 4 := by kernel_rfl
theorem sz63 : sz Try.prog 63 = 1 := by kernel_rfl
theorem ag63 : isAggT Try.prog 63 = false := by kernel_rfl
theorem td65 : td Try.prog 65 = .struct [(0, 3), (1, 3), (2, 62), (3, 63)] := by kernel_rfl
theorem sz65 : sz Try.prog 65 = 4 := by kernel_rfl
theorem ag65 : isAggT Try.prog 65 = true := by kernel_rfl
theorem zav65 : zav Try.prog 65 = .agg [.int .i64 (0), .int .i64 (0), .nil, .nil] := by kernel_rfl
theorem ok65 : tyok Try.prog 65 = true := by kernel_rfl
theorem bok65 : (tyok Try.prog 65 && isAggZ (zav Try.prog 65) && List.all [(0, 3), (1, 3), (2, 62), (3, 63)] (fun f => decide (0 < sz Try.prog f.2))) = true := by kernel_rfl
theorem szs65 : List.map (fun (f : Nat × TypeId) => sz Try.prog f.2) [(0, 3), (1, 3), (2, 62), (3, 63)] = [1, 1, 1, 1] := by kernel_rfl
theorem td68 : td Try.prog 68 = .slice 78 := by kernel_rfl
theorem sz68 : sz Try.prog 68 = 1 := by kernel_rfl
theorem ag68 : isAggT Try.prog 68 = false := by kernel_rfl
theorem td70 : td Try.prog 70 = .struct [(0, 3), (1, 68), (2, 3)] := by kernel_rfl
theorem sz70 : sz Try.prog 70 = 3 := by kernel_rfl
theorem ag70 : isAggT Try.prog 70 = true := by kernel_rfl
theorem zav70 : zav Try.prog 70 = .agg [.int .i64 (0), .nil, .int .i64 (0)] := by kernel_rfl
theorem ok70 : tyok Try.prog 70 = true := by kernel_rfl
theorem bok70 : (tyok Try.prog 70 && isAggZ (zav Try.prog 70) && List.all [(0, 3), (1, 68), (2, 3)] (fun f => decide (0 < sz Try.prog f.2))) = true := by kernel_rfl
theorem szs70 : List.map (fun (f : Nat × TypeId) => sz Try.prog f.2) [(0, 3), (1, 68), (2, 3)] = [1, 1, 1] := by kernel_rfl
theorem td72 : td Try.prog 72 = .struct [(0, 3), (1, 3), (2, 27)] := by kernel_rfl
theorem sz72 : sz Try.prog 72 = 5 := by kernel_rfl
theorem bts72 : bts Try.prog 72 = 72 := by kernel_rfl
theorem ag72 : isAggT Try.prog 72 = true := by kernel_rfl
theorem zav72 : zav Try.prog 72 = .agg [.int .i64 (0), .int .i64 (0), .bool false, .nil, .nil] := by kernel_rfl
theorem ok72 : tyok Try.prog 72 = true := by kernel_rfl
theorem bok72 : (tyok Try.prog 72 && isAggZ (zav Try.prog 72) && List.all [(0, 3), (1, 3), (2, 27)] (fun f => decide (0 < sz Try.prog f.2))) = true := by kernel_rfl
theorem szs72 : List.map (fun (f : Nat × TypeId) => sz Try.prog f.2) [(0, 3), (1, 3), (2, 27)] = [1, 1, 3] := by kernel_rfl
theorem td76 : td Try.prog 76 = .slice 3 := by kernel_rfl
theorem sz76 : sz Try.prog 76 = 1 := by kernel_rfl
theorem bts76 : bts Try.prog 76 = 24 := by kernel_rfl
theorem ag76 : isAggT Try.prog 76 = false := by kernel_rfl
theorem zav76 : zav Try.prog 76 = .nil := by kernel_rfl
theorem ok76 : tyok Try.prog 76 = true := by kernel_rfl
theorem td78 : td Try.prog 78 = .struct [(0, 3), (1, 3), (2, 76)] := by kernel_rfl
theorem sz78 : sz Try.prog 78 = 3 := by kernel_rfl
theorem bts78 : bts Try.prog 78 = 40 := by kernel_rfl
theorem ag78 : isAggT Try.prog 78 = true := by kernel_rfl
theorem zav78 : zav Try.prog 78 = .agg [.int .i64 (0), .int .i64 (0), .nil] := by kernel_rfl
theorem ok78 : tyok Try.prog 78 = true := by kernel_rfl
theorem bok78 : (tyok Try.prog 78 && isAggZ (zav Try.prog 78) && List.all [(0, 3), (1, 3), (2, 76)] (fun f => decide (0 < sz Try.prog f.2))) = true := by kernel_rfl
theorem szs78 : List.map (fun (f : Nat × TypeId) => sz Try.prog f.2) [(0, 3), (1, 3), (2, 76)] = [1, 1, 1] := by kernel_rfl
theorem td80 : td Try.prog 80 = .array 2 27 := by kernel_rfl
theorem zav80 : zav Try.prog 80 = .agg [.bool false, .nil, .nil, .bool false, .nil, .nil] := by kernel_rfl
theorem ok80 : tyok Try.prog 80 = true := by kernel_rfl
theorem td91 : td Try.prog 91 = .slice 70 := by kernel_rfl
theorem sz91 : sz Try.prog 91 = 1 := by kernel_rfl
theorem ag91 : isAggT Try.prog 91 = false := by kernel_rfl
theorem td92 : td Try.prog 92 = .slice 22 := by kernel_rfl
theorem sz92 : sz Try.prog 92 = 1 := by kernel_rfl
theorem ag92 : isAggT Try.prog 92 = false := by kernel_rfl
theorem td94 : td Try.prog 94 = .struct [(0, 91), (1, 92)] := by kernel_rfl
theorem sz94 : sz Try.prog 94 = 2 := by kernel_rfl
theorem ag94 : isAggT Try.prog 94 = true := by kernel_rfl
theorem zav94 : zav Try.prog 94 = .agg [.nil, .nil] := by kernel_rfl
theorem ok94 : tyok Try.prog 94 = true := by kernel_rfl
theorem bok94 : (tyok Try.prog 94 && isAggZ (zav Try.prog 94) && List.all [(0, 91), (1, 92)] (fun f => decide (0 < sz Try.prog f.2))) = true := by kernel_rfl
theorem szs94 : List.map (fun (f : Nat × TypeId) => sz Try.prog f.2) [(0, 91), (1, 92)] = [1, 1] := by kernel_rfl
theorem td107 : td Try.prog 107 = .int .i64 := by kernel_rfl
theorem zav107 : zav Try.prog 107 = .int .i64 (0) := by kernel_rfl
theorem ok107 : tyok Try.prog 107 = true := by kernel_rfl
theorem td111 : td Try.prog 111 = .slice 76 := by kernel_rfl
theorem sz111 : sz Try.prog 111 = 1 := by kernel_rfl
theorem ag111 : isAggT Try.prog 111 = false := by kernel_rfl
theorem zav111 : zav Try.prog 111 = .nil := by kernel_rfl
theorem ok111 : tyok Try.prog 111 = true := by kernel_rfl
theorem td116 : td Try.prog 116 = .struct [(0, 3), (1, 76), (2, 22)] := by kernel_rfl
theorem sz116 : sz Try.prog 116 = 3 := by kernel_rfl
theorem ag116 : isAggT Try.prog 116 = true := by kernel_rfl
theorem zav116 : zav Try.prog 116 = .agg [.int .i64 (0), .nil, .nil] := by kernel_rfl
theorem ok116 : tyok Try.prog 116 = true := by kernel_rfl
theorem bok116 : (tyok Try.prog 116 && isAggZ (zav Try.prog 116) && List.all [(0, 3), (1, 76), (2, 22)] (fun f => decide (0 < sz Try.prog f.2))) = true := by kernel_rfl
theorem szs116 : List.map (fun (f : Nat × TypeId) => sz Try.prog f.2) [(0, 3), (1, 76), (2, 22)] = [1, 1, 1] := by kernel_rfl
theorem td117 : td Try.prog 117 = .slice 116 := by kernel_rfl
theorem td167 : td Try.prog 167 = .slice 171 := by kernel_rfl
theorem td171 : td Try.prog 171 = .struct [(0, 27), (3, 76)] := by kernel_rfl
theorem sz171 : sz Try.prog 171 = 4 := by kernel_rfl
theorem bts171 : bts Try.prog 171 = 80 := by kernel_rfl
theorem zav171 : zav Try.prog 171 = .agg [.bool false, .nil, .nil, .nil] := by kernel_rfl
theorem ok171 : tyok Try.prog 171 = true := by kernel_rfl
theorem bok171 : (tyok Try.prog 171 && isAggZ (zav Try.prog 171) && List.all [(0, 27), (3, 76)] (fun f => decide (0 < sz Try.prog f.2))) = true := by kernel_rfl
theorem szs171 : List.map (fun (f : Nat × TypeId) => sz Try.prog f.2) [(0, 27), (3, 76)] = [3, 1] := by kernel_rfl
theorem td173 : td Try.prog 173 = .int .u32 := by kernel_rfl
theorem sz173 : sz Try.prog 173 = 1 := by kernel_rfl
theorem bts173 : bts Try.prog 173 = 4 := by kernel_rfl
theorem ag173 : isAggT Try.prog 173 = false := by kernel_rfl
theorem zav173 : zav Try.prog 173 = .int .u32 (0) := by kernel_rfl
theorem ok173 : tyok Try.prog 173 = true := by kernel_rfl
theorem td179 : td Try.prog 179 = .int .u64 := by kernel_rfl
end Go.Proofs.Ytonbnfgknijpoaa
