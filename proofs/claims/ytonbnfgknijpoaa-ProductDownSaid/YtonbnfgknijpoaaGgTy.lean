/- The types' table of this seat, as equations for the formulas. Conditions: none. -/
import Derived.Test.YtonbnfgknijpoaaGb
import Derived.Test.YtonbnfgknijpoaaProg
import Derived.KernelRfl
namespace Go.Proofs.Ytonbnfgknijpoaa
open Go.Gg

theorem mixed : Try.prog.follows .mixedOrders = true := by kernel_rfl
theorem td1 : td Try.prog 1 = .func := by kernel_rfl
theorem zav1 : zav Try.prog 1 = .nilf := by kernel_rfl
theorem ok1 : tyok Try.prog 1 = true := by kernel_rfl
theorem td2 : td Try.prog 2 = .int .i64 := by kernel_rfl
theorem sz2 : sz Try.prog 2 = 1 := by kernel_rfl
theorem bts2 : bts Try.prog 2 = 8 := by kernel_rfl
theorem ag2 : isAggT Try.prog 2 = false := by kernel_rfl
theorem zav2 : zav Try.prog 2 = .int .i64 (0) := by kernel_rfl
theorem ok2 : tyok Try.prog 2 = true := by kernel_rfl
theorem td3 : td Try.prog 3 = .int .i64 := by kernel_rfl
theorem sz3 : sz Try.prog 3 = 1 := by kernel_rfl
theorem bts3 : bts Try.prog 3 = 8 := by kernel_rfl
theorem ag3 : isAggT Try.prog 3 = false := by kernel_rfl
theorem zav3 : zav Try.prog 3 = .int .i64 (0) := by kernel_rfl
theorem ok3 : tyok Try.prog 3 = true := by kernel_rfl
theorem td4 : td Try.prog 4 = .bool := by kernel_rfl
theorem sz4 : sz Try.prog 4 = 1 := by kernel_rfl
theorem bts4 : bts Try.prog 4 = 1 := by kernel_rfl
theorem ag4 : isAggT Try.prog 4 = false := by kernel_rfl
theorem zav4 : zav Try.prog 4 = .bool false := by kernel_rfl
theorem ok4 : tyok Try.prog 4 = true := by kernel_rfl
theorem td5 : td Try.prog 5 = .int .u8 := by kernel_rfl
theorem sz5 : sz Try.prog 5 = 1 := by kernel_rfl
theorem bts5 : bts Try.prog 5 = 1 := by kernel_rfl
theorem ag5 : isAggT Try.prog 5 = false := by kernel_rfl
theorem zav5 : zav Try.prog 5 = .int .u8 (0) := by kernel_rfl
theorem ok5 : tyok Try.prog 5 = true := by kernel_rfl
theorem td6 : td Try.prog 6 = .int .u8 := by kernel_rfl
theorem sz6 : sz Try.prog 6 = 1 := by kernel_rfl
theorem bts6 : bts Try.prog 6 = 1 := by kernel_rfl
theorem ag6 : isAggT Try.prog 6 = false := by kernel_rfl
theorem zav6 : zav Try.prog 6 = .int .u8 (0) := by kernel_rfl
theorem ok6 : tyok Try.prog 6 = true := by kernel_rfl
theorem td7 : td Try.prog 7 = .struct [(0, 2), (1, 3), (2, 4), (3, 6)] := by kernel_rfl
theorem sz7 : sz Try.prog 7 = 4 := by kernel_rfl
theorem bts7 : bts Try.prog 7 = 24 := by kernel_rfl
theorem ag7 : isAggT Try.prog 7 = true := by kernel_rfl
theorem zav7 : zav Try.prog 7 = .agg [.int .i64 (0), .int .i64 (0), .bool false, .int .u8 (0)] := by kernel_rfl
theorem ok7 : tyok Try.prog 7 = true := by kernel_rfl
theorem bok7 : (tyok Try.prog 7 && isAggZ (zav Try.prog 7) && List.all [(0, 2), (1, 3), (2, 4), (3, 6)] (fun f => decide (0 < sz Try.prog f.2))) = true := by kernel_rfl
theorem szs7 : List.map (fun (f : Nat × TypeId) => sz Try.prog f.2) [(0, 2), (1, 3), (2, 4), (3, 6)] = [1, 1, 1, 1] := by kernel_rfl
theorem td8 : td Try.prog 8 = .struct [(0, 2), (1, 3), (2, 4), (3, 6)] := by kernel_rfl
theorem sz8 : sz Try.prog 8 = 4 := by kernel_rfl
theorem bts8 : bts Try.prog 8 = 24 := by kernel_rfl
theorem ag8 : isAggT Try.prog 8 = true := by kernel_rfl
theorem zav8 : zav Try.prog 8 = .agg [.int .i64 (0), .int .i64 (0), .bool false, .int .u8 (0)] := by kernel_rfl
theorem ok8 : tyok Try.prog 8 = true := by kernel_rfl
theorem bok8 : (tyok Try.prog 8 && isAggZ (zav Try.prog 8) && List.all [(0, 2), (1, 3), (2, 4), (3, 6)] (fun f => decide (0 < sz Try.prog f.2))) = true := by kernel_rfl
theorem szs8 : List.map (fun (f : Nat × TypeId) => sz Try.prog f.2) [(0, 2), (1, 3), (2, 4), (3, 6)] = [1, 1, 1, 1] := by kernel_rfl
theorem td9 : td Try.prog 9 = .str := by kernel_rfl
theorem sz9 : sz Try.prog 9 = 1 := by kernel_rfl
theorem bts9 : bts Try.prog 9 = 16 := by kernel_rfl
theorem ag9 : isAggT Try.prog 9 = false := by kernel_rfl
theorem td10 : td Try.prog 10 = .str := by kernel_rfl
theorem sz10 : sz Try.prog 10 = 1 := by kernel_rfl
theorem bts10 : bts Try.prog 10 = 16 := by kernel_rfl
theorem ag10 : isAggT Try.prog 10 = false := by kernel_rfl
theorem td11 : td Try.prog 11 = .str := by kernel_rfl
theorem sz11 : sz Try.prog 11 = 1 := by kernel_rfl
theorem bts11 : bts Try.prog 11 = 16 := by kernel_rfl
theorem ag11 : isAggT Try.prog 11 = false := by kernel_rfl
theorem td12 : td Try.prog 12 = .int .u64 := by kernel_rfl
theorem sz12 : sz Try.prog 12 = 1 := by kernel_rfl
theorem bts12 : bts Try.prog 12 = 8 := by kernel_rfl
theorem ag12 : isAggT Try.prog 12 = false := by kernel_rfl
theorem zav12 : zav Try.prog 12 = .int .u64 (0) := by kernel_rfl
theorem ok12 : tyok Try.prog 12 = true := by kernel_rfl
theorem td13 : td Try.prog 13 = .struct [(0, 9), (1, 12)] := by kernel_rfl
theorem sz13 : sz Try.prog 13 = 2 := by kernel_rfl
theorem bts13 : bts Try.prog 13 = 24 := by kernel_rfl
theorem ag13 : isAggT Try.prog 13 = true := by kernel_rfl
theorem td14 : td Try.prog 14 = .struct [(0, 9), (1, 12)] := by kernel_rfl
theorem sz14 : sz Try.prog 14 = 2 := by kernel_rfl
theorem bts14 : bts Try.prog 14 = 24 := by kernel_rfl
theorem ag14 : isAggT Try.prog 14 = true := by kernel_rfl
theorem td15 : td Try.prog 15 = .ptr := by kernel_rfl
theorem sz15 : sz Try.prog 15 = 1 := by kernel_rfl
theorem bts15 : bts Try.prog 15 = 8 := by kernel_rfl
theorem ag15 : isAggT Try.prog 15 = false := by kernel_rfl
theorem zav15 : zav Try.prog 15 = .nilp := by kernel_rfl
theorem ok15 : tyok Try.prog 15 = true := by kernel_rfl
theorem td16 : td Try.prog 16 = .ptr := by kernel_rfl
theorem sz16 : sz Try.prog 16 = 1 := by kernel_rfl
theorem bts16 : bts Try.prog 16 = 8 := by kernel_rfl
theorem ag16 : isAggT Try.prog 16 = false := by kernel_rfl
theorem zav16 : zav Try.prog 16 = .nilp := by kernel_rfl
theorem ok16 : tyok Try.prog 16 = true := by kernel_rfl
theorem td17 : td Try.prog 17 = .ptr := by kernel_rfl
theorem sz17 : sz Try.prog 17 = 1 := by kernel_rfl
theorem bts17 : bts Try.prog 17 = 8 := by kernel_rfl
theorem ag17 : isAggT Try.prog 17 = false := by kernel_rfl
theorem zav17 : zav Try.prog 17 = .nilp := by kernel_rfl
theorem ok17 : tyok Try.prog 17 = true := by kernel_rfl
theorem td18 : td Try.prog 18 = .struct [(0, 17)] := by kernel_rfl
theorem sz18 : sz Try.prog 18 = 1 := by kernel_rfl
theorem bts18 : bts Try.prog 18 = 8 := by kernel_rfl
theorem ag18 : isAggT Try.prog 18 = true := by kernel_rfl
theorem zav18 : zav Try.prog 18 = .agg [.nilp] := by kernel_rfl
theorem ok18 : tyok Try.prog 18 = true := by kernel_rfl
theorem bok18 : (tyok Try.prog 18 && isAggZ (zav Try.prog 18) && List.all [(0, 17)] (fun f => decide (0 < sz Try.prog f.2))) = true := by kernel_rfl
theorem szs18 : List.map (fun (f : Nat × TypeId) => sz Try.prog f.2) [(0, 17)] = [1] := by kernel_rfl
theorem td19 : td Try.prog 19 = .struct [(0, 17)] := by kernel_rfl
theorem sz19 : sz Try.prog 19 = 1 := by kernel_rfl
theorem bts19 : bts Try.prog 19 = 8 := by kernel_rfl
theorem ag19 : isAggT Try.prog 19 = true := by kernel_rfl
theorem zav19 : zav Try.prog 19 = .agg [.nilp] := by kernel_rfl
theorem ok19 : tyok Try.prog 19 = true := by kernel_rfl
theorem bok19 : (tyok Try.prog 19 && isAggZ (zav Try.prog 19) && List.all [(0, 17)] (fun f => decide (0 < sz Try.prog f.2))) = true := by kernel_rfl
theorem szs19 : List.map (fun (f : Nat × TypeId) => sz Try.prog f.2) [(0, 17)] = [1] := by kernel_rfl
theorem td20 : td Try.prog 20 = .iface := by kernel_rfl
theorem sz20 : sz Try.prog 20 = 1 := by kernel_rfl
theorem bts20 : bts Try.prog 20 = 16 := by kernel_rfl
theorem ag20 : isAggT Try.prog 20 = false := by kernel_rfl
theorem zav20 : zav Try.prog 20 = .niface := by kernel_rfl
theorem ok20 : tyok Try.prog 20 = true := by kernel_rfl
theorem td21 : td Try.prog 21 = .int .i32 := by kernel_rfl
theorem sz21 : sz Try.prog 21 = 1 := by kernel_rfl
theorem bts21 : bts Try.prog 21 = 4 := by kernel_rfl
theorem ag21 : isAggT Try.prog 21 = false := by kernel_rfl
theorem zav21 : zav Try.prog 21 = .int .i32 (0) := by kernel_rfl
theorem ok21 : tyok Try.prog 21 = true := by kernel_rfl
theorem td22 : td Try.prog 22 = .slice 27 := by kernel_rfl
theorem sz22 : sz Try.prog 22 = 1 := by kernel_rfl
theorem bts22 : bts Try.prog 22 = 24 := by kernel_rfl
theorem ag22 : isAggT Try.prog 22 = false := by kernel_rfl
theorem zav22 : zav Try.prog 22 = .nil := by kernel_rfl
theorem ok22 : tyok Try.prog 22 = true := by kernel_rfl
theorem td23 : td Try.prog 23 = .struct [(0, 22), (1, 22)] := by kernel_rfl
theorem sz23 : sz Try.prog 23 = 2 := by kernel_rfl
theorem bts23 : bts Try.prog 23 = 48 := by kernel_rfl
theorem ag23 : isAggT Try.prog 23 = true := by kernel_rfl
theorem zav23 : zav Try.prog 23 = .agg [.nil, .nil] := by kernel_rfl
theorem ok23 : tyok Try.prog 23 = true := by kernel_rfl
theorem bok23 : (tyok Try.prog 23 && isAggZ (zav Try.prog 23) && List.all [(0, 22), (1, 22)] (fun f => decide (0 < sz Try.prog f.2))) = true := by kernel_rfl
theorem szs23 : List.map (fun (f : Nat × TypeId) => sz Try.prog f.2) [(0, 22), (1, 22)] = [1, 1] := by kernel_rfl
theorem td24 : td Try.prog 24 = .struct [(0, 22), (1, 22)] := by kernel_rfl
theorem sz24 : sz Try.prog 24 = 2 := by kernel_rfl
theorem bts24 : bts Try.prog 24 = 48 := by kernel_rfl
theorem ag24 : isAggT Try.prog 24 = true := by kernel_rfl
theorem zav24 : zav Try.prog 24 = .agg [.nil, .nil] := by kernel_rfl
theorem ok24 : tyok Try.prog 24 = true := by kernel_rfl
theorem bok24 : (tyok Try.prog 24 && isAggZ (zav Try.prog 24) && List.all [(0, 22), (1, 22)] (fun f => decide (0 < sz Try.prog f.2))) = true := by kernel_rfl
theorem szs24 : List.map (fun (f : Nat × TypeId) => sz Try.prog f.2) [(0, 22), (1, 22)] = [1, 1] := by kernel_rfl
theorem td25 : td Try.prog 25 = .slice 173 := by kernel_rfl
theorem sz25 : sz Try.prog 25 = 1 := by kernel_rfl
theorem bts25 : bts Try.prog 25 = 24 := by kernel_rfl
theorem ag25 : isAggT Try.prog 25 = false := by kernel_rfl
theorem zav25 : zav Try.prog 25 = .nil := by kernel_rfl
theorem ok25 : tyok Try.prog 25 = true := by kernel_rfl
theorem td26 : td Try.prog 26 = .struct [(0, 4), (1, 25), (2, 25)] := by kernel_rfl
theorem sz26 : sz Try.prog 26 = 3 := by kernel_rfl
theorem bts26 : bts Try.prog 26 = 56 := by kernel_rfl
theorem ag26 : isAggT Try.prog 26 = true := by kernel_rfl
theorem zav26 : zav Try.prog 26 = .agg [.bool false, .nil, .nil] := by kernel_rfl
theorem ok26 : tyok Try.prog 26 = true := by kernel_rfl
theorem bok26 : (tyok Try.prog 26 && isAggZ (zav Try.prog 26) && List.all [(0, 4), (1, 25), (2, 25)] (fun f => decide (0 < sz Try.prog f.2))) = true := by kernel_rfl
theorem szs26 : List.map (fun (f : Nat × TypeId) => sz Try.prog f.2) [(0, 4), (1, 25), (2, 25)] = [1, 1, 1] := by kernel_rfl
theorem td27 : td Try.prog 27 = .struct [(0, 4), (1, 25), (2, 25)] := by kernel_rfl
theorem sz27 : sz Try.prog 27 = 3 := by kernel_rfl
theorem bts27 : bts Try.prog 27 = 56 := by kernel_rfl
theorem ag27 : isAggT Try.prog 27 = true := by kernel_rfl
theorem zav27 : zav Try.prog 27 = .agg [.bool false, .nil, .nil] := by kernel_rfl
theorem ok27 : tyok Try.prog 27 = true := by kernel_rfl
theorem bok27 : (tyok Try.prog 27 && isAggZ (zav Try.prog 27) && List.all [(0, 4), (1, 25), (2, 25)] (fun f => decide (0 < sz Try.prog f.2))) = true := by kernel_rfl
theorem szs27 : List.map (fun (f : Nat × TypeId) => sz Try.prog f.2) [(0, 4), (1, 25), (2, 25)] = [1, 1, 1] := by kernel_rfl
theorem td28 : td Try.prog 28 = .func := by kernel_rfl
theorem zav28 : zav Try.prog 28 = .nilf := by kernel_rfl
theorem ok28 : tyok Try.prog 28 = true := by kernel_rfl
theorem td29 : td Try.prog 29 = .func := by kernel_rfl
theorem zav29 : zav Try.prog 29 = .nilf := by kernel_rfl
theorem ok29 : tyok Try.prog 29 = true := by kernel_rfl
theorem td30 : td Try.prog 30 = .iface := by kernel_rfl
theorem sz30 : sz Try.prog 30 = 1 := by kernel_rfl
theorem bts30 : bts Try.prog 30 = 16 := by kernel_rfl
theorem ag30 : isAggT Try.prog 30 = false := by kernel_rfl
theorem zav30 : zav Try.prog 30 = .niface := by kernel_rfl
theorem ok30 : tyok Try.prog 30 = true := by kernel_rfl
theorem td31 : td Try.prog 31 = .iface := by kernel_rfl
theorem sz31 : sz Try.prog 31 = 1 := by kernel_rfl
theorem bts31 : bts Try.prog 31 = 16 := by kernel_rfl
theorem ag31 : isAggT Try.prog 31 = false := by kernel_rfl
theorem zav31 : zav Try.prog 31 = .niface := by kernel_rfl
theorem ok31 : tyok Try.prog 31 = true := by kernel_rfl
theorem td33 : td Try.prog 33 = .func := by kernel_rfl
theorem zav33 : zav Try.prog 33 = .nilf := by kernel_rfl
theorem ok33 : tyok Try.prog 33 = true := by kernel_rfl
theorem td35 : td Try.prog 35 = .func := by kernel_rfl
theorem zav35 : zav Try.prog 35 = .nilf := by kernel_rfl
theorem ok35 : tyok Try.prog 35 = true := by kernel_rfl
theorem td37 : td Try.prog 37 = .func := by kernel_rfl
theorem zav37 : zav Try.prog 37 = .nilf := by kernel_rfl
theorem ok37 : tyok Try.prog 37 = true := by kernel_rfl
theorem td39 : td Try.prog 39 = .func := by kernel_rfl
theorem zav39 : zav Try.prog 39 = .nilf := by kernel_rfl
theorem ok39 : tyok Try.prog 39 = true := by kernel_rfl
theorem td40 : td Try.prog 40 = .func := by kernel_rfl
theorem zav40 : zav Try.prog 40 = .nilf := by kernel_rfl
theorem ok40 : tyok Try.prog 40 = true := by kernel_rfl
theorem td41 : td Try.prog 41 = .func := by kernel_rfl
theorem zav41 : zav Try.prog 41 = .nilf := by kernel_rfl
theorem ok41 : tyok Try.prog 41 = true := by kernel_rfl
theorem td42 : td Try.prog 42 = .func := by kernel_rfl
theorem zav42 : zav Try.prog 42 = .nilf := by kernel_rfl
theorem ok42 : tyok Try.prog 42 = true := by kernel_rfl
theorem td43 : td Try.prog 43 = .func := by kernel_rfl
theorem zav43 : zav Try.prog 43 = .nilf := by kernel_rfl
theorem ok43 : tyok Try.prog 43 = true := by kernel_rfl
theorem td44 : td Try.prog 44 = .func := by kernel_rfl
theorem zav44 : zav Try.prog 44 = .nilf := by kernel_rfl
theorem ok44 : tyok Try.prog 44 = true := by kernel_rfl
theorem td45 : td Try.prog 45 = .func := by kernel_rfl
theorem zav45 : zav Try.prog 45 = .nilf := by kernel_rfl
theorem ok45 : tyok Try.prog 45 = true := by kernel_rfl
theorem td46 : td Try.prog 46 = .func := by kernel_rfl
theorem zav46 : zav Try.prog 46 = .nilf := by kernel_rfl
theorem ok46 : tyok Try.prog 46 = true := by kernel_rfl
theorem td47 : td Try.prog 47 = .func := by kernel_rfl
theorem zav47 : zav Try.prog 47 = .nilf := by kernel_rfl
theorem ok47 : tyok Try.prog 47 = true := by kernel_rfl
theorem td49 : td Try.prog 49 = .func := by kernel_rfl
theorem zav49 : zav Try.prog 49 = .nilf := by kernel_rfl
theorem ok49 : tyok Try.prog 49 = true := by kernel_rfl
theorem td50 : td Try.prog 50 = .func := by kernel_rfl
theorem zav50 : zav Try.prog 50 = .nilf := by kernel_rfl
theorem ok50 : tyok Try.prog 50 = true := by kernel_rfl
theorem td51 : td Try.prog 51 = .func := by kernel_rfl
theorem zav51 : zav Try.prog 51 = .nilf := by kernel_rfl
theorem ok51 : tyok Try.prog 51 = true := by kernel_rfl
theorem td52 : td Try.prog 52 = .func := by kernel_rfl
theorem zav52 : zav Try.prog 52 = .nilf := by kernel_rfl
theorem ok52 : tyok Try.prog 52 = true := by kernel_rfl
theorem td53 : td Try.prog 53 = .func := by kernel_rfl
theorem zav53 : zav Try.prog 53 = .nilf := by kernel_rfl
theorem ok53 : tyok Try.prog 53 = true := by kernel_rfl
theorem td54 : td Try.prog 54 = .func := by kernel_rfl
theorem zav54 : zav Try.prog 54 = .nilf := by kernel_rfl
theorem ok54 : tyok Try.prog 54 = true := by kernel_rfl
theorem td56 : td Try.prog 56 = .func := by kernel_rfl
theorem zav56 : zav Try.prog 56 = .nilf := by kernel_rfl
theorem ok56 : tyok Try.prog 56 = true := by kernel_rfl
theorem td57 : td Try.prog 57 = .func := by kernel_rfl
theorem zav57 : zav Try.prog 57 = .nilf := by kernel_rfl
theorem ok57 : tyok Try.prog 57 = true := by kernel_rfl
theorem td58 : td Try.prog 58 = .func := by kernel_rfl
theorem zav58 : zav Try.prog 58 = .nilf := by kernel_rfl
theorem ok58 : tyok Try.prog 58 = true := by kernel_rfl
theorem td59 : td Try.prog 59 = .func := by kernel_rfl
theorem zav59 : zav Try.prog 59 = .nilf := by kernel_rfl
theorem ok59 : tyok Try.prog 59 = true := by kernel_rfl
theorem td60 : td Try.prog 60 = .func := by kernel_rfl
theorem zav60 : zav Try.prog 60 = .nilf := by kernel_rfl
theorem ok60 : tyok Try.prog 60 = true := by kernel_rfl
theorem td61 : td Try.prog 61 = .func := by kernel_rfl
theorem zav61 : zav Try.prog 61 = .nilf := by kernel_rfl
theorem ok61 : tyok Try.prog 61 = true := by kernel_rfl
theorem td62 : td Try.prog 62 = .slice 72 := by kernel_rfl
theorem sz62 : sz Try.prog 62 = 1 := by kernel_rfl
theorem bts62 : bts Try.prog 62 = 24 := by kernel_rfl
theorem ag62 : isAggT Try.prog 62 = false := by kernel_rfl
theorem zav62 : zav Try.prog 62 = .nil := by kernel_rfl
theorem ok62 : tyok Try.prog 62 = true := by kernel_rfl
theorem td63 : td Try.prog 63 = .slice 4 := by kernel_rfl
theorem sz63 : sz Try.prog 63 = 1 := by kernel_rfl
theorem bts63 : bts Try.prog 63 = 24 := by kernel_rfl
theorem ag63 : isAggT Try.prog 63 = false := by kernel_rfl
theorem zav63 : zav Try.prog 63 = .nil := by kernel_rfl
theorem ok63 : tyok Try.prog 63 = true := by kernel_rfl
theorem td64 : td Try.prog 64 = .struct [(0, 3), (1, 3), (2, 62), (3, 63)] := by kernel_rfl
theorem sz64 : sz Try.prog 64 = 4 := by kernel_rfl
theorem bts64 : bts Try.prog 64 = 64 := by kernel_rfl
theorem ag64 : isAggT Try.prog 64 = true := by kernel_rfl
theorem zav64 : zav Try.prog 64 = .agg [.int .i64 (0), .int .i64 (0), .nil, .nil] := by kernel_rfl
theorem ok64 : tyok Try.prog 64 = true := by kernel_rfl
theorem bok64 : (tyok Try.prog 64 && isAggZ (zav Try.prog 64) && List.all [(0, 3), (1, 3), (2, 62), (3, 63)] (fun f => decide (0 < sz Try.prog f.2))) = true := by kernel_rfl
theorem szs64 : List.map (fun (f : Nat × TypeId) => sz Try.prog f.2) [(0, 3), (1, 3), (2, 62), (3, 63)] = [1, 1, 1, 1] := by kernel_rfl
theorem td65 : td Try.prog 65 = .struct [(0, 3), (1, 3), (2, 62), (3, 63)] := by kernel_rfl
theorem sz65 : sz Try.prog 65 = 4 := by kernel_rfl
theorem bts65 : bts Try.prog 65 = 64 := by kernel_rfl
theorem ag65 : isAggT Try.prog 65 = true := by kernel_rfl
theorem zav65 : zav Try.prog 65 = .agg [.int .i64 (0), .int .i64 (0), .nil, .nil] := by kernel_rfl
theorem ok65 : tyok Try.prog 65 = true := by kernel_rfl
theorem bok65 : (tyok Try.prog 65 && isAggZ (zav Try.prog 65) && List.all [(0, 3), (1, 3), (2, 62), (3, 63)] (fun f => decide (0 < sz Try.prog f.2))) = true := by kernel_rfl
theorem szs65 : List.map (fun (f : Nat × TypeId) => sz Try.prog f.2) [(0, 3), (1, 3), (2, 62), (3, 63)] = [1, 1, 1, 1] := by kernel_rfl
theorem td67 : td Try.prog 67 = .func := by kernel_rfl
theorem zav67 : zav Try.prog 67 = .nilf := by kernel_rfl
theorem ok67 : tyok Try.prog 67 = true := by kernel_rfl
theorem td68 : td Try.prog 68 = .slice 78 := by kernel_rfl
theorem sz68 : sz Try.prog 68 = 1 := by kernel_rfl
theorem bts68 : bts Try.prog 68 = 24 := by kernel_rfl
theorem ag68 : isAggT Try.prog 68 = false := by kernel_rfl
theorem zav68 : zav Try.prog 68 = .nil := by kernel_rfl
theorem ok68 : tyok Try.prog 68 = true := by kernel_rfl
theorem td69 : td Try.prog 69 = .struct [(0, 3), (1, 68), (2, 3)] := by kernel_rfl
theorem sz69 : sz Try.prog 69 = 3 := by kernel_rfl
theorem bts69 : bts Try.prog 69 = 40 := by kernel_rfl
theorem ag69 : isAggT Try.prog 69 = true := by kernel_rfl
theorem zav69 : zav Try.prog 69 = .agg [.int .i64 (0), .nil, .int .i64 (0)] := by kernel_rfl
theorem ok69 : tyok Try.prog 69 = true := by kernel_rfl
theorem bok69 : (tyok Try.prog 69 && isAggZ (zav Try.prog 69) && List.all [(0, 3), (1, 68), (2, 3)] (fun f => decide (0 < sz Try.prog f.2))) = true := by kernel_rfl
theorem szs69 : List.map (fun (f : Nat × TypeId) => sz Try.prog f.2) [(0, 3), (1, 68), (2, 3)] = [1, 1, 1] := by kernel_rfl
theorem td70 : td Try.prog 70 = .struct [(0, 3), (1, 68), (2, 3)] := by kernel_rfl
theorem sz70 : sz Try.prog 70 = 3 := by kernel_rfl
theorem bts70 : bts Try.prog 70 = 40 := by kernel_rfl
theorem ag70 : isAggT Try.prog 70 = true := by kernel_rfl
theorem zav70 : zav Try.prog 70 = .agg [.int .i64 (0), .nil, .int .i64 (0)] := by kernel_rfl
theorem ok70 : tyok Try.prog 70 = true := by kernel_rfl
theorem bok70 : (tyok Try.prog 70 && isAggZ (zav Try.prog 70) && List.all [(0, 3), (1, 68), (2, 3)] (fun f => decide (0 < sz Try.prog f.2))) = true := by kernel_rfl
theorem szs70 : List.map (fun (f : Nat × TypeId) => sz Try.prog f.2) [(0, 3), (1, 68), (2, 3)] = [1, 1, 1] := by kernel_rfl
theorem td71 : td Try.prog 71 = .struct [(0, 3), (1, 3), (2, 27)] := by kernel_rfl
theorem sz71 : sz Try.prog 71 = 5 := by kernel_rfl
theorem bts71 : bts Try.prog 71 = 72 := by kernel_rfl
theorem ag71 : isAggT Try.prog 71 = true := by kernel_rfl
theorem zav71 : zav Try.prog 71 = .agg [.int .i64 (0), .int .i64 (0), .bool false, .nil, .nil] := by kernel_rfl
theorem ok71 : tyok Try.prog 71 = true := by kernel_rfl
theorem bok71 : (tyok Try.prog 71 && isAggZ (zav Try.prog 71) && List.all [(0, 3), (1, 3), (2, 27)] (fun f => decide (0 < sz Try.prog f.2))) = true := by kernel_rfl
theorem szs71 : List.map (fun (f : Nat × TypeId) => sz Try.prog f.2) [(0, 3), (1, 3), (2, 27)] = [1, 1, 3] := by kernel_rfl
theorem td72 : td Try.prog 72 = .struct [(0, 3), (1, 3), (2, 27)] := by kernel_rfl
theorem sz72 : sz Try.prog 72 = 5 := by kernel_rfl
theorem bts72 : bts Try.prog 72 = 72 := by kernel_rfl
theorem ag72 : isAggT Try.prog 72 = true := by kernel_rfl
theorem zav72 : zav Try.prog 72 = .agg [.int .i64 (0), .int .i64 (0), .bool false, .nil, .nil] := by kernel_rfl
theorem ok72 : tyok Try.prog 72 = true := by kernel_rfl
theorem bok72 : (tyok Try.prog 72 && isAggZ (zav Try.prog 72) && List.all [(0, 3), (1, 3), (2, 27)] (fun f => decide (0 < sz Try.prog f.2))) = true := by kernel_rfl
theorem szs72 : List.map (fun (f : Nat × TypeId) => sz Try.prog f.2) [(0, 3), (1, 3), (2, 27)] = [1, 1, 3] := by kernel_rfl
theorem td73 : td Try.prog 73 = .func := by kernel_rfl
theorem zav73 : zav Try.prog 73 = .nilf := by kernel_rfl
theorem ok73 : tyok Try.prog 73 = true := by kernel_rfl
theorem td74 : td Try.prog 74 = .func := by kernel_rfl
theorem zav74 : zav Try.prog 74 = .nilf := by kernel_rfl
theorem ok74 : tyok Try.prog 74 = true := by kernel_rfl
theorem td75 : td Try.prog 75 = .func := by kernel_rfl
theorem zav75 : zav Try.prog 75 = .nilf := by kernel_rfl
theorem ok75 : tyok Try.prog 75 = true := by kernel_rfl
theorem td76 : td Try.prog 76 = .slice 3 := by kernel_rfl
theorem sz76 : sz Try.prog 76 = 1 := by kernel_rfl
theorem bts76 : bts Try.prog 76 = 24 := by kernel_rfl
theorem ag76 : isAggT Try.prog 76 = false := by kernel_rfl
theorem zav76 : zav Try.prog 76 = .nil := by kernel_rfl
theorem ok76 : tyok Try.prog 76 = true := by kernel_rfl
theorem td77 : td Try.prog 77 = .struct [(0, 3), (1, 3), (2, 76)] := by kernel_rfl
theorem sz77 : sz Try.prog 77 = 3 := by kernel_rfl
theorem bts77 : bts Try.prog 77 = 40 := by kernel_rfl
theorem ag77 : isAggT Try.prog 77 = true := by kernel_rfl
theorem zav77 : zav Try.prog 77 = .agg [.int .i64 (0), .int .i64 (0), .nil] := by kernel_rfl
theorem ok77 : tyok Try.prog 77 = true := by kernel_rfl
theorem bok77 : (tyok Try.prog 77 && isAggZ (zav Try.prog 77) && List.all [(0, 3), (1, 3), (2, 76)] (fun f => decide (0 < sz Try.prog f.2))) = true := by kernel_rfl
theorem szs77 : List.map (fun (f : Nat × TypeId) => sz Try.prog f.2) [(0, 3), (1, 3), (2, 76)] = [1, 1, 1] := by kernel_rfl
theorem td78 : td Try.prog 78 = .struct [(0, 3), (1, 3), (2, 76)] := by kernel_rfl
theorem sz78 : sz Try.prog 78 = 3 := by kernel_rfl
theorem bts78 : bts Try.prog 78 = 40 := by kernel_rfl
theorem ag78 : isAggT Try.prog 78 = true := by kernel_rfl
theorem zav78 : zav Try.prog 78 = .agg [.int .i64 (0), .int .i64 (0), .nil] := by kernel_rfl
theorem ok78 : tyok Try.prog 78 = true := by kernel_rfl
theorem bok78 : (tyok Try.prog 78 && isAggZ (zav Try.prog 78) && List.all [(0, 3), (1, 3), (2, 76)] (fun f => decide (0 < sz Try.prog f.2))) = true := by kernel_rfl
theorem szs78 : List.map (fun (f : Nat × TypeId) => sz Try.prog f.2) [(0, 3), (1, 3), (2, 76)] = [1, 1, 1] := by kernel_rfl
theorem td79 : td Try.prog 79 = .func := by kernel_rfl
theorem zav79 : zav Try.prog 79 = .nilf := by kernel_rfl
theorem ok79 : tyok Try.prog 79 = true := by kernel_rfl
theorem td80 : td Try.prog 80 = .array 2 27 := by kernel_rfl
theorem sz80 : sz Try.prog 80 = 6 := by kernel_rfl
theorem bts80 : bts Try.prog 80 = 112 := by kernel_rfl
theorem ag80 : isAggT Try.prog 80 = true := by kernel_rfl
theorem zav80 : zav Try.prog 80 = .agg [.bool false, .nil, .nil, .bool false, .nil, .nil] := by kernel_rfl
theorem ok80 : tyok Try.prog 80 = true := by kernel_rfl
theorem td82 : td Try.prog 82 = .func := by kernel_rfl
theorem zav82 : zav Try.prog 82 = .nilf := by kernel_rfl
theorem ok82 : tyok Try.prog 82 = true := by kernel_rfl
theorem td83 : td Try.prog 83 = .func := by kernel_rfl
theorem zav83 : zav Try.prog 83 = .nilf := by kernel_rfl
theorem ok83 : tyok Try.prog 83 = true := by kernel_rfl
theorem td84 : td Try.prog 84 = .func := by kernel_rfl
theorem zav84 : zav Try.prog 84 = .nilf := by kernel_rfl
theorem ok84 : tyok Try.prog 84 = true := by kernel_rfl
theorem td85 : td Try.prog 85 = .func := by kernel_rfl
theorem zav85 : zav Try.prog 85 = .nilf := by kernel_rfl
theorem ok85 : tyok Try.prog 85 = true := by kernel_rfl
theorem td86 : td Try.prog 86 = .func := by kernel_rfl
theorem zav86 : zav Try.prog 86 = .nilf := by kernel_rfl
theorem ok86 : tyok Try.prog 86 = true := by kernel_rfl
theorem td88 : td Try.prog 88 = .func := by kernel_rfl
theorem zav88 : zav Try.prog 88 = .nilf := by kernel_rfl
theorem ok88 : tyok Try.prog 88 = true := by kernel_rfl
theorem td89 : td Try.prog 89 = .func := by kernel_rfl
theorem zav89 : zav Try.prog 89 = .nilf := by kernel_rfl
theorem ok89 : tyok Try.prog 89 = true := by kernel_rfl
theorem td90 : td Try.prog 90 = .func := by kernel_rfl
theorem zav90 : zav Try.prog 90 = .nilf := by kernel_rfl
theorem ok90 : tyok Try.prog 90 = true := by kernel_rfl
theorem td91 : td Try.prog 91 = .slice 70 := by kernel_rfl
theorem sz91 : sz Try.prog 91 = 1 := by kernel_rfl
theorem bts91 : bts Try.prog 91 = 24 := by kernel_rfl
theorem ag91 : isAggT Try.prog 91 = false := by kernel_rfl
theorem zav91 : zav Try.prog 91 = .nil := by kernel_rfl
theorem ok91 : tyok Try.prog 91 = true := by kernel_rfl
theorem td92 : td Try.prog 92 = .slice 22 := by kernel_rfl
theorem sz92 : sz Try.prog 92 = 1 := by kernel_rfl
theorem bts92 : bts Try.prog 92 = 24 := by kernel_rfl
theorem ag92 : isAggT Try.prog 92 = false := by kernel_rfl
theorem zav92 : zav Try.prog 92 = .nil := by kernel_rfl
theorem ok92 : tyok Try.prog 92 = true := by kernel_rfl
theorem td93 : td Try.prog 93 = .struct [(0, 91), (1, 92)] := by kernel_rfl
theorem sz93 : sz Try.prog 93 = 2 := by kernel_rfl
theorem bts93 : bts Try.prog 93 = 48 := by kernel_rfl
theorem ag93 : isAggT Try.prog 93 = true := by kernel_rfl
theorem zav93 : zav Try.prog 93 = .agg [.nil, .nil] := by kernel_rfl
theorem ok93 : tyok Try.prog 93 = true := by kernel_rfl
theorem bok93 : (tyok Try.prog 93 && isAggZ (zav Try.prog 93) && List.all [(0, 91), (1, 92)] (fun f => decide (0 < sz Try.prog f.2))) = true := by kernel_rfl
theorem szs93 : List.map (fun (f : Nat × TypeId) => sz Try.prog f.2) [(0, 91), (1, 92)] = [1, 1] := by kernel_rfl
theorem td94 : td Try.prog 94 = .struct [(0, 91), (1, 92)] := by kernel_rfl
theorem sz94 : sz Try.prog 94 = 2 := by kernel_rfl
theorem bts94 : bts Try.prog 94 = 48 := by kernel_rfl
theorem ag94 : isAggT Try.prog 94 = true := by kernel_rfl
theorem zav94 : zav Try.prog 94 = .agg [.nil, .nil] := by kernel_rfl
theorem ok94 : tyok Try.prog 94 = true := by kernel_rfl
theorem bok94 : (tyok Try.prog 94 && isAggZ (zav Try.prog 94) && List.all [(0, 91), (1, 92)] (fun f => decide (0 < sz Try.prog f.2))) = true := by kernel_rfl
theorem szs94 : List.map (fun (f : Nat × TypeId) => sz Try.prog f.2) [(0, 91), (1, 92)] = [1, 1] := by kernel_rfl
theorem td95 : td Try.prog 95 = .func := by kernel_rfl
theorem zav95 : zav Try.prog 95 = .nilf := by kernel_rfl
theorem ok95 : tyok Try.prog 95 = true := by kernel_rfl
theorem td96 : td Try.prog 96 = .func := by kernel_rfl
theorem zav96 : zav Try.prog 96 = .nilf := by kernel_rfl
theorem ok96 : tyok Try.prog 96 = true := by kernel_rfl
theorem td97 : td Try.prog 97 = .func := by kernel_rfl
theorem zav97 : zav Try.prog 97 = .nilf := by kernel_rfl
theorem ok97 : tyok Try.prog 97 = true := by kernel_rfl
theorem td98 : td Try.prog 98 = .func := by kernel_rfl
theorem zav98 : zav Try.prog 98 = .nilf := by kernel_rfl
theorem ok98 : tyok Try.prog 98 = true := by kernel_rfl
theorem td99 : td Try.prog 99 = .func := by kernel_rfl
theorem zav99 : zav Try.prog 99 = .nilf := by kernel_rfl
theorem ok99 : tyok Try.prog 99 = true := by kernel_rfl
theorem td100 : td Try.prog 100 = .func := by kernel_rfl
theorem zav100 : zav Try.prog 100 = .nilf := by kernel_rfl
theorem ok100 : tyok Try.prog 100 = true := by kernel_rfl
theorem td102 : td Try.prog 102 = .func := by kernel_rfl
theorem zav102 : zav Try.prog 102 = .nilf := by kernel_rfl
theorem ok102 : tyok Try.prog 102 = true := by kernel_rfl
theorem td104 : td Try.prog 104 = .func := by kernel_rfl
theorem zav104 : zav Try.prog 104 = .nilf := by kernel_rfl
theorem ok104 : tyok Try.prog 104 = true := by kernel_rfl
theorem td105 : td Try.prog 105 = .func := by kernel_rfl
theorem zav105 : zav Try.prog 105 = .nilf := by kernel_rfl
theorem ok105 : tyok Try.prog 105 = true := by kernel_rfl
theorem td106 : td Try.prog 106 = .func := by kernel_rfl
theorem zav106 : zav Try.prog 106 = .nilf := by kernel_rfl
theorem ok106 : tyok Try.prog 106 = true := by kernel_rfl
theorem td107 : td Try.prog 107 = .int .i64 := by kernel_rfl
theorem sz107 : sz Try.prog 107 = 1 := by kernel_rfl
theorem bts107 : bts Try.prog 107 = 8 := by kernel_rfl
theorem ag107 : isAggT Try.prog 107 = false := by kernel_rfl
theorem zav107 : zav Try.prog 107 = .int .i64 (0) := by kernel_rfl
theorem ok107 : tyok Try.prog 107 = true := by kernel_rfl
theorem td109 : td Try.prog 109 = .func := by kernel_rfl
theorem zav109 : zav Try.prog 109 = .nilf := by kernel_rfl
theorem ok109 : tyok Try.prog 109 = true := by kernel_rfl
theorem td110 : td Try.prog 110 = .func := by kernel_rfl
theorem zav110 : zav Try.prog 110 = .nilf := by kernel_rfl
theorem ok110 : tyok Try.prog 110 = true := by kernel_rfl
theorem td111 : td Try.prog 111 = .slice 76 := by kernel_rfl
theorem sz111 : sz Try.prog 111 = 1 := by kernel_rfl
theorem bts111 : bts Try.prog 111 = 24 := by kernel_rfl
theorem ag111 : isAggT Try.prog 111 = false := by kernel_rfl
theorem zav111 : zav Try.prog 111 = .nil := by kernel_rfl
theorem ok111 : tyok Try.prog 111 = true := by kernel_rfl
theorem td112 : td Try.prog 112 = .func := by kernel_rfl
theorem zav112 : zav Try.prog 112 = .nilf := by kernel_rfl
theorem ok112 : tyok Try.prog 112 = true := by kernel_rfl
theorem td113 : td Try.prog 113 = .func := by kernel_rfl
theorem zav113 : zav Try.prog 113 = .nilf := by kernel_rfl
theorem ok113 : tyok Try.prog 113 = true := by kernel_rfl
theorem td114 : td Try.prog 114 = .func := by kernel_rfl
theorem zav114 : zav Try.prog 114 = .nilf := by kernel_rfl
theorem ok114 : tyok Try.prog 114 = true := by kernel_rfl
theorem td115 : td Try.prog 115 = .struct [(0, 3), (1, 76), (2, 22)] := by kernel_rfl
theorem sz115 : sz Try.prog 115 = 3 := by kernel_rfl
theorem bts115 : bts Try.prog 115 = 56 := by kernel_rfl
theorem ag115 : isAggT Try.prog 115 = true := by kernel_rfl
theorem zav115 : zav Try.prog 115 = .agg [.int .i64 (0), .nil, .nil] := by kernel_rfl
theorem ok115 : tyok Try.prog 115 = true := by kernel_rfl
theorem bok115 : (tyok Try.prog 115 && isAggZ (zav Try.prog 115) && List.all [(0, 3), (1, 76), (2, 22)] (fun f => decide (0 < sz Try.prog f.2))) = true := by kernel_rfl
theorem szs115 : List.map (fun (f : Nat × TypeId) => sz Try.prog f.2) [(0, 3), (1, 76), (2, 22)] = [1, 1, 1] := by kernel_rfl
theorem td116 : td Try.prog 116 = .struct [(0, 3), (1, 76), (2, 22)] := by kernel_rfl
theorem sz116 : sz Try.prog 116 = 3 := by kernel_rfl
theorem bts116 : bts Try.prog 116 = 56 := by kernel_rfl
theorem ag116 : isAggT Try.prog 116 = true := by kernel_rfl
theorem zav116 : zav Try.prog 116 = .agg [.int .i64 (0), .nil, .nil] := by kernel_rfl
theorem ok116 : tyok Try.prog 116 = true := by kernel_rfl
theorem bok116 : (tyok Try.prog 116 && isAggZ (zav Try.prog 116) && List.all [(0, 3), (1, 76), (2, 22)] (fun f => decide (0 < sz Try.prog f.2))) = true := by kernel_rfl
theorem szs116 : List.map (fun (f : Nat × TypeId) => sz Try.prog f.2) [(0, 3), (1, 76), (2, 22)] = [1, 1, 1] := by kernel_rfl
theorem td117 : td Try.prog 117 = .slice 116 := by kernel_rfl
theorem sz117 : sz Try.prog 117 = 1 := by kernel_rfl
theorem bts117 : bts Try.prog 117 = 24 := by kernel_rfl
theorem ag117 : isAggT Try.prog 117 = false := by kernel_rfl
theorem zav117 : zav Try.prog 117 = .nil := by kernel_rfl
theorem ok117 : tyok Try.prog 117 = true := by kernel_rfl
theorem td118 : td Try.prog 118 = .func := by kernel_rfl
theorem zav118 : zav Try.prog 118 = .nilf := by kernel_rfl
theorem ok118 : tyok Try.prog 118 = true := by kernel_rfl
theorem td119 : td Try.prog 119 = .func := by kernel_rfl
theorem zav119 : zav Try.prog 119 = .nilf := by kernel_rfl
theorem ok119 : tyok Try.prog 119 = true := by kernel_rfl
theorem td120 : td Try.prog 120 = .func := by kernel_rfl
theorem zav120 : zav Try.prog 120 = .nilf := by kernel_rfl
theorem ok120 : tyok Try.prog 120 = true := by kernel_rfl
theorem td121 : td Try.prog 121 = .func := by kernel_rfl
theorem zav121 : zav Try.prog 121 = .nilf := by kernel_rfl
theorem ok121 : tyok Try.prog 121 = true := by kernel_rfl
theorem td122 : td Try.prog 122 = .func := by kernel_rfl
theorem zav122 : zav Try.prog 122 = .nilf := by kernel_rfl
theorem ok122 : tyok Try.prog 122 = true := by kernel_rfl
theorem td123 : td Try.prog 123 = .func := by kernel_rfl
theorem zav123 : zav Try.prog 123 = .nilf := by kernel_rfl
theorem ok123 : tyok Try.prog 123 = true := by kernel_rfl
theorem td124 : td Try.prog 124 = .func := by kernel_rfl
theorem zav124 : zav Try.prog 124 = .nilf := by kernel_rfl
theorem ok124 : tyok Try.prog 124 = true := by kernel_rfl
theorem td125 : td Try.prog 125 = .func := by kernel_rfl
theorem zav125 : zav Try.prog 125 = .nilf := by kernel_rfl
theorem ok125 : tyok Try.prog 125 = true := by kernel_rfl
theorem td126 : td Try.prog 126 = .func := by kernel_rfl
theorem zav126 : zav Try.prog 126 = .nilf := by kernel_rfl
theorem ok126 : tyok Try.prog 126 = true := by kernel_rfl
theorem td127 : td Try.prog 127 = .func := by kernel_rfl
theorem zav127 : zav Try.prog 127 = .nilf := by kernel_rfl
theorem ok127 : tyok Try.prog 127 = true := by kernel_rfl
theorem td128 : td Try.prog 128 = .func := by kernel_rfl
theorem zav128 : zav Try.prog 128 = .nilf := by kernel_rfl
theorem ok128 : tyok Try.prog 128 = true := by kernel_rfl
theorem td130 : td Try.prog 130 = .func := by kernel_rfl
theorem zav130 : zav Try.prog 130 = .nilf := by kernel_rfl
theorem ok130 : tyok Try.prog 130 = true := by kernel_rfl
theorem td131 : td Try.prog 131 = .func := by kernel_rfl
theorem zav131 : zav Try.prog 131 = .nilf := by kernel_rfl
theorem ok131 : tyok Try.prog 131 = true := by kernel_rfl
theorem td132 : td Try.prog 132 = .func := by kernel_rfl
theorem zav132 : zav Try.prog 132 = .nilf := by kernel_rfl
theorem ok132 : tyok Try.prog 132 = true := by kernel_rfl
theorem td133 : td Try.prog 133 = .func := by kernel_rfl
theorem zav133 : zav Try.prog 133 = .nilf := by kernel_rfl
theorem ok133 : tyok Try.prog 133 = true := by kernel_rfl
theorem td134 : td Try.prog 134 = .func := by kernel_rfl
theorem zav134 : zav Try.prog 134 = .nilf := by kernel_rfl
theorem ok134 : tyok Try.prog 134 = true := by kernel_rfl
theorem td135 : td Try.prog 135 = .func := by kernel_rfl
theorem zav135 : zav Try.prog 135 = .nilf := by kernel_rfl
theorem ok135 : tyok Try.prog 135 = true := by kernel_rfl
theorem td136 : td Try.prog 136 = .func := by kernel_rfl
theorem zav136 : zav Try.prog 136 = .nilf := by kernel_rfl
theorem ok136 : tyok Try.prog 136 = true := by kernel_rfl
theorem td137 : td Try.prog 137 = .func := by kernel_rfl
theorem zav137 : zav Try.prog 137 = .nilf := by kernel_rfl
theorem ok137 : tyok Try.prog 137 = true := by kernel_rfl
theorem td139 : td Try.prog 139 = .func := by kernel_rfl
theorem zav139 : zav Try.prog 139 = .nilf := by kernel_rfl
theorem ok139 : tyok Try.prog 139 = true := by kernel_rfl
theorem td140 : td Try.prog 140 = .func := by kernel_rfl
theorem zav140 : zav Try.prog 140 = .nilf := by kernel_rfl
theorem ok140 : tyok Try.prog 140 = true := by kernel_rfl
theorem td141 : td Try.prog 141 = .func := by kernel_rfl
theorem zav141 : zav Try.prog 141 = .nilf := by kernel_rfl
theorem ok141 : tyok Try.prog 141 = true := by kernel_rfl
theorem td143 : td Try.prog 143 = .func := by kernel_rfl
theorem zav143 : zav Try.prog 143 = .nilf := by kernel_rfl
theorem ok143 : tyok Try.prog 143 = true := by kernel_rfl
theorem td144 : td Try.prog 144 = .func := by kernel_rfl
theorem zav144 : zav Try.prog 144 = .nilf := by kernel_rfl
theorem ok144 : tyok Try.prog 144 = true := by kernel_rfl
theorem td145 : td Try.prog 145 = .func := by kernel_rfl
theorem zav145 : zav Try.prog 145 = .nilf := by kernel_rfl
theorem ok145 : tyok Try.prog 145 = true := by kernel_rfl
theorem td146 : td Try.prog 146 = .func := by kernel_rfl
theorem zav146 : zav Try.prog 146 = .nilf := by kernel_rfl
theorem ok146 : tyok Try.prog 146 = true := by kernel_rfl
theorem td148 : td Try.prog 148 = .func := by kernel_rfl
theorem zav148 : zav Try.prog 148 = .nilf := by kernel_rfl
theorem ok148 : tyok Try.prog 148 = true := by kernel_rfl
theorem td149 : td Try.prog 149 = .func := by kernel_rfl
theorem zav149 : zav Try.prog 149 = .nilf := by kernel_rfl
theorem ok149 : tyok Try.prog 149 = true := by kernel_rfl
theorem td150 : td Try.prog 150 = .func := by kernel_rfl
theorem zav150 : zav Try.prog 150 = .nilf := by kernel_rfl
theorem ok150 : tyok Try.prog 150 = true := by kernel_rfl
theorem td151 : td Try.prog 151 = .func := by kernel_rfl
theorem zav151 : zav Try.prog 151 = .nilf := by kernel_rfl
theorem ok151 : tyok Try.prog 151 = true := by kernel_rfl
theorem td152 : td Try.prog 152 = .func := by kernel_rfl
theorem zav152 : zav Try.prog 152 = .nilf := by kernel_rfl
theorem ok152 : tyok Try.prog 152 = true := by kernel_rfl
theorem td153 : td Try.prog 153 = .func := by kernel_rfl
theorem zav153 : zav Try.prog 153 = .nilf := by kernel_rfl
theorem ok153 : tyok Try.prog 153 = true := by kernel_rfl
theorem td154 : td Try.prog 154 = .func := by kernel_rfl
theorem zav154 : zav Try.prog 154 = .nilf := by kernel_rfl
theorem ok154 : tyok Try.prog 154 = true := by kernel_rfl
theorem td155 : td Try.prog 155 = .func := by kernel_rfl
theorem zav155 : zav Try.prog 155 = .nilf := by kernel_rfl
theorem ok155 : tyok Try.prog 155 = true := by kernel_rfl
theorem td156 : td Try.prog 156 = .func := by kernel_rfl
theorem zav156 : zav Try.prog 156 = .nilf := by kernel_rfl
theorem ok156 : tyok Try.prog 156 = true := by kernel_rfl
theorem td157 : td Try.prog 157 = .func := by kernel_rfl
theorem zav157 : zav Try.prog 157 = .nilf := by kernel_rfl
theorem ok157 : tyok Try.prog 157 = true := by kernel_rfl
theorem td158 : td Try.prog 158 = .func := by kernel_rfl
theorem zav158 : zav Try.prog 158 = .nilf := by kernel_rfl
theorem ok158 : tyok Try.prog 158 = true := by kernel_rfl
theorem td159 : td Try.prog 159 = .func := by kernel_rfl
theorem zav159 : zav Try.prog 159 = .nilf := by kernel_rfl
theorem ok159 : tyok Try.prog 159 = true := by kernel_rfl
theorem td160 : td Try.prog 160 = .func := by kernel_rfl
theorem zav160 : zav Try.prog 160 = .nilf := by kernel_rfl
theorem ok160 : tyok Try.prog 160 = true := by kernel_rfl
theorem td161 : td Try.prog 161 = .func := by kernel_rfl
theorem zav161 : zav Try.prog 161 = .nilf := by kernel_rfl
theorem ok161 : tyok Try.prog 161 = true := by kernel_rfl
theorem td163 : td Try.prog 163 = .func := by kernel_rfl
theorem zav163 : zav Try.prog 163 = .nilf := by kernel_rfl
theorem ok163 : tyok Try.prog 163 = true := by kernel_rfl
theorem td164 : td Try.prog 164 = .func := by kernel_rfl
theorem zav164 : zav Try.prog 164 = .nilf := by kernel_rfl
theorem ok164 : tyok Try.prog 164 = true := by kernel_rfl
theorem td165 : td Try.prog 165 = .func := by kernel_rfl
theorem zav165 : zav Try.prog 165 = .nilf := by kernel_rfl
theorem ok165 : tyok Try.prog 165 = true := by kernel_rfl
theorem td166 : td Try.prog 166 = .map 3 76 := by kernel_rfl
theorem sz166 : sz Try.prog 166 = 1 := by kernel_rfl
theorem bts166 : bts Try.prog 166 = 8 := by kernel_rfl
theorem ag166 : isAggT Try.prog 166 = false := by kernel_rfl
theorem zav166 : zav Try.prog 166 = .nilmap := by kernel_rfl
theorem ok166 : tyok Try.prog 166 = true := by kernel_rfl
theorem td167 : td Try.prog 167 = .slice 171 := by kernel_rfl
theorem sz167 : sz Try.prog 167 = 1 := by kernel_rfl
theorem bts167 : bts Try.prog 167 = 24 := by kernel_rfl
theorem ag167 : isAggT Try.prog 167 = false := by kernel_rfl
theorem zav167 : zav Try.prog 167 = .nil := by kernel_rfl
theorem ok167 : tyok Try.prog 167 = true := by kernel_rfl
theorem td169 : td Try.prog 169 = .func := by kernel_rfl
theorem zav169 : zav Try.prog 169 = .nilf := by kernel_rfl
theorem ok169 : tyok Try.prog 169 = true := by kernel_rfl
theorem td170 : td Try.prog 170 = .struct [(0, 27), (3, 76)] := by kernel_rfl
theorem sz170 : sz Try.prog 170 = 4 := by kernel_rfl
theorem bts170 : bts Try.prog 170 = 80 := by kernel_rfl
theorem ag170 : isAggT Try.prog 170 = true := by kernel_rfl
theorem zav170 : zav Try.prog 170 = .agg [.bool false, .nil, .nil, .nil] := by kernel_rfl
theorem ok170 : tyok Try.prog 170 = true := by kernel_rfl
theorem bok170 : (tyok Try.prog 170 && isAggZ (zav Try.prog 170) && List.all [(0, 27), (3, 76)] (fun f => decide (0 < sz Try.prog f.2))) = true := by kernel_rfl
theorem szs170 : List.map (fun (f : Nat × TypeId) => sz Try.prog f.2) [(0, 27), (3, 76)] = [3, 1] := by kernel_rfl
theorem td171 : td Try.prog 171 = .struct [(0, 27), (3, 76)] := by kernel_rfl
theorem sz171 : sz Try.prog 171 = 4 := by kernel_rfl
theorem bts171 : bts Try.prog 171 = 80 := by kernel_rfl
theorem ag171 : isAggT Try.prog 171 = true := by kernel_rfl
theorem zav171 : zav Try.prog 171 = .agg [.bool false, .nil, .nil, .nil] := by kernel_rfl
theorem ok171 : tyok Try.prog 171 = true := by kernel_rfl
theorem bok171 : (tyok Try.prog 171 && isAggZ (zav Try.prog 171) && List.all [(0, 27), (3, 76)] (fun f => decide (0 < sz Try.prog f.2))) = true := by kernel_rfl
theorem szs171 : List.map (fun (f : Nat × TypeId) => sz Try.prog f.2) [(0, 27), (3, 76)] = [3, 1] := by kernel_rfl
theorem td172 : td Try.prog 172 = .func := by kernel_rfl
theorem zav172 : zav Try.prog 172 = .nilf := by kernel_rfl
theorem ok172 : tyok Try.prog 172 = true := by kernel_rfl
theorem td173 : td Try.prog 173 = .int .u32 := by kernel_rfl
theorem sz173 : sz Try.prog 173 = 1 := by kernel_rfl
theorem bts173 : bts Try.prog 173 = 4 := by kernel_rfl
theorem ag173 : isAggT Try.prog 173 = false := by kernel_rfl
theorem zav173 : zav Try.prog 173 = .int .u32 (0) := by kernel_rfl
theorem ok173 : tyok Try.prog 173 = true := by kernel_rfl
theorem td174 : td Try.prog 174 = .func := by kernel_rfl
theorem zav174 : zav Try.prog 174 = .nilf := by kernel_rfl
theorem ok174 : tyok Try.prog 174 = true := by kernel_rfl
theorem td175 : td Try.prog 175 = .func := by kernel_rfl
theorem zav175 : zav Try.prog 175 = .nilf := by kernel_rfl
theorem ok175 : tyok Try.prog 175 = true := by kernel_rfl
theorem td176 : td Try.prog 176 = .func := by kernel_rfl
theorem zav176 : zav Try.prog 176 = .nilf := by kernel_rfl
theorem ok176 : tyok Try.prog 176 = true := by kernel_rfl
theorem td178 : td Try.prog 178 = .func := by kernel_rfl
theorem zav178 : zav Try.prog 178 = .nilf := by kernel_rfl
theorem ok178 : tyok Try.prog 178 = true := by kernel_rfl
theorem td179 : td Try.prog 179 = .int .u64 := by kernel_rfl
theorem sz179 : sz Try.prog 179 = 1 := by kernel_rfl
theorem bts179 : bts Try.prog 179 = 8 := by kernel_rfl
theorem ag179 : isAggT Try.prog 179 = false := by kernel_rfl
theorem zav179 : zav Try.prog 179 = .int .u64 (0) := by kernel_rfl
theorem ok179 : tyok Try.prog 179 = true := by kernel_rfl
theorem td180 : td Try.prog 180 = .int .u64 := by kernel_rfl
theorem sz180 : sz Try.prog 180 = 1 := by kernel_rfl
theorem bts180 : bts Try.prog 180 = 8 := by kernel_rfl
theorem ag180 : isAggT Try.prog 180 = false := by kernel_rfl
theorem zav180 : zav Try.prog 180 = .int .u64 (0) := by kernel_rfl
theorem ok180 : tyok Try.prog 180 = true := by kernel_rfl
theorem td181 : td Try.prog 181 = .func := by kernel_rfl
theorem zav181 : zav Try.prog 181 = .nilf := by kernel_rfl
theorem ok181 : tyok Try.prog 181 = true := by kernel_rfl
theorem td182 : td Try.prog 182 = .func := by kernel_rfl
theorem zav182 : zav Try.prog 182 = .nilf := by kernel_rfl
theorem ok182 : tyok Try.prog 182 = true := by kernel_rfl
theorem td183 : td Try.prog 183 = .func := by kernel_rfl
theorem zav183 : zav Try.prog 183 = .nilf := by kernel_rfl
theorem ok183 : tyok Try.prog 183 = true := by kernel_rfl
theorem td184 : td Try.prog 184 = .func := by kernel_rfl
theorem zav184 : zav Try.prog 184 = .nilf := by kernel_rfl
theorem ok184 : tyok Try.prog 184 = true := by kernel_rfl
theorem td185 : td Try.prog 185 = .func := by kernel_rfl
theorem zav185 : zav Try.prog 185 = .nilf := by kernel_rfl
theorem ok185 : tyok Try.prog 185 = true := by kernel_rfl
theorem td187 : td Try.prog 187 = .func := by kernel_rfl
theorem zav187 : zav Try.prog 187 = .nilf := by kernel_rfl
theorem ok187 : tyok Try.prog 187 = true := by kernel_rfl
theorem td189 : td Try.prog 189 = .func := by kernel_rfl
theorem zav189 : zav Try.prog 189 = .nilf := by kernel_rfl
theorem ok189 : tyok Try.prog 189 = true := by kernel_rfl
theorem td190 : td Try.prog 190 = .func := by kernel_rfl
theorem zav190 : zav Try.prog 190 = .nilf := by kernel_rfl
theorem ok190 : tyok Try.prog 190 = true := by kernel_rfl
theorem td192 : td Try.prog 192 = .func := by kernel_rfl
theorem zav192 : zav Try.prog 192 = .nilf := by kernel_rfl
theorem ok192 : tyok Try.prog 192 = true := by kernel_rfl
theorem td193 : td Try.prog 193 = .func := by kernel_rfl
theorem zav193 : zav Try.prog 193 = .nilf := by kernel_rfl
theorem ok193 : tyok Try.prog 193 = true := by kernel_rfl
theorem td194 : td Try.prog 194 = .func := by kernel_rfl
theorem zav194 : zav Try.prog 194 = .nilf := by kernel_rfl
theorem ok194 : tyok Try.prog 194 = true := by kernel_rfl
theorem td195 : td Try.prog 195 = .func := by kernel_rfl
theorem zav195 : zav Try.prog 195 = .nilf := by kernel_rfl
theorem ok195 : tyok Try.prog 195 = true := by kernel_rfl
theorem td196 : td Try.prog 196 = .func := by kernel_rfl
theorem zav196 : zav Try.prog 196 = .nilf := by kernel_rfl
theorem ok196 : tyok Try.prog 196 = true := by kernel_rfl
theorem td197 : td Try.prog 197 = .func := by kernel_rfl
theorem zav197 : zav Try.prog 197 = .nilf := by kernel_rfl
theorem ok197 : tyok Try.prog 197 = true := by kernel_rfl
theorem td198 : td Try.prog 198 = .struct [(0, 17), (1, 17), (2, 17), (3, 9)] := by kernel_rfl
theorem sz198 : sz Try.prog 198 = 4 := by kernel_rfl
theorem bts198 : bts Try.prog 198 = 40 := by kernel_rfl
theorem ag198 : isAggT Try.prog 198 = true := by kernel_rfl
theorem td199 : td Try.prog 199 = .struct [(0, 17), (1, 17), (2, 17), (3, 9)] := by kernel_rfl
theorem sz199 : sz Try.prog 199 = 4 := by kernel_rfl
theorem bts199 : bts Try.prog 199 = 40 := by kernel_rfl
theorem ag199 : isAggT Try.prog 199 = true := by kernel_rfl
theorem td200 : td Try.prog 200 = .array 0 16 := by kernel_rfl
theorem td201 : td Try.prog 201 = .struct [(0, 200)] := by kernel_rfl
theorem td202 : td Try.prog 202 = .struct [(0, 200)] := by kernel_rfl
theorem td203 : td Try.prog 203 = .func := by kernel_rfl
theorem zav203 : zav Try.prog 203 = .nilf := by kernel_rfl
theorem ok203 : tyok Try.prog 203 = true := by kernel_rfl
theorem td204 : td Try.prog 204 = .int .u8 := by kernel_rfl
theorem sz204 : sz Try.prog 204 = 1 := by kernel_rfl
theorem bts204 : bts Try.prog 204 = 1 := by kernel_rfl
theorem ag204 : isAggT Try.prog 204 = false := by kernel_rfl
theorem zav204 : zav Try.prog 204 = .int .u8 (0) := by kernel_rfl
theorem ok204 : tyok Try.prog 204 = true := by kernel_rfl
theorem td205 : td Try.prog 205 = .int .u8 := by kernel_rfl
theorem sz205 : sz Try.prog 205 = 1 := by kernel_rfl
theorem bts205 : bts Try.prog 205 = 1 := by kernel_rfl
theorem ag205 : isAggT Try.prog 205 = false := by kernel_rfl
theorem zav205 : zav Try.prog 205 = .int .u8 (0) := by kernel_rfl
theorem ok205 : tyok Try.prog 205 = true := by kernel_rfl
theorem td206 : td Try.prog 206 = .func := by kernel_rfl
theorem zav206 : zav Try.prog 206 = .nilf := by kernel_rfl
theorem ok206 : tyok Try.prog 206 = true := by kernel_rfl
theorem td207 : td Try.prog 207 = .ptr := by kernel_rfl
theorem sz207 : sz Try.prog 207 = 1 := by kernel_rfl
theorem bts207 : bts Try.prog 207 = 8 := by kernel_rfl
theorem ag207 : isAggT Try.prog 207 = false := by kernel_rfl
theorem zav207 : zav Try.prog 207 = .nilp := by kernel_rfl
theorem ok207 : tyok Try.prog 207 = true := by kernel_rfl
theorem td208 : td Try.prog 208 = .int .i32 := by kernel_rfl
theorem sz208 : sz Try.prog 208 = 1 := by kernel_rfl
theorem bts208 : bts Try.prog 208 = 4 := by kernel_rfl
theorem ag208 : isAggT Try.prog 208 = false := by kernel_rfl
theorem zav208 : zav Try.prog 208 = .int .i32 (0) := by kernel_rfl
theorem ok208 : tyok Try.prog 208 = true := by kernel_rfl
theorem td209 : td Try.prog 209 = .int .i32 := by kernel_rfl
theorem sz209 : sz Try.prog 209 = 1 := by kernel_rfl
theorem bts209 : bts Try.prog 209 = 4 := by kernel_rfl
theorem ag209 : isAggT Try.prog 209 = false := by kernel_rfl
theorem zav209 : zav Try.prog 209 = .int .i32 (0) := by kernel_rfl
theorem ok209 : tyok Try.prog 209 = true := by kernel_rfl
theorem td210 : td Try.prog 210 = .struct [(0, 12), (1, 12), (2, 173), (3, 204), (4, 5), (5, 5), (6, 205), (7, 206), (8, 207), (9, 208), (10, 209)] := by kernel_rfl
theorem sz210 : sz Try.prog 210 = 11 := by kernel_rfl
theorem bts210 : bts Try.prog 210 = 48 := by kernel_rfl
theorem ag210 : isAggT Try.prog 210 = true := by kernel_rfl
theorem zav210 : zav Try.prog 210 = .agg [.int .u64 (0), .int .u64 (0), .int .u32 (0), .int .u8 (0), .int .u8 (0), .int .u8 (0), .int .u8 (0), .nilf, .nilp, .int .i32 (0), .int .i32 (0)] := by kernel_rfl
theorem ok210 : tyok Try.prog 210 = true := by kernel_rfl
theorem bok210 : (tyok Try.prog 210 && isAggZ (zav Try.prog 210) && List.all [(0, 12), (1, 12), (2, 173), (3, 204), (4, 5), (5, 5), (6, 205), (7, 206), (8, 207), (9, 208), (10, 209)] (fun f => decide (0 < sz Try.prog f.2))) = true := by kernel_rfl
theorem szs210 : List.map (fun (f : Nat × TypeId) => sz Try.prog f.2) [(0, 12), (1, 12), (2, 173), (3, 204), (4, 5), (5, 5), (6, 205), (7, 206), (8, 207), (9, 208), (10, 209)] = [1, 1, 1, 1, 1, 1, 1, 1, 1, 1, 1] := by kernel_rfl
theorem td211 : td Try.prog 211 = .struct [(0, 12), (1, 12), (2, 173), (3, 204), (4, 5), (5, 5), (6, 205), (7, 206), (8, 207), (9, 208), (10, 209)] := by kernel_rfl
theorem sz211 : sz Try.prog 211 = 11 := by kernel_rfl
theorem bts211 : bts Try.prog 211 = 48 := by kernel_rfl
theorem ag211 : isAggT Try.prog 211 = true := by kernel_rfl
theorem zav211 : zav Try.prog 211 = .agg [.int .u64 (0), .int .u64 (0), .int .u32 (0), .int .u8 (0), .int .u8 (0), .int .u8 (0), .int .u8 (0), .nilf, .nilp, .int .i32 (0), .int .i32 (0)] := by kernel_rfl
theorem ok211 : tyok Try.prog 211 = true := by kernel_rfl
theorem bok211 : (tyok Try.prog 211 && isAggZ (zav Try.prog 211) && List.all [(0, 12), (1, 12), (2, 173), (3, 204), (4, 5), (5, 5), (6, 205), (7, 206), (8, 207), (9, 208), (10, 209)] (fun f => decide (0 < sz Try.prog f.2))) = true := by kernel_rfl
theorem szs211 : List.map (fun (f : Nat × TypeId) => sz Try.prog f.2) [(0, 12), (1, 12), (2, 173), (3, 204), (4, 5), (5, 5), (6, 205), (7, 206), (8, 207), (9, 208), (10, 209)] = [1, 1, 1, 1, 1, 1, 1, 1, 1, 1, 1] := by kernel_rfl
attribute [go_sem] td1 zav1 ok1 td2 sz2 bts2 ag2 zav2 ok2 td3 sz3 bts3
attribute [go_sem] ag3 zav3 ok3 td4 sz4 bts4 ag4 zav4 ok4 td5 sz5 bts5
attribute [go_sem] ag5 zav5 ok5 td6 sz6 bts6 ag6 zav6 ok6 td7 sz7 bts7
attribute [go_sem] ag7 zav7 ok7 td8 sz8 bts8 ag8 zav8 ok8 td9 sz9 bts9
attribute [go_sem] ag9 td10 sz10 bts10 ag10 td11 sz11 bts11 ag11 td12 sz12 bts12
attribute [go_sem] ag12 zav12 ok12 td13 sz13 bts13 ag13 td14 sz14 bts14 ag14 td15
attribute [go_sem] sz15 bts15 ag15 zav15 ok15 td16 sz16 bts16 ag16 zav16 ok16 td17
attribute [go_sem] sz17 bts17 ag17 zav17 ok17 td18 sz18 bts18 ag18 zav18 ok18 td19
attribute [go_sem] sz19 bts19 ag19 zav19 ok19 td20 sz20 bts20 ag20 zav20 ok20 td21
attribute [go_sem] sz21 bts21 ag21 zav21 ok21 td22 sz22 bts22 ag22 zav22 ok22 td23
attribute [go_sem] sz23 bts23 ag23 zav23 ok23 td24 sz24 bts24 ag24 zav24 ok24 td25
attribute [go_sem] sz25 bts25 ag25 zav25 ok25 td26 sz26 bts26 ag26 zav26 ok26 td27
attribute [go_sem] sz27 bts27 ag27 zav27 ok27 td28 zav28 ok28 td29 zav29 ok29 td30
attribute [go_sem] sz30 bts30 ag30 zav30 ok30 td31 sz31 bts31 ag31 zav31 ok31 td33
attribute [go_sem] zav33 ok33 td35 zav35 ok35 td37 zav37 ok37 td39 zav39 ok39 td40
attribute [go_sem] zav40 ok40 td41 zav41 ok41 td42 zav42 ok42 td43 zav43 ok43 td44
attribute [go_sem] zav44 ok44 td45 zav45 ok45 td46 zav46 ok46 td47 zav47 ok47 td49
attribute [go_sem] zav49 ok49 td50 zav50 ok50 td51 zav51 ok51 td52 zav52 ok52 td53
attribute [go_sem] zav53 ok53 td54 zav54 ok54 td56 zav56 ok56 td57 zav57 ok57 td58
attribute [go_sem] zav58 ok58 td59 zav59 ok59 td60 zav60 ok60 td61 zav61 ok61 td62
attribute [go_sem] sz62 bts62 ag62 zav62 ok62 td63 sz63 bts63 ag63 zav63 ok63 td64
attribute [go_sem] sz64 bts64 ag64 zav64 ok64 td65 sz65 bts65 ag65 zav65 ok65 td67
attribute [go_sem] zav67 ok67 td68 sz68 bts68 ag68 zav68 ok68 td69 sz69 bts69 ag69
attribute [go_sem] zav69 ok69 td70 sz70 bts70 ag70 zav70 ok70 td71 sz71 bts71 ag71
attribute [go_sem] zav71 ok71 td72 sz72 bts72 ag72 zav72 ok72 td73 zav73 ok73 td74
attribute [go_sem] zav74 ok74 td75 zav75 ok75 td76 sz76 bts76 ag76 zav76 ok76 td77
attribute [go_sem] sz77 bts77 ag77 zav77 ok77 td78 sz78 bts78 ag78 zav78 ok78 td79
attribute [go_sem] zav79 ok79 td80 sz80 bts80 ag80 zav80 ok80 td82 zav82 ok82 td83
attribute [go_sem] zav83 ok83 td84 zav84 ok84 td85 zav85 ok85 td86 zav86 ok86 td88
attribute [go_sem] zav88 ok88 td89 zav89 ok89 td90 zav90 ok90 td91 sz91 bts91 ag91
attribute [go_sem] zav91 ok91 td92 sz92 bts92 ag92 zav92 ok92 td93 sz93 bts93 ag93
attribute [go_sem] zav93 ok93 td94 sz94 bts94 ag94 zav94 ok94 td95 zav95 ok95 td96
attribute [go_sem] zav96 ok96 td97 zav97 ok97 td98 zav98 ok98 td99 zav99 ok99 td100
attribute [go_sem] zav100 ok100 td102 zav102 ok102 td104 zav104 ok104 td105 zav105 ok105 td106
attribute [go_sem] zav106 ok106 td107 sz107 bts107 ag107 zav107 ok107 td109 zav109 ok109 td110
attribute [go_sem] zav110 ok110 td111 sz111 bts111 ag111 zav111 ok111 td112 zav112 ok112 td113
attribute [go_sem] zav113 ok113 td114 zav114 ok114 td115 sz115 bts115 ag115 zav115 ok115 td116
attribute [go_sem] sz116 bts116 ag116 zav116 ok116 td117 sz117 bts117 ag117 zav117 ok117 td118
attribute [go_sem] zav118 ok118 td119 zav119 ok119 td120 zav120 ok120 td121 zav121 ok121 td122
attribute [go_sem] zav122 ok122 td123 zav123 ok123 td124 zav124 ok124 td125 zav125 ok125 td126
attribute [go_sem] zav126 ok126 td127 zav127 ok127 td128 zav128 ok128 td130 zav130 ok130 td131
attribute [go_sem] zav131 ok131 td132 zav132 ok132 td133 zav133 ok133 td134 zav134 ok134 td135
attribute [go_sem] zav135 ok135 td136 zav136 ok136 td137 zav137 ok137 td139 zav139 ok139 td140
attribute [go_sem] zav140 ok140 td141 zav141 ok141 td143 zav143 ok143 td144 zav144 ok144 td145
attribute [go_sem] zav145 ok145 td146 zav146 ok146 td148 zav148 ok148 td149 zav149 ok149 td150
attribute [go_sem] zav150 ok150 td151 zav151 ok151 td152 zav152 ok152 td153 zav153 ok153 td154
attribute [go_sem] zav154 ok154 td155 zav155 ok155 td156 zav156 ok156 td157 zav157 ok157 td158
attribute [go_sem] zav158 ok158 td159 zav159 ok159 td160 zav160 ok160 td161 zav161 ok161 td163
attribute [go_sem] zav163 ok163 td164 zav164 ok164 td165 zav165 ok165 td166 sz166 bts166 ag166
attribute [go_sem] zav166 ok166 td167 sz167 bts167 ag167 zav167 ok167 td169 zav169 ok169 td170
attribute [go_sem] sz170 bts170 ag170 zav170 ok170 td171 sz171 bts171 ag171 zav171 ok171 td172
attribute [go_sem] zav172 ok172 td173 sz173 bts173 ag173 zav173 ok173 td174 zav174 ok174 td175
attribute [go_sem] zav175 ok175 td176 zav176 ok176 td178 zav178 ok178 td179 sz179 bts179 ag179
attribute [go_sem] zav179 ok179 td180 sz180 bts180 ag180 zav180 ok180 td181 zav181 ok181 td182
attribute [go_sem] zav182 ok182 td183 zav183 ok183 td184 zav184 ok184 td185 zav185 ok185 td187
attribute [go_sem] zav187 ok187 td189 zav189 ok189 td190 zav190 ok190 td192 zav192 ok192 td193
attribute [go_sem] zav193 ok193 td194 zav194 ok194 td195 zav195 ok195 td196 zav196 ok196 td197
attribute [go_sem] zav197 ok197 td198 sz198 bts198 ag198 td199 sz199 bts199 ag199 td200 td201
attribute [go_sem] td202 td203 zav203 ok203 td204 sz204 bts204 ag204 zav204 ok204 td205 sz205
attribute [go_sem] bts205 ag205 zav205 ok205 td206 zav206 ok206 td207 sz207 bts207 ag207 zav207
attribute [go_sem] ok207 td208 sz208 bts208 ag208 zav208 ok208 td209 sz209 bts209 ag209 zav209
attribute [go_sem] ok209 td210 sz210 bts210 ag210 zav210 ok210 td211 sz211 bts211 ag211 zav211
attribute [go_sem] ok211
end Go.Proofs.Ytonbnfgknijpoaa
