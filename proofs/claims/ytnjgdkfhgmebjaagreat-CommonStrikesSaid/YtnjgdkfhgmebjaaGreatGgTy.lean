/- The types' table of this seat, as equations for the formulas. Conditions: none. -/
import Derived.Test.YtnjgdkfhgmebjaaGreatGc
import Derived.Test.YtnjgdkfhgmebjaaGreatProg
import Derived.KernelRfl
namespace Go.Proofs.YtnjgdkfhgmebjaaGreat
open Go.Gg
theorem bz:Tryz.prog.follows .mixedOrders=true:=by kernel_rfl
theorem td3:td Tryz.prog 3 = .int .i64:=by kernel_rfl
theorem sz3:sz Tryz.prog 3=1:=by kernel_rfl
theorem nV:bts Tryz.prog 3=8:=by kernel_rfl
theorem ag3:bV Tryz.prog 3=false:=by kernel_rfl
theorem hH:zav Tryz.prog 3 = .int .i64 (0):=by kernel_rfl
theorem ok3:c7 Tryz.prog 3=true:=by kernel_rfl
theorem td4:td Tryz.prog 4 = .bool:=by kernel_rfl
theorem sz4:sz Tryz.prog 4=1:=by kernel_rfl
theorem z4:bts Tryz.prog 4=1:=by kernel_rfl
theorem ag4:bV Tryz.prog 4=false:=by kernel_rfl
theorem yZ:zav Tryz.prog 4 = .bool false:=by kernel_rfl
theorem ok4:c7 Tryz.prog 4=true:=by kernel_rfl
theorem td5:td Tryz.prog 5 = .int .u8:=by kernel_rfl
theorem td9:td Tryz.prog 9 = .str:=by kernel_rfl
theorem hY:td Tryz.prog 22 = .slice 103:=by kernel_rfl
theorem iR:sz Tryz.prog 22=1:=by kernel_rfl
theorem kn:bV Tryz.prog 22=false:=by kernel_rfl
theorem t1:td Tryz.prog 24 = .struct [(0,3),(1,22),(2,3)]:=by kernel_rfl
theorem e7:sz Tryz.prog 24=3:=by kernel_rfl
theorem jc:bV Tryz.prog 24=true:=by kernel_rfl
theorem oW:zav Tryz.prog 24 = .agg [.int .i64 (0),.nil,.int .i64 (0)]:=by kernel_rfl
theorem zi:c7 Tryz.prog 24=true:=by kernel_rfl
theorem u9:(c7 Tryz.prog 24 && gB (zav Tryz.prog 24) && List.all [(0,3),(1,22),(2,3)] (λf=>decide (0<sz Tryz.prog f.2)))=true:=by kernel_rfl
theorem uA:List.map (λ(f:Nat×TypeId)=>sz Tryz.prog f.2) [(0,3),(1,22),(2,3)]=[1,1,1]:=by kernel_rfl
theorem cm:td Tryz.prog 25 = .slice 60:=by kernel_rfl
theorem l_:sz Tryz.prog 25=1:=by kernel_rfl
theorem n3:bV Tryz.prog 25=false:=by kernel_rfl
theorem o5:td Tryz.prog 26 = .slice 105:=by kernel_rfl
theorem wC:sz Tryz.prog 26=1:=by kernel_rfl
theorem yH:bV Tryz.prog 26=false:=by kernel_rfl
theorem zD:td Tryz.prog 28 = .struct [(0,25),(1,26)]:=by kernel_rfl
theorem je:td Tryz.prog 34 = .iface:=by kernel_rfl
theorem aO:td Tryz.prog 58 = .slice 193:=by kernel_rfl
theorem fK:sz Tryz.prog 58=1:=by kernel_rfl
theorem gp:bV Tryz.prog 58=false:=by kernel_rfl
theorem kG:td Tryz.prog 60 = .struct [(0,4),(1,58),(2,58)]:=by kernel_rfl
theorem ay:sz Tryz.prog 60=3:=by kernel_rfl
theorem tN:bts Tryz.prog 60=56:=by kernel_rfl
theorem aW:bV Tryz.prog 60=true:=by kernel_rfl
theorem bh:zav Tryz.prog 60 = .agg [.bool false,.nil,.nil]:=by kernel_rfl
theorem co:c7 Tryz.prog 60=true:=by kernel_rfl
theorem jp:(c7 Tryz.prog 60 && gB (zav Tryz.prog 60) && List.all [(0,4),(1,58),(2,58)] (λf=>decide (0<sz Tryz.prog f.2)))=true:=by kernel_rfl
theorem jg:List.map (λ(f:Nat×TypeId)=>sz Tryz.prog f.2) [(0,4),(1,58),(2,58)]=[1,1,1]:=by kernel_rfl
theorem hO:td Tryz.prog 82 = .int .i64:=by kernel_rfl
theorem bA:td Tryz.prog 83 = .slice 3:=by kernel_rfl
theorem dJ:sz Tryz.prog 83=1:=by kernel_rfl
theorem eG:bV Tryz.prog 83=false:=by kernel_rfl
theorem yM:zav Tryz.prog 83 = .nil:=by kernel_rfl
theorem zh:c7 Tryz.prog 83=true:=by kernel_rfl
theorem qO:td Tryz.prog 103 = .struct [(0,3),(1,3),(2,83)]:=by kernel_rfl
theorem fD:sz Tryz.prog 103=3:=by kernel_rfl
theorem un:bts Tryz.prog 103=40:=by kernel_rfl
theorem rq:bV Tryz.prog 103=true:=by kernel_rfl
theorem fw:zav Tryz.prog 103 = .agg [.int .i64 (0),.int .i64 (0),.nil]:=by kernel_rfl
theorem kr:c7 Tryz.prog 103=true:=by kernel_rfl
theorem up:(c7 Tryz.prog 103 && gB (zav Tryz.prog 103) && List.all [(0,3),(1,3),(2,83)] (λf=>decide (0<sz Tryz.prog f.2)))=true:=by kernel_rfl
theorem t2:List.map (λ(f:Nat×TypeId)=>sz Tryz.prog f.2) [(0,3),(1,3),(2,83)]=[1,1,1]:=by kernel_rfl
theorem ww:td Tryz.prog 105 = .struct [(0,3),(1,83),(2,25)]:=by kernel_rfl
theorem fP:sz Tryz.prog 105=3:=by kernel_rfl
theorem nm:bV Tryz.prog 105=true:=by kernel_rfl
theorem oX:zav Tryz.prog 105 = .agg [.int .i64 (0),.nil,.nil]:=by kernel_rfl
theorem te:c7 Tryz.prog 105=true:=by kernel_rfl
theorem sD:td Tryz.prog 108 = .map 3 83:=by kernel_rfl
theorem sC:td Tryz.prog 109 = .slice 113:=by kernel_rfl
theorem uz:td Tryz.prog 113 = .struct [(0,60),(3,83)]:=by kernel_rfl
theorem sG:sz Tryz.prog 113=4:=by kernel_rfl
theorem zv:bts Tryz.prog 113=80:=by kernel_rfl
theorem z5:bV Tryz.prog 113=true:=by kernel_rfl
theorem nt:zav Tryz.prog 113 = .agg [.bool false,.nil,.nil,.nil]:=by kernel_rfl
theorem uM:c7 Tryz.prog 113=true:=by kernel_rfl
theorem xx:(c7 Tryz.prog 113 && gB (zav Tryz.prog 113) && List.all [(0,60),(3,83)] (λf=>decide (0<sz Tryz.prog f.2)))=true:=by kernel_rfl
theorem wy:List.map (λ(f:Nat×TypeId)=>sz Tryz.prog f.2) [(0,60),(3,83)]=[3,1]:=by kernel_rfl
theorem o6:td Tryz.prog 122 = .slice 4:=by kernel_rfl
theorem bT:td Tryz.prog 168 = .int .u64:=by kernel_rfl
theorem bN:td Tryz.prog 193 = .int .u32:=by kernel_rfl
theorem aR:sz Tryz.prog 193=1:=by kernel_rfl
theorem dF:bts Tryz.prog 193=4:=by kernel_rfl
theorem cD:bV Tryz.prog 193=false:=by kernel_rfl
theorem bR:zav Tryz.prog 193 = .int .u32 (0):=by kernel_rfl
theorem cJ:c7 Tryz.prog 193=true:=by kernel_rfl
theorem xf:di Tryz.prog 3=some (.one .i64):=by kernel_rfl
theorem cH:FA Tryz.prog 24 0 0 3:=⟨_,t1,rfl,rfl,by rw[sz3];decide⟩
theorem dj:FA Tryz.prog 24 1 1 22:=⟨_,t1,rfl,rfl,by rw[iR];decide⟩
theorem pV:FA Tryz.prog 24 2 2 3:=⟨_,t1,rfl,rfl,by rw[sz3];decide⟩
theorem r_:FA Tryz.prog 28 0 0 25:=⟨_,zD,rfl,rfl,by rw[l_];decide⟩
theorem rY:FA Tryz.prog 28 1 1 26:=⟨_,zD,rfl,rfl,by rw[wC];decide⟩
theorem kY:FA Tryz.prog 60 0 0 4:=⟨_,kG,rfl,rfl,by rw[sz4];decide⟩
theorem fA:FA Tryz.prog 60 1 1 58:=⟨_,kG,rfl,rfl,by rw[fK];decide⟩
theorem gE:FA Tryz.prog 60 2 2 58:=⟨_,kG,rfl,rfl,by rw[fK];decide⟩
theorem jo:FA Tryz.prog 103 0 0 3:=⟨_,qO,rfl,rfl,by rw[sz3];decide⟩
theorem eV:FA Tryz.prog 103 1 1 3:=⟨_,qO,rfl,rfl,by rw[sz3];decide⟩
theorem eU:FA Tryz.prog 103 2 2 83:=⟨_,qO,rfl,rfl,by rw[dJ];decide⟩
theorem jn:FA Tryz.prog 105 0 0 3:=⟨_,ww,rfl,rfl,by rw[sz3];decide⟩
theorem cE:FA Tryz.prog 105 1 1 83:=⟨_,ww,rfl,rfl,by rw[dJ];decide⟩
theorem iI:FA Tryz.prog 105 2 2 25:=⟨_,ww,rfl,rfl,by rw[l_];decide⟩
theorem yw:FA Tryz.prog 113 0 0 60:=⟨_,uz,rfl,rfl,by rw[ay];decide⟩
theorem yv:FA Tryz.prog 113 1 3 83:=⟨_,uz,rfl,rfl,by rw[dJ];decide⟩
end Go.Proofs.YtnjgdkfhgmebjaaGreat
