/- The types' table of this seat, as equations for the formulas. Conditions: none. -/
import Derived.Test.YtnjgdkfhgmebjaaGc
import Derived.Test.YtnjgdkfhgmebjaaProg
import Derived.KernelRfl
namespace Go.Proofs.Ytnjgdkfhgmebjaa
open Go.Gg
theorem bR:Try.prog.follows .mixedOrders=true:=by kernel_rfl
theorem td3:td Try.prog 3 = .int .i64:=by kernel_rfl
theorem sz3:sz Try.prog 3=1:=by kernel_rfl
theorem pb:bts Try.prog 3=8:=by kernel_rfl
theorem ag3:bJ Try.prog 3=false:=by kernel_rfl
theorem i4:zav Try.prog 3 = .int .i64 (0):=by kernel_rfl
theorem ok3:cI Try.prog 3=true:=by kernel_rfl
theorem td4:td Try.prog 4 = .bool:=by kernel_rfl
theorem sz4:sz Try.prog 4=1:=by kernel_rfl
theorem ag4:bJ Try.prog 4=false:=by kernel_rfl
theorem td5:td Try.prog 5 = .int .u8:=by kernel_rfl
theorem td9:td Try.prog 9 = .str:=by kernel_rfl
theorem dI:td Try.prog 22 = .slice 52:=by kernel_rfl
theorem d3:sz Try.prog 22=1:=by kernel_rfl
theorem eG:bJ Try.prog 22=false:=by kernel_rfl
theorem qm:td Try.prog 24 = .struct [(0,3),(1,22),(2,3)]:=by kernel_rfl
theorem fL:sz Try.prog 24=3:=by kernel_rfl
theorem kT:bJ Try.prog 24=true:=by kernel_rfl
theorem lP:zav Try.prog 24 = .agg [.int .i64 (0),.nil,.int .i64 (0)]:=by kernel_rfl
theorem uA:cI Try.prog 24=true:=by kernel_rfl
theorem rz:(cI Try.prog 24 && eU (zav Try.prog 24) && List.all [(0,3),(1,22),(2,3)] (λf=>decide (0<sz Try.prog f.2)))=true:=by kernel_rfl
theorem qV:List.map (λ(f:Nat×TypeId)=>sz Try.prog f.2) [(0,3),(1,22),(2,3)]=[1,1,1]:=by kernel_rfl
theorem cD:td Try.prog 25 = .slice 38:=by kernel_rfl
theorem sU:sz Try.prog 25=1:=by kernel_rfl
theorem u0:bJ Try.prog 25=false:=by kernel_rfl
theorem i5:td Try.prog 30 = .iface:=by kernel_rfl
theorem aG:td Try.prog 36 = .slice 78:=by kernel_rfl
theorem gW:sz Try.prog 36=1:=by kernel_rfl
theorem iT:bJ Try.prog 36=false:=by kernel_rfl
theorem j0:td Try.prog 38 = .struct [(0,4),(1,36),(2,36)]:=by kernel_rfl
theorem aF:sz Try.prog 38=3:=by kernel_rfl
theorem tW:bts Try.prog 38=56:=by kernel_rfl
theorem bm:bJ Try.prog 38=true:=by kernel_rfl
theorem bu:zav Try.prog 38 = .agg [.bool false,.nil,.nil]:=by kernel_rfl
theorem dl:cI Try.prog 38=true:=by kernel_rfl
theorem i3:(cI Try.prog 38 && eU (zav Try.prog 38) && List.all [(0,4),(1,36),(2,36)] (λf=>decide (0<sz Try.prog f.2)))=true:=by kernel_rfl
theorem iU:List.map (λ(f:Nat×TypeId)=>sz Try.prog f.2) [(0,4),(1,36),(2,36)]=[1,1,1]:=by kernel_rfl
theorem ca:td Try.prog 39 = .slice 3:=by kernel_rfl
theorem fY:sz Try.prog 39=1:=by kernel_rfl
theorem iy:bJ Try.prog 39=false:=by kernel_rfl
theorem ve:zav Try.prog 39 = .nil:=by kernel_rfl
theorem vW:cI Try.prog 39=true:=by kernel_rfl
theorem ue:td Try.prog 41 = .struct [(0,3),(1,39),(2,25)]:=by kernel_rfl
theorem oL:sz Try.prog 41=3:=by kernel_rfl
theorem uY:bJ Try.prog 41=true:=by kernel_rfl
theorem qR:zav Try.prog 41 = .agg [.int .i64 (0),.nil,.nil]:=by kernel_rfl
theorem vV:cI Try.prog 41=true:=by kernel_rfl
theorem wQ:(cI Try.prog 41 && eU (zav Try.prog 41) && List.all [(0,3),(1,39),(2,25)] (λf=>decide (0<sz Try.prog f.2)))=true:=by kernel_rfl
theorem ww:List.map (λ(f:Nat×TypeId)=>sz Try.prog f.2) [(0,3),(1,39),(2,25)]=[1,1,1]:=by kernel_rfl
theorem sO:td Try.prog 42 = .slice 41:=by kernel_rfl
theorem rD:td Try.prog 52 = .struct [(0,3),(1,3),(2,39)]:=by kernel_rfl
theorem fB:sz Try.prog 52=3:=by kernel_rfl
theorem tV:bts Try.prog 52=40:=by kernel_rfl
theorem uX:bJ Try.prog 52=true:=by kernel_rfl
theorem ij:zav Try.prog 52 = .agg [.int .i64 (0),.int .i64 (0),.nil]:=by kernel_rfl
theorem nY:cI Try.prog 52=true:=by kernel_rfl
theorem tX:(cI Try.prog 52 && eU (zav Try.prog 52) && List.all [(0,3),(1,3),(2,39)] (λf=>decide (0<sz Try.prog f.2)))=true:=by kernel_rfl
theorem sQ:List.map (λ(f:Nat×TypeId)=>sz Try.prog f.2) [(0,3),(1,3),(2,39)]=[1,1,1]:=by kernel_rfl
theorem sN:td Try.prog 56 = .map 3 39:=by kernel_rfl
theorem sM:td Try.prog 57 = .slice 61:=by kernel_rfl
theorem ud:td Try.prog 61 = .struct [(0,38),(3,39)]:=by kernel_rfl
theorem sT:sz Try.prog 61=4:=by kernel_rfl
theorem wO:bts Try.prog 61=80:=by kernel_rfl
theorem xg:bJ Try.prog 61=true:=by kernel_rfl
theorem oa:zav Try.prog 61 = .agg [.bool false,.nil,.nil,.nil]:=by kernel_rfl
theorem uz:cI Try.prog 61=true:=by kernel_rfl
theorem vD:(cI Try.prog 61 && eU (zav Try.prog 61) && List.all [(0,38),(3,39)] (λf=>decide (0<sz Try.prog f.2)))=true:=by kernel_rfl
theorem vf:List.map (λ(f:Nat×TypeId)=>sz Try.prog f.2) [(0,38),(3,39)]=[3,1]:=by kernel_rfl
theorem fX:td Try.prog 62 = .int .i64:=by kernel_rfl
theorem cE:td Try.prog 78 = .int .u32:=by kernel_rfl
theorem a_:sz Try.prog 78=1:=by kernel_rfl
theorem eX:bts Try.prog 78=4:=by kernel_rfl
theorem dG:bJ Try.prog 78=false:=by kernel_rfl
theorem cC:zav Try.prog 78 = .int .u32 (0):=by kernel_rfl
theorem ec:cI Try.prog 78=true:=by kernel_rfl
theorem cR:td Try.prog 95 = .int .u64:=by kernel_rfl
theorem tJ:cU Try.prog 3=some (.one .i64):=by kernel_rfl
theorem c5:FA Try.prog 24 0 0 3:=⟨_,qm,rfl,rfl,by rw[sz3];decide⟩
theorem bM:FA Try.prog 24 1 1 22:=⟨_,qm,rfl,rfl,by rw[d3];decide⟩
theorem nC:FA Try.prog 24 2 2 3:=⟨_,qm,rfl,rfl,by rw[sz3];decide⟩
theorem lF:FA Try.prog 38 0 0 4:=⟨_,j0,rfl,rfl,by rw[sz4];decide⟩
theorem ie:FA Try.prog 38 1 1 36:=⟨_,j0,rfl,rfl,by rw[gW];decide⟩
theorem iP:FA Try.prog 38 2 2 36:=⟨_,j0,rfl,rfl,by rw[gW];decide⟩
theorem o8:FA Try.prog 41 0 0 3:=⟨_,ue,rfl,rfl,by rw[sz3];decide⟩
theorem gH:FA Try.prog 41 1 1 39:=⟨_,ue,rfl,rfl,by rw[fY];decide⟩
theorem o7:FA Try.prog 41 2 2 25:=⟨_,ue,rfl,rfl,by rw[sU];decide⟩
theorem gG:FA Try.prog 52 0 0 3:=⟨_,rD,rfl,rfl,by rw[sz3];decide⟩
theorem ib:FA Try.prog 52 1 1 3:=⟨_,rD,rfl,rfl,by rw[sz3];decide⟩
theorem iO:FA Try.prog 52 2 2 39:=⟨_,rD,rfl,rfl,by rw[fY];decide⟩
theorem wa:FA Try.prog 61 0 0 38:=⟨_,ud,rfl,rfl,by rw[aF];decide⟩
theorem v_:FA Try.prog 61 1 3 39:=⟨_,ud,rfl,rfl,by rw[fY];decide⟩
end Go.Proofs.Ytnjgdkfhgmebjaa
