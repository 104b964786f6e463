/- The types' table of this seat, as equations for the formulas. Conditions: none. -/
import Derived.Test.YtaphmailhjfiaaaGc
import Derived.Test.YtaphmailhjfiaaaProg
import Derived.KernelRfl
namespace Go.Proofs.Ytaphmailhjfiaaa
open Go.Gg
theorem bY:Try.prog.follows .mixedOrders=true:=by kernel_rfl
theorem td3:td Try.prog 3 = .int .i64:=by kernel_rfl
theorem sz3:sz Try.prog 3=1:=by kernel_rfl
theorem px:bts Try.prog 3=8:=by kernel_rfl
theorem ag3:bH Try.prog 3=false:=by kernel_rfl
theorem iN:zav Try.prog 3 = .int .i64 (0):=by kernel_rfl
theorem ok3:c8 Try.prog 3=true:=by kernel_rfl
theorem td4:td Try.prog 4 = .bool:=by kernel_rfl
theorem sz4:sz Try.prog 4=1:=by kernel_rfl
theorem uF:bts Try.prog 4=1:=by kernel_rfl
theorem ag4:bH Try.prog 4=false:=by kernel_rfl
theorem tU:zav Try.prog 4 = .bool false:=by kernel_rfl
theorem ok4:c8 Try.prog 4=true:=by kernel_rfl
theorem td5:td Try.prog 5 = .int .u8:=by kernel_rfl
theorem td9:td Try.prog 9 = .str:=by kernel_rfl
theorem fm:td Try.prog 22 = .slice 46:=by kernel_rfl
theorem fo:sz Try.prog 22=1:=by kernel_rfl
theorem f8:bH Try.prog 22=false:=by kernel_rfl
theorem rh:td Try.prog 24 = .struct [(0,3),(1,22),(2,3)]:=by kernel_rfl
theorem dH:sz Try.prog 24=3:=by kernel_rfl
theorem fS:bH Try.prog 24=true:=by kernel_rfl
theorem l5:zav Try.prog 24 = .agg [.int .i64 (0),.nil,.int .i64 (0)]:=by kernel_rfl
theorem ui:c8 Try.prog 24=true:=by kernel_rfl
theorem tM:(c8 Try.prog 24 && fy (zav Try.prog 24) && List.all [(0,3),(1,22),(2,3)] (λf=>decide (0<sz Try.prog f.2)))=true:=by kernel_rfl
theorem sO:List.map (λ(f:Nat×TypeId)=>sz Try.prog f.2) [(0,3),(1,22),(2,3)]=[1,1,1]:=by kernel_rfl
theorem hH:td Try.prog 28 = .iface:=by kernel_rfl
theorem sQ:sz Try.prog 28=1:=by kernel_rfl
theorem ww:bH Try.prog 28=false:=by kernel_rfl
theorem v6:zav Try.prog 28 = .niface:=by kernel_rfl
theorem wL:c8 Try.prog 28=true:=by kernel_rfl
theorem aV:td Try.prog 31 = .slice 3:=by kernel_rfl
theorem dj:sz Try.prog 31=1:=by kernel_rfl
theorem fA:bH Try.prog 31=false:=by kernel_rfl
theorem so:zav Try.prog 31 = .nil:=by kernel_rfl
theorem vz:c8 Try.prog 31=true:=by kernel_rfl
theorem iY:td Try.prog 43 = .slice 4:=by kernel_rfl
theorem pM:sz Try.prog 43=1:=by kernel_rfl
theorem sg:bH Try.prog 43=false:=by kernel_rfl
theorem rb:td Try.prog 46 = .struct [(0,3),(1,3),(2,31)]:=by kernel_rfl
theorem gI:sz Try.prog 46=3:=by kernel_rfl
theorem wu:bts Try.prog 46=40:=by kernel_rfl
theorem sf:bH Try.prog 46=true:=by kernel_rfl
theorem iE:zav Try.prog 46 = .agg [.int .i64 (0),.int .i64 (0),.nil]:=by kernel_rfl
theorem od:c8 Try.prog 46=true:=by kernel_rfl
theorem tL:(c8 Try.prog 46 && fy (zav Try.prog 46) && List.all [(0,3),(1,3),(2,31)] (λf=>decide (0<sz Try.prog f.2)))=true:=by kernel_rfl
theorem sN:List.map (λ(f:Nat×TypeId)=>sz Try.prog f.2) [(0,3),(1,3),(2,31)]=[1,1,1]:=by kernel_rfl
theorem pK:td Try.prog 49 = .slice 52:=by kernel_rfl
theorem pL:sz Try.prog 49=1:=by kernel_rfl
theorem sd:bH Try.prog 49=false:=by kernel_rfl
theorem v5:zav Try.prog 49 = .nil:=by kernel_rfl
theorem wK:c8 Try.prog 49=true:=by kernel_rfl
theorem be:td Try.prog 50 = .slice 88:=by kernel_rfl
theorem l8:sz Try.prog 50=1:=by kernel_rfl
theorem oB:bH Try.prog 50=false:=by kernel_rfl
theorem ra:td Try.prog 52 = .struct [(0,4),(1,50),(2,50)]:=by kernel_rfl
theorem cu:sz Try.prog 52=3:=by kernel_rfl
theorem wt:bts Try.prog 52=56:=by kernel_rfl
theorem fj:bH Try.prog 52=true:=by kernel_rfl
theorem iD:zav Try.prog 52 = .agg [.bool false,.nil,.nil]:=by kernel_rfl
theorem oc:c8 Try.prog 52=true:=by kernel_rfl
theorem tK:(c8 Try.prog 52 && fy (zav Try.prog 52) && List.all [(0,4),(1,50),(2,50)] (λf=>decide (0<sz Try.prog f.2)))=true:=by kernel_rfl
theorem sM:List.map (λ(f:Nat×TypeId)=>sz Try.prog f.2) [(0,4),(1,50),(2,50)]=[1,1,1]:=by kernel_rfl
theorem iX:td Try.prog 65 = .int .i64:=by kernel_rfl
theorem u_:td Try.prog 66 = .slice 31:=by kernel_rfl
theorem sK:td Try.prog 71 = .struct [(0,24),(3,31),(4,43)]:=by kernel_rfl
theorem v9:sz Try.prog 71=5:=by kernel_rfl
theorem uM:zav Try.prog 71 = .agg [.int .i64 (0),.nil,.int .i64 (0),.nil,.nil]:=by kernel_rfl
theorem u0:(c8 Try.prog 71 && fy (zav Try.prog 71) && List.all [(0,24),(3,31),(4,43)] (λf=>decide (0<sz Try.prog f.2)))=true:=by kernel_rfl
theorem uO:List.map (λ(f:Nat×TypeId)=>sz Try.prog f.2) [(0,24),(3,31),(4,43)]=[3,1,1]:=by kernel_rfl
theorem dD:td Try.prog 88 = .int .u32:=by kernel_rfl
theorem bv:sz Try.prog 88=1:=by kernel_rfl
theorem ku:bts Try.prog 88=4:=by kernel_rfl
theorem fR:bH Try.prog 88=false:=by kernel_rfl
theorem gZ:zav Try.prog 88 = .int .u32 (0):=by kernel_rfl
theorem kM:c8 Try.prog 88=true:=by kernel_rfl
theorem eg:td Try.prog 90 = .int .u64:=by kernel_rfl
theorem jq:td Try.prog 91 = .int .u64:=by kernel_rfl
theorem bI:FA Try.prog 24 0 0 3:=⟨_,rh,rfl,rfl,by rw[sz3];decide⟩
theorem cz:FA Try.prog 24 1 1 22:=⟨_,rh,rfl,rfl,by rw[fo];decide⟩
theorem iA:FA Try.prog 24 2 2 3:=⟨_,rh,rfl,rfl,by rw[sz3];decide⟩
theorem jN:FA Try.prog 46 0 0 3:=⟨_,rb,rfl,rfl,by rw[sz3];decide⟩
theorem gC:FA Try.prog 46 1 1 3:=⟨_,rb,rfl,rfl,by rw[sz3];decide⟩
theorem ed:FA Try.prog 46 2 2 31:=⟨_,rb,rfl,rfl,by rw[dj];decide⟩
theorem tA:FA Try.prog 52 0 0 4:=⟨_,ra,rfl,rfl,by rw[sz4];decide⟩
theorem mN:FA Try.prog 52 1 1 50:=⟨_,ra,rfl,rfl,by rw[l8];decide⟩
theorem ou:FA Try.prog 52 2 2 50:=⟨_,ra,rfl,rfl,by rw[l8];decide⟩
theorem qc:FA Try.prog 71 0 0 24:=⟨_,sK,rfl,rfl,by rw[dH];decide⟩
theorem i_:FA Try.prog 71 1 3 31:=⟨_,sK,rfl,rfl,by rw[dj];decide⟩
theorem kX:FA Try.prog 71 2 4 43:=⟨_,sK,rfl,rfl,by rw[pM];decide⟩
end Go.Proofs.Ytaphmailhjfiaaa
