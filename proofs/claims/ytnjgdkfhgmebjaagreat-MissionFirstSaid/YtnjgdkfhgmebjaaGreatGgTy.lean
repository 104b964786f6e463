/- The types' table of this seat, as equations for the formulas. Conditions: none. -/
import Derived.Test.YtnjgdkfhgmebjaaGreatGc
import Derived.Test.YtnjgdkfhgmebjaaGreatProg
import Derived.KernelRfl
namespace Go.Proofs.YtnjgdkfhgmebjaaGreat
open Go.Gg
theorem bC:Tryz.prog.follows .mixedOrders=true:=by kernel_rfl
theorem td3:td Tryz.prog 3 = .int .i64:=by kernel_rfl
theorem sz3:sz Tryz.prog 3=1:=by kernel_rfl
theorem l8:bts Tryz.prog 3=8:=by kernel_rfl
theorem ag3:bW Tryz.prog 3=false:=by kernel_rfl
theorem ff:zav Tryz.prog 3 = .int .i64 (0):=by kernel_rfl
theorem ok3:da Tryz.prog 3=true:=by kernel_rfl
theorem td4:td Tryz.prog 4 = .bool:=by kernel_rfl
theorem sz4:sz Tryz.prog 4=1:=by kernel_rfl
theorem Cp:bts Tryz.prog 4=1:=by kernel_rfl
theorem ag4:bW Tryz.prog 4=false:=by kernel_rfl
theorem ym:zav Tryz.prog 4 = .bool false:=by kernel_rfl
theorem ok4:da Tryz.prog 4=true:=by kernel_rfl
theorem td5:td Tryz.prog 5 = .int .u8:=by kernel_rfl
theorem td9:td Tryz.prog 9 = .str:=by kernel_rfl
theorem cP:td Tryz.prog 22 = .slice 103:=by kernel_rfl
theorem db:sz Tryz.prog 22=1:=by kernel_rfl
theorem dD:bW Tryz.prog 22=false:=by kernel_rfl
theorem sv:td Tryz.prog 24 = .struct [(0,3),(1,22),(2,3)]:=by kernel_rfl
theorem b9:sz Tryz.prog 24=3:=by kernel_rfl
theorem FN:bts Tryz.prog 24=40:=by kernel_rfl
theorem eH:bW Tryz.prog 24=true:=by kernel_rfl
theorem eS:zav Tryz.prog 24 = .agg [.int .i64 (0),.nil,.int .i64 (0)]:=by kernel_rfl
theorem m4:da Tryz.prog 24=true:=by kernel_rfl
theorem qi:(da Tryz.prog 24 && gv (zav Tryz.prog 24) && List.all [(0,3),(1,22),(2,3)] (λf=>decide (0<sz Tryz.prog f.2)))=true:=by kernel_rfl
theorem pZ:List.map (λ(f:Nat×TypeId)=>sz Tryz.prog f.2) [(0,3),(1,22),(2,3)]=[1,1,1]:=by kernel_rfl
theorem d7:td Tryz.prog 25 = .slice 60:=by kernel_rfl
theorem hH:sz Tryz.prog 25=1:=by kernel_rfl
theorem FM:bts Tryz.prog 25=24:=by kernel_rfl
theorem ph:bW Tryz.prog 25=false:=by kernel_rfl
theorem yn:zav Tryz.prog 25 = .nil:=by kernel_rfl
theorem Dj:da Tryz.prog 25=true:=by kernel_rfl
theorem gu:td Tryz.prog 34 = .iface:=by kernel_rfl
theorem ez:td Tryz.prog 49 = .slice 24:=by kernel_rfl
theorem fi:sz Tryz.prog 49=1:=by kernel_rfl
theorem fA:bW Tryz.prog 49=false:=by kernel_rfl
theorem gf:td Tryz.prog 50 = .slice 25:=by kernel_rfl
theorem gK:sz Tryz.prog 50=1:=by kernel_rfl
theorem iH:bW Tryz.prog 50=false:=by kernel_rfl
theorem BT:td Tryz.prog 52 = .struct [(0,49),(1,50)]:=by kernel_rfl
theorem dp:sz Tryz.prog 52=2:=by kernel_rfl
theorem eR:bW Tryz.prog 52=true:=by kernel_rfl
theorem od:zav Tryz.prog 52 = .agg [.nil,.nil]:=by kernel_rfl
theorem y5:da Tryz.prog 52=true:=by kernel_rfl
theorem BJ:(da Tryz.prog 52 && gv (zav Tryz.prog 52) && List.all [(0,49),(1,50)] (λf=>decide (0<sz Tryz.prog f.2)))=true:=by kernel_rfl
theorem AP:List.map (λ(f:Nat×TypeId)=>sz Tryz.prog f.2) [(0,49),(1,50)]=[1,1]:=by kernel_rfl
theorem bp:td Tryz.prog 58 = .slice 193:=by kernel_rfl
theorem i8:sz Tryz.prog 58=1:=by kernel_rfl
theorem jB:bW Tryz.prog 58=false:=by kernel_rfl
theorem nf:td Tryz.prog 60 = .struct [(0,4),(1,58),(2,58)]:=by kernel_rfl
theorem a_:sz Tryz.prog 60=3:=by kernel_rfl
theorem tH:bts Tryz.prog 60=56:=by kernel_rfl
theorem bK:bW Tryz.prog 60=true:=by kernel_rfl
theorem bN:zav Tryz.prog 60 = .agg [.bool false,.nil,.nil]:=by kernel_rfl
theorem dz:da Tryz.prog 60=true:=by kernel_rfl
theorem kr:(da Tryz.prog 60 && gv (zav Tryz.prog 60) && List.all [(0,4),(1,58),(2,58)] (λf=>decide (0<sz Tryz.prog f.2)))=true:=by kernel_rfl
theorem j7:List.map (λ(f:Nat×TypeId)=>sz Tryz.prog f.2) [(0,4),(1,58),(2,58)]=[1,1,1]:=by kernel_rfl
theorem iv:td Tryz.prog 82 = .int .i64:=by kernel_rfl
theorem G7:zav Tryz.prog 82 = .int .i64 (0):=by kernel_rfl
theorem Ic:da Tryz.prog 82=true:=by kernel_rfl
theorem bA:td Tryz.prog 83 = .slice 3:=by kernel_rfl
theorem dl:sz Tryz.prog 83=1:=by kernel_rfl
theorem FL:bts Tryz.prog 83=24:=by kernel_rfl
theorem fR:bW Tryz.prog 83=false:=by kernel_rfl
theorem AG:zav Tryz.prog 83 = .nil:=by kernel_rfl
theorem EJ:da Tryz.prog 83=true:=by kernel_rfl
theorem oG:td Tryz.prog 103 = .struct [(0,3),(1,3),(2,83)]:=by kernel_rfl
theorem cm:sz Tryz.prog 103=3:=by kernel_rfl
theorem s8:bts Tryz.prog 103=40:=by kernel_rfl
theorem nA:bW Tryz.prog 103=true:=by kernel_rfl
theorem cS:zav Tryz.prog 103 = .agg [.int .i64 (0),.int .i64 (0),.nil]:=by kernel_rfl
theorem fS:da Tryz.prog 103=true:=by kernel_rfl
theorem pd:(da Tryz.prog 103 && gv (zav Tryz.prog 103) && List.all [(0,3),(1,3),(2,83)] (λf=>decide (0<sz Tryz.prog f.2)))=true:=by kernel_rfl
theorem oH:List.map (λ(f:Nat×TypeId)=>sz Tryz.prog f.2) [(0,3),(1,3),(2,83)]=[1,1,1]:=by kernel_rfl
theorem lx:td Tryz.prog 114 = .slice 83:=by kernel_rfl
theorem uy:sz Tryz.prog 114=1:=by kernel_rfl
theorem xm:bW Tryz.prog 114=false:=by kernel_rfl
theorem F4:zav Tryz.prog 114 = .nil:=by kernel_rfl
theorem Ht:da Tryz.prog 114=true:=by kernel_rfl
theorem eA:td Tryz.prog 122 = .slice 4:=by kernel_rfl
theorem yC:sz Tryz.prog 122=1:=by kernel_rfl
theorem BN:bW Tryz.prog 122=false:=by kernel_rfl
theorem mg:td Tryz.prog 141 = .slice 220:=by kernel_rfl
theorem ly:sz Tryz.prog 141=1:=by kernel_rfl
theorem pi:bW Tryz.prog 141=false:=by kernel_rfl
theorem uw:td Tryz.prog 143 = .struct [(0,83),(1,141),(2,3)]:=by kernel_rfl
theorem iw:sz Tryz.prog 143=3:=by kernel_rfl
theorem tJ:bW Tryz.prog 143=true:=by kernel_rfl
theorem nF:zav Tryz.prog 143 = .agg [.nil,.nil,.int .i64 (0)]:=by kernel_rfl
theorem Bc:da Tryz.prog 143=true:=by kernel_rfl
theorem v4:(da Tryz.prog 143 && gv (zav Tryz.prog 143) && List.all [(0,83),(1,141),(2,3)] (λf=>decide (0<sz Tryz.prog f.2)))=true:=by kernel_rfl
theorem ux:List.map (λ(f:Nat×TypeId)=>sz Tryz.prog f.2) [(0,83),(1,141),(2,3)]=[1,1,1]:=by kernel_rfl
theorem cN:td Tryz.prog 168 = .int .u64:=by kernel_rfl
theorem cG:td Tryz.prog 193 = .int .u32:=by kernel_rfl
theorem bt:sz Tryz.prog 193=1:=by kernel_rfl
theorem fP:bts Tryz.prog 193=4:=by kernel_rfl
theorem dv:bW Tryz.prog 193=false:=by kernel_rfl
theorem cK:zav Tryz.prog 193 = .int .u32 (0):=by kernel_rfl
theorem dK:da Tryz.prog 193=true:=by kernel_rfl
theorem AW:sz Tryz.prog 206=1:=by kernel_rfl
theorem D9:bW Tryz.prog 206=false:=by kernel_rfl
theorem F3:zav Tryz.prog 206 = .nilf:=by kernel_rfl
theorem Hs:da Tryz.prog 206=true:=by kernel_rfl
theorem AU:sz Tryz.prog 215=1:=by kernel_rfl
theorem BM:bW Tryz.prog 215=false:=by kernel_rfl
theorem yz:td Tryz.prog 220 = .struct [(0,3),(1,3),(2,3)]:=by kernel_rfl
theorem jc:sz Tryz.prog 220=3:=by kernel_rfl
theorem DZ:bts Tryz.prog 220=24:=by kernel_rfl
theorem v9:bW Tryz.prog 220=true:=by kernel_rfl
theorem mH:zav Tryz.prog 220 = .agg [.int .i64 (0),.int .i64 (0),.int .i64 (0)]:=by kernel_rfl
theorem tD:da Tryz.prog 220=true:=by kernel_rfl
theorem D0:(da Tryz.prog 220 && gv (zav Tryz.prog 220) && List.all [(0,3),(1,3),(2,3)] (λf=>decide (0<sz Tryz.prog f.2)))=true:=by kernel_rfl
theorem CU:List.map (λ(f:Nat×TypeId)=>sz Tryz.prog f.2) [(0,3),(1,3),(2,3)]=[1,1,1]:=by kernel_rfl
theorem AS:sz Tryz.prog 248=1:=by kernel_rfl
theorem D8:bW Tryz.prog 248=false:=by kernel_rfl
theorem F2:zav Tryz.prog 248 = .nilf:=by kernel_rfl
theorem Hr:da Tryz.prog 248=true:=by kernel_rfl
theorem yy:td Tryz.prog 253 = .map 3 4:=by kernel_rfl
theorem yB:sz Tryz.prog 253=1:=by kernel_rfl
theorem BL:bW Tryz.prog 253=false:=by kernel_rfl
theorem F1:zav Tryz.prog 253 = .nilmap:=by kernel_rfl
theorem Hq:da Tryz.prog 253=true:=by kernel_rfl
theorem AO:td Tryz.prog 266 = .struct [(0,24),(3,83),(4,122)]:=by kernel_rfl
theorem Ha:sz Tryz.prog 266=5:=by kernel_rfl
theorem F0:zav Tryz.prog 266 = .agg [.int .i64 (0),.nil,.int .i64 (0),.nil,.nil]:=by kernel_rfl
theorem GW:(da Tryz.prog 266 && gv (zav Tryz.prog 266) && List.all [(0,24),(3,83),(4,122)] (λf=>decide (0<sz Tryz.prog f.2)))=true:=by kernel_rfl
theorem Gf:List.map (λ(f:Nat×TypeId)=>sz Tryz.prog f.2) [(0,24),(3,83),(4,122)]=[3,1,1]:=by kernel_rfl
theorem CS:td Tryz.prog 267 = .map 220 3:=by kernel_rfl
theorem CX:sz Tryz.prog 267=1:=by kernel_rfl
theorem FSx:bW Tryz.prog 267=false:=by kernel_rfl
theorem CQ:td Tryz.prog 268 = .map 341 3:=by kernel_rfl
theorem CW:sz Tryz.prog 268=1:=by kernel_rfl
theorem FR:bW Tryz.prog 268=false:=by kernel_rfl
theorem wO:td Tryz.prog 270 = .struct [(0,83),(1,83),(2,141),(3,267),(4,268)]:=by kernel_rfl
theorem G_:sz Tryz.prog 270=5:=by kernel_rfl
theorem FZ:zav Tryz.prog 270 = .agg [.nil,.nil,.nil,.nilmap,.nilmap]:=by kernel_rfl
theorem GV:(da Tryz.prog 270 && gv (zav Tryz.prog 270) && List.all [(0,83),(1,83),(2,141),(3,267),(4,268)] (λf=>decide (0<sz Tryz.prog f.2)))=true:=by kernel_rfl
theorem Ge:List.map (λ(f:Nat×TypeId)=>sz Tryz.prog f.2) [(0,83),(1,83),(2,141),(3,267),(4,268)]=[1,1,1,1,1]:=by kernel_rfl
theorem wN:td Tryz.prog 274 = .map 3 3:=by kernel_rfl
theorem AR:sz Tryz.prog 274=1:=by kernel_rfl
theorem D7:bW Tryz.prog 274=false:=by kernel_rfl
theorem FY:zav Tryz.prog 274 = .nilmap:=by kernel_rfl
theorem Hp:da Tryz.prog 274=true:=by kernel_rfl
theorem G9:td Tryz.prog 341 = .array 3 3:=by kernel_rfl
theorem AQ:sz Tryz.prog 341=3:=by kernel_rfl
theorem FQ:bW Tryz.prog 341=true:=by kernel_rfl
theorem Cw:zav Tryz.prog 341 = .agg [.int .i64 (0),.int .i64 (0),.int .i64 (0)]:=by kernel_rfl
theorem Fy:da Tryz.prog 341=true:=by kernel_rfl
theorem xP:eD Tryz.prog 3=some (.one .i64):=by kernel_rfl
theorem Ah:eD Tryz.prog 220=some (.many [.i64,.i64,.i64]):=by kernel_rfl
theorem Ag:eD Tryz.prog 341=some (.many [.i64,.i64,.i64]):=by kernel_rfl
theorem bT:FA Tryz.prog 24 0 0 3:=⟨_,sv,rfl,rfl,by rw[sz3];decide⟩
theorem bD:FA Tryz.prog 24 1 1 22:=⟨_,sv,rfl,rfl,by rw[db];decide⟩
theorem gy:FA Tryz.prog 24 2 2 3:=⟨_,sv,rfl,rfl,by rw[sz3];decide⟩
theorem ck:FA Tryz.prog 52 0 0 49:=⟨_,BT,rfl,rfl,by rw[fi];decide⟩
theorem cX:FA Tryz.prog 52 1 1 50:=⟨_,BT,rfl,rfl,by rw[gK];decide⟩
theorem o7:FA Tryz.prog 60 0 0 4:=⟨_,nf,rfl,rfl,by rw[sz4];decide⟩
theorem iU:FA Tryz.prog 60 1 1 58:=⟨_,nf,rfl,rfl,by rw[i8];decide⟩
theorem jN:FA Tryz.prog 60 2 2 58:=⟨_,nf,rfl,rfl,by rw[i8];decide⟩
theorem eE:FA Tryz.prog 103 0 0 3:=⟨_,oG,rfl,rfl,by rw[sz3];decide⟩
theorem dh:FA Tryz.prog 103 1 1 3:=⟨_,oG,rfl,rfl,by rw[sz3];decide⟩
theorem cD:FA Tryz.prog 103 2 2 83:=⟨_,oG,rfl,rfl,by rw[dl];decide⟩
theorem rS:FA Tryz.prog 143 1 1 141:=⟨_,uw,rfl,rfl,by rw[ly];decide⟩
theorem BA:FA Tryz.prog 143 2 2 3:=⟨_,uw,rfl,rfl,by rw[sz3];decide⟩
theorem xW:FA Tryz.prog 220 0 0 3:=⟨_,yz,rfl,rfl,by rw[sz3];decide⟩
theorem un:FA Tryz.prog 220 1 1 3:=⟨_,yz,rfl,rfl,by rw[sz3];decide⟩
theorem um:FA Tryz.prog 220 2 2 3:=⟨_,yz,rfl,rfl,by rw[sz3];decide⟩
theorem xV:FA Tryz.prog 266 0 0 24:=⟨_,AO,rfl,rfl,by rw[b9];decide⟩
theorem rR:FA Tryz.prog 266 1 3 83:=⟨_,AO,rfl,rfl,by rw[dl];decide⟩
theorem uk:FA Tryz.prog 266 2 4 122:=⟨_,AO,rfl,rfl,by rw[yC];decide⟩
theorem xU:FA Tryz.prog 270 0 0 83:=⟨_,wO,rfl,rfl,by rw[dl];decide⟩
theorem Bz:FA Tryz.prog 270 1 1 83:=⟨_,wO,rfl,rfl,by rw[dl];decide⟩
theorem mC:FA Tryz.prog 270 2 2 141:=⟨_,wO,rfl,rfl,by rw[ly];decide⟩
theorem Bx:FA Tryz.prog 270 3 3 267:=⟨_,wO,rfl,rfl,by rw[CX];decide⟩
theorem Bw:FA Tryz.prog 270 4 4 268:=⟨_,wO,rfl,rfl,by rw[CW];decide⟩
end Go.Proofs.YtnjgdkfhgmebjaaGreat
