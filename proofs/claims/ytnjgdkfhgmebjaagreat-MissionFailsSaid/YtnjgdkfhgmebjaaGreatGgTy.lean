/- The types' table of this seat, as equations for the formulas. Conditions: none. -/
import Derived.Test.YtnjgdkfhgmebjaaGreatGc
import Derived.Test.YtnjgdkfhgmebjaaGreatProg
import Derived.KernelRfl
namespace Go.Proofs.YtnjgdkfhgmebjaaGreat
open Go.Gg
theorem bD:Tryz.prog.follows .mixedOrders=true:=by kernel_rfl
theorem td3:td Tryz.prog 3 = .int .i64:=by kernel_rfl
theorem sz3:sz Tryz.prog 3=1:=by kernel_rfl
theorem lW:bts Tryz.prog 3=8:=by kernel_rfl
theorem ag3:bM Tryz.prog 3=false:=by kernel_rfl
theorem eW:zav Tryz.prog 3 = .int .i64 (0):=by kernel_rfl
theorem ok3:cT Tryz.prog 3=true:=by kernel_rfl
theorem td4:td Tryz.prog 4 = .bool:=by kernel_rfl
theorem sz4:sz Tryz.prog 4=1:=by kernel_rfl
theorem B7:bts Tryz.prog 4=1:=by kernel_rfl
theorem ag4:bM Tryz.prog 4=false:=by kernel_rfl
theorem xV:zav Tryz.prog 4 = .bool false:=by kernel_rfl
theorem ok4:cT Tryz.prog 4=true:=by kernel_rfl
theorem td5:td Tryz.prog 5 = .int .u8:=by kernel_rfl
theorem td9:td Tryz.prog 9 = .str:=by kernel_rfl
theorem dV:td Tryz.prog 22 = .slice 103:=by kernel_rfl
theorem eP:sz Tryz.prog 22=1:=by kernel_rfl
theorem fJ:bM Tryz.prog 22=false:=by kernel_rfl
theorem tf:td Tryz.prog 24 = .struct [(0,3),(1,22),(2,3)]:=by kernel_rfl
theorem cg:sz Tryz.prog 24=3:=by kernel_rfl
theorem fe:bM Tryz.prog 24=true:=by kernel_rfl
theorem fY:zav Tryz.prog 24 = .agg [.int .i64 (0),.nil,.int .i64 (0)]:=by kernel_rfl
theorem qb:cT Tryz.prog 24=true:=by kernel_rfl
theorem rH:(cT Tryz.prog 24 && fV (zav Tryz.prog 24) && List.all [(0,3),(1,22),(2,3)] (λf=>decide (0<sz Tryz.prog f.2)))=true:=by kernel_rfl
theorem qz:List.map (λ(f:Nat×TypeId)=>sz Tryz.prog f.2) [(0,3),(1,22),(2,3)]=[1,1,1]:=by kernel_rfl
theorem eD:td Tryz.prog 25 = .slice 60:=by kernel_rfl
theorem iP:sz Tryz.prog 25=1:=by kernel_rfl
theorem DF:bts Tryz.prog 25=24:=by kernel_rfl
theorem rL:bM Tryz.prog 25=false:=by kernel_rfl
theorem t5:zav Tryz.prog 25 = .nil:=by kernel_rfl
theorem zP:cT Tryz.prog 25=true:=by kernel_rfl
theorem gL:td Tryz.prog 34 = .iface:=by kernel_rfl
theorem fK:td Tryz.prog 49 = .slice 24:=by kernel_rfl
theorem fU:sz Tryz.prog 49=1:=by kernel_rfl
theorem gl:bM Tryz.prog 49=false:=by kernel_rfl
theorem gi:td Tryz.prog 50 = .slice 25:=by kernel_rfl
theorem hZ:sz Tryz.prog 50=1:=by kernel_rfl
theorem jl:bM Tryz.prog 50=false:=by kernel_rfl
theorem Cv:td Tryz.prog 52 = .struct [(0,49),(1,50)]:=by kernel_rfl
theorem d7:sz Tryz.prog 52=2:=by kernel_rfl
theorem fj:bM Tryz.prog 52=true:=by kernel_rfl
theorem t4:zav Tryz.prog 52 = .agg [.nil,.nil]:=by kernel_rfl
theorem Ev:cT Tryz.prog 52=true:=by kernel_rfl
theorem DH:(cT Tryz.prog 52 && fV (zav Tryz.prog 52) && List.all [(0,49),(1,50)] (λf=>decide (0<sz Tryz.prog f.2)))=true:=by kernel_rfl
theorem Cz:List.map (λ(f:Nat×TypeId)=>sz Tryz.prog f.2) [(0,49),(1,50)]=[1,1]:=by kernel_rfl
theorem bg:td Tryz.prog 58 = .slice 193:=by kernel_rfl
theorem jo:sz Tryz.prog 58=1:=by kernel_rfl
theorem j8:bM Tryz.prog 58=false:=by kernel_rfl
theorem lT:td Tryz.prog 60 = .struct [(0,4),(1,58),(2,58)]:=by kernel_rfl
theorem aO:sz Tryz.prog 60=3:=by kernel_rfl
theorem ta:bts Tryz.prog 60=56:=by kernel_rfl
theorem bz:bM Tryz.prog 60=true:=by kernel_rfl
theorem bC:zav Tryz.prog 60 = .agg [.bool false,.nil,.nil]:=by kernel_rfl
theorem de:cT Tryz.prog 60=true:=by kernel_rfl
theorem jh:(cT Tryz.prog 60 && fV (zav Tryz.prog 60) && List.all [(0,4),(1,58),(2,58)] (λf=>decide (0<sz Tryz.prog f.2)))=true:=by kernel_rfl
theorem iU:List.map (λ(f:Nat×TypeId)=>sz Tryz.prog f.2) [(0,4),(1,58),(2,58)]=[1,1,1]:=by kernel_rfl
theorem hY:td Tryz.prog 82 = .int .i64:=by kernel_rfl
theorem GM:zav Tryz.prog 82 = .int .i64 (0):=by kernel_rfl
theorem HT:cT Tryz.prog 82=true:=by kernel_rfl
theorem bu:td Tryz.prog 83 = .slice 3:=by kernel_rfl
theorem dd:sz Tryz.prog 83=1:=by kernel_rfl
theorem Fu:bts Tryz.prog 83=24:=by kernel_rfl
theorem fP:bM Tryz.prog 83=false:=by kernel_rfl
theorem Ar:zav Tryz.prog 83 = .nil:=by kernel_rfl
theorem Eu:cT Tryz.prog 83=true:=by kernel_rfl
theorem pE:td Tryz.prog 103 = .struct [(0,3),(1,3),(2,83)]:=by kernel_rfl
theorem cL:sz Tryz.prog 103=3:=by kernel_rfl
theorem vC:bts Tryz.prog 103=40:=by kernel_rfl
theorem od:bM Tryz.prog 103=true:=by kernel_rfl
theorem c7:zav Tryz.prog 103 = .agg [.int .i64 (0),.int .i64 (0),.nil]:=by kernel_rfl
theorem gB:cT Tryz.prog 103=true:=by kernel_rfl
theorem qm:(cT Tryz.prog 103 && fV (zav Tryz.prog 103) && List.all [(0,3),(1,3),(2,83)] (λf=>decide (0<sz Tryz.prog f.2)))=true:=by kernel_rfl
theorem pX:List.map (λ(f:Nat×TypeId)=>sz Tryz.prog f.2) [(0,3),(1,3),(2,83)]=[1,1,1]:=by kernel_rfl
theorem kY:td Tryz.prog 114 = .slice 83:=by kernel_rfl
theorem ua:sz Tryz.prog 114=1:=by kernel_rfl
theorem wX:bM Tryz.prog 114=false:=by kernel_rfl
theorem FM:zav Tryz.prog 114 = .nil:=by kernel_rfl
theorem G_:cT Tryz.prog 114=true:=by kernel_rfl
theorem d4:td Tryz.prog 122 = .slice 4:=by kernel_rfl
theorem yj:sz Tryz.prog 122=1:=by kernel_rfl
theorem Bu:bM Tryz.prog 122=false:=by kernel_rfl
theorem lY:td Tryz.prog 141 = .slice 220:=by kernel_rfl
theorem k_:sz Tryz.prog 141=1:=by kernel_rfl
theorem oW:bM Tryz.prog 141=false:=by kernel_rfl
theorem t9:td Tryz.prog 143 = .struct [(0,83),(1,141),(2,3)]:=by kernel_rfl
theorem h9:sz Tryz.prog 143=3:=by kernel_rfl
theorem te:bM Tryz.prog 143=true:=by kernel_rfl
theorem nj:zav Tryz.prog 143 = .agg [.nil,.nil,.int .i64 (0)]:=by kernel_rfl
theorem AX:cT Tryz.prog 143=true:=by kernel_rfl
theorem vF:(cT Tryz.prog 143 && fV (zav Tryz.prog 143) && List.all [(0,83),(1,141),(2,3)] (λf=>decide (0<sz Tryz.prog f.2)))=true:=by kernel_rfl
theorem t_:List.map (λ(f:Nat×TypeId)=>sz Tryz.prog f.2) [(0,83),(1,141),(2,3)]=[1,1,1]:=by kernel_rfl
theorem cD:td Tryz.prog 168 = .int .u64:=by kernel_rfl
theorem ct:td Tryz.prog 193 = .int .u32:=by kernel_rfl
theorem bh:sz Tryz.prog 193=1:=by kernel_rfl
theorem fH:bts Tryz.prog 193=4:=by kernel_rfl
theorem dg:bM Tryz.prog 193=false:=by kernel_rfl
theorem cI:zav Tryz.prog 193 = .int .u32 (0):=by kernel_rfl
theorem dR:cT Tryz.prog 193=true:=by kernel_rfl
theorem AB:sz Tryz.prog 206=1:=by kernel_rfl
theorem DS:bM Tryz.prog 206=false:=by kernel_rfl
theorem FL:zav Tryz.prog 206 = .nilf:=by kernel_rfl
theorem G9:cT Tryz.prog 206=true:=by kernel_rfl
theorem AA:sz Tryz.prog 215=1:=by kernel_rfl
theorem Bt:bM Tryz.prog 215=false:=by kernel_rfl
theorem yg:td Tryz.prog 220 = .struct [(0,3),(1,3),(2,3)]:=by kernel_rfl
theorem iV:sz Tryz.prog 220=3:=by kernel_rfl
theorem DG:bts Tryz.prog 220=24:=by kernel_rfl
theorem vM:bM Tryz.prog 220=true:=by kernel_rfl
theorem mq:zav Tryz.prog 220 = .agg [.int .i64 (0),.int .i64 (0),.int .i64 (0)]:=by kernel_rfl
theorem s7:cT Tryz.prog 220=true:=by kernel_rfl
theorem DI:(cT Tryz.prog 220 && fV (zav Tryz.prog 220) && List.all [(0,3),(1,3),(2,3)] (λf=>decide (0<sz Tryz.prog f.2)))=true:=by kernel_rfl
theorem CA:List.map (λ(f:Nat×TypeId)=>sz Tryz.prog f.2) [(0,3),(1,3),(2,3)]=[1,1,1]:=by kernel_rfl
theorem Az:sz Tryz.prog 248=1:=by kernel_rfl
theorem DR:bM Tryz.prog 248=false:=by kernel_rfl
theorem FK:zav Tryz.prog 248 = .nilf:=by kernel_rfl
theorem G8:cT Tryz.prog 248=true:=by kernel_rfl
theorem yf:td Tryz.prog 253 = .map 3 4:=by kernel_rfl
theorem yi:sz Tryz.prog 253=1:=by kernel_rfl
theorem Bs:bM Tryz.prog 253=false:=by kernel_rfl
theorem FJ:zav Tryz.prog 253 = .nilmap:=by kernel_rfl
theorem G7:cT Tryz.prog 253=true:=by kernel_rfl
theorem Aw:td Tryz.prog 266 = .struct [(0,24),(3,83),(4,122)]:=by kernel_rfl
theorem GQ:sz Tryz.prog 266=5:=by kernel_rfl
theorem FI:zav Tryz.prog 266 = .agg [.int .i64 (0),.nil,.int .i64 (0),.nil,.nil]:=by kernel_rfl
theorem GF:(cT Tryz.prog 266 && fV (zav Tryz.prog 266) && List.all [(0,24),(3,83),(4,122)] (λf=>decide (0<sz Tryz.prog f.2)))=true:=by kernel_rfl
theorem F0:List.map (λ(f:Nat×TypeId)=>sz Tryz.prog f.2) [(0,24),(3,83),(4,122)]=[3,1,1]:=by kernel_rfl
theorem Cx:td Tryz.prog 267 = .map 220 3:=by kernel_rfl
theorem CD:sz Tryz.prog 267=1:=by kernel_rfl
theorem Fz:bM Tryz.prog 267=false:=by kernel_rfl
theorem Cw:td Tryz.prog 268 = .map 341 3:=by kernel_rfl
theorem CC:sz Tryz.prog 268=1:=by kernel_rfl
theorem Fy:bM Tryz.prog 268=false:=by kernel_rfl
theorem wp:td Tryz.prog 270 = .struct [(0,83),(1,83),(2,141),(3,267),(4,268)]:=by kernel_rfl
theorem GP:sz Tryz.prog 270=5:=by kernel_rfl
theorem FH:zav Tryz.prog 270 = .agg [.nil,.nil,.nil,.nilmap,.nilmap]:=by kernel_rfl
theorem GE:(cT Tryz.prog 270 && fV (zav Tryz.prog 270) && List.all [(0,83),(1,83),(2,141),(3,267),(4,268)] (λf=>decide (0<sz Tryz.prog f.2)))=true:=by kernel_rfl
theorem FZ:List.map (λ(f:Nat×TypeId)=>sz Tryz.prog f.2) [(0,83),(1,83),(2,141),(3,267),(4,268)]=[1,1,1,1,1]:=by kernel_rfl
theorem wo:td Tryz.prog 274 = .map 3 3:=by kernel_rfl
theorem Ay:sz Tryz.prog 274=1:=by kernel_rfl
theorem DQ:bM Tryz.prog 274=false:=by kernel_rfl
theorem FF:zav Tryz.prog 274 = .nilmap:=by kernel_rfl
theorem G6:cT Tryz.prog 274=true:=by kernel_rfl
theorem GO:td Tryz.prog 341 = .array 3 3:=by kernel_rfl
theorem Ax:sz Tryz.prog 341=3:=by kernel_rfl
theorem Fx:bM Tryz.prog 341=true:=by kernel_rfl
theorem Cc:zav Tryz.prog 341 = .agg [.int .i64 (0),.int .i64 (0),.int .i64 (0)]:=by kernel_rfl
theorem Fh:cT Tryz.prog 341=true:=by kernel_rfl
theorem xw:d_ Tryz.prog 3=some (.one .i64):=by kernel_rfl
theorem z5:d_ Tryz.prog 220=some (.many [.i64,.i64,.i64]):=by kernel_rfl
theorem z4:d_ Tryz.prog 341=some (.many [.i64,.i64,.i64]):=by kernel_rfl
theorem bS:FA Tryz.prog 24 0 0 3:=⟨_,tf,rfl,rfl,by rw [sz3];decide⟩
theorem b6:FA Tryz.prog 24 1 1 22:=⟨_,tf,rfl,rfl,by rw [eP];decide⟩
theorem iE:FA Tryz.prog 24 2 2 3:=⟨_,tf,rfl,rfl,by rw [sz3];decide⟩
theorem cz:FA Tryz.prog 52 0 0 49:=⟨_,Cv,rfl,rfl,by rw [fU];decide⟩
theorem cU:FA Tryz.prog 52 1 1 50:=⟨_,Cv,rfl,rfl,by rw [hZ];decide⟩
theorem qi:FA Tryz.prog 60 0 0 4:=⟨_,lT,rfl,rfl,by rw [sz4];decide⟩
theorem jb:FA Tryz.prog 60 1 1 58:=⟨_,lT,rfl,rfl,by rw [jo];decide⟩
theorem ky:FA Tryz.prog 60 2 2 58:=⟨_,lT,rfl,rfl,by rw [jo];decide⟩
theorem iy:FA Tryz.prog 103 0 0 3:=⟨_,pE,rfl,rfl,by rw [sz3];decide⟩
theorem ea:FA Tryz.prog 103 1 1 3:=⟨_,pE,rfl,rfl,by rw [sz3];decide⟩
theorem cC:FA Tryz.prog 103 2 2 83:=⟨_,pE,rfl,rfl,by rw [dd];decide⟩
theorem rA:FA Tryz.prog 143 1 1 141:=⟨_,t9,rfl,rfl,by rw [k_];decide⟩
theorem Bi:FA Tryz.prog 143 2 2 3:=⟨_,t9,rfl,rfl,by rw [sz3];decide⟩
theorem xD:FA Tryz.prog 220 0 0 3:=⟨_,yg,rfl,rfl,by rw [sz3];decide⟩
theorem tX:FA Tryz.prog 220 1 1 3:=⟨_,yg,rfl,rfl,by rw [sz3];decide⟩
theorem tW:FA Tryz.prog 220 2 2 3:=⟨_,yg,rfl,rfl,by rw [sz3];decide⟩
theorem xC:FA Tryz.prog 266 0 0 24:=⟨_,Aw,rfl,rfl,by rw [cg];decide⟩
theorem rz:FA Tryz.prog 266 1 3 83:=⟨_,Aw,rfl,rfl,by rw [dd];decide⟩
theorem tV:FA Tryz.prog 266 2 4 122:=⟨_,Aw,rfl,rfl,by rw [yj];decide⟩
theorem xB:FA Tryz.prog 270 0 0 83:=⟨_,wp,rfl,rfl,by rw [dd];decide⟩
theorem Bh:FA Tryz.prog 270 1 1 83:=⟨_,wp,rfl,rfl,by rw [dd];decide⟩
theorem mj:FA Tryz.prog 270 2 2 141:=⟨_,wp,rfl,rfl,by rw [k_];decide⟩
theorem Bg:FA Tryz.prog 270 3 3 267:=⟨_,wp,rfl,rfl,by rw [CD];decide⟩
theorem Bf:FA Tryz.prog 270 4 4 268:=⟨_,wp,rfl,rfl,by rw [CC];decide⟩
end Go.Proofs.YtnjgdkfhgmebjaaGreat
