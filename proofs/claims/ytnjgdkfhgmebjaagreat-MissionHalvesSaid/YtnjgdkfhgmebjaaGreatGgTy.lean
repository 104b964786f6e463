/- The types' table of this seat, as equations for the formulas. Conditions: none. -/
import Derived.Test.YtnjgdkfhgmebjaaGreatGc
import Derived.Test.YtnjgdkfhgmebjaaGreatProg
import Derived.KernelRfl
namespace Go.Proofs.YtnjgdkfhgmebjaaGreat
open Go.Gg Tryz
theorem kR {P:Prop} (h:P:=by kernel_rfl):P:=h
theorem bA:prog.follows .mixedOrders=true:=kR
theorem td3:td prog 3 = .int .i64:=kR
theorem sz3:sz prog 3=1:=kR
theorem oA:bts prog 3=8:=kR
theorem ag3:bP prog 3=false:=kR
theorem gE:zav prog 3 = .int .i64 (0):=kR
theorem ok3:cY prog 3=true:=kR
theorem td4:td prog 4 = .bool:=kR
theorem sz4:sz prog 4=1:=kR
theorem D':bts prog 4=1:=kR
theorem ag4:bP prog 4=false:=kR
theorem zV:zav prog 4 = .bool false:=kR
theorem ok4:cY prog 4=true:=kR
theorem td5:td prog 5 = .int .u8:=kR
theorem td9:td prog 9 = .str:=kR
theorem d5:td prog 22 = .slice 103:=kR
theorem eJ:sz prog 22=1:=kR
theorem fv:bP prog 22=false:=kR
theorem ug:td prog 24 = .struct [(0,3),(1,22),(2,3)]:=kR
theorem ct:sz prog 24=3:=kR
theorem D_:bts prog 24=40:=kR
theorem fE:bP prog 24=true:=kR
theorem fG:zav prog 24 = .agg [.int .i64 (0),.nil,.int .i64 (0)]:=kR
theorem nT:cY prog 24=true:=kR
theorem tk:(cY prog 24 && gF (zav prog 24) && List.all [(0,3),(1,22),(2,3)] (λf=>decide (0<sz prog f.2)))=true:=kR
theorem sR:List.map (λ(f:Nat×TypeId)=>sz prog f.2) [(0,3),(1,22),(2,3)]=[1,1,1]:=kR
theorem dM:td prog 25 = .slice 60:=kR
theorem gp:sz prog 25=1:=kR
theorem F0:bts prog 25=24:=kR
theorem oB:bP prog 25=false:=kR
theorem yu:zav prog 25 = .nil:=kR
theorem Dt:cY prog 25=true:=kR
theorem gk:td prog 34 = .iface:=kR
theorem eI:td prog 49 = .slice 24:=kR
theorem eZ:sz prog 49=1:=kR
theorem fD:bP prog 49=false:=kR
theorem fC:td prog 50 = .slice 25:=kR
theorem gn:sz prog 50=1:=kR
theorem h_:bP prog 50=false:=kR
theorem xC:td prog 52 = .struct [(0,49),(1,50)]:=kR
theorem dA:sz prog 52=2:=kR
theorem gA:bP prog 52=true:=kR
theorem lN:zav prog 52 = .agg [.nil,.nil]:=kR
theorem zd:cY prog 52=true:=kR
theorem vW:(cY prog 52 && gF (zav prog 52) && List.all [(0,49),(1,50)] (λf=>decide (0<sz prog f.2)))=true:=kR
theorem uj:List.map (λ(f:Nat×TypeId)=>sz prog f.2) [(0,49),(1,50)]=[1,1]:=kR
theorem bi:td prog 58 = .slice 193:=kR
theorem iE:sz prog 58=1:=kR
theorem jd:bP prog 58=false:=kR
theorem nK:td prog 60 = .struct [(0,4),(1,58),(2,58)]:=kR
theorem aS:sz prog 60=3:=kR
theorem tg:bts prog 60=56:=kR
theorem bz:bP prog 60=true:=kR
theorem bF:zav prog 60 = .agg [.bool false,.nil,.nil]:=kR
theorem dh:cY prog 60=true:=kR
theorem li:(cY prog 60 && gF (zav prog 60) && List.all [(0,4),(1,58),(2,58)] (λf=>decide (0<sz prog f.2)))=true:=kR
theorem kX:List.map (λ(f:Nat×TypeId)=>sz prog f.2) [(0,4),(1,58),(2,58)]=[1,1,1]:=kR
theorem gQ:td prog 82 = .int .i64:=kR
theorem Hv:zav prog 82 = .int .i64 (0):=kR
theorem Iy:cY prog 82=true:=kR
theorem bJ:td prog 83 = .slice 3:=kR
theorem fo:sz prog 83=1:=kR
theorem Ie:bts prog 83=24:=kR
theorem jc:bP prog 83=false:=kR
theorem Hu:zav prog 83 = .nil:=kR
theorem Ix:cY prog 83=true:=kR
theorem sQ:td prog 103 = .struct [(0,3),(1,3),(2,83)]:=kR
theorem cU:sz prog 103=3:=kR
theorem AC:bts prog 103=40:=kR
theorem rP:bP prog 103=true:=kR
theorem fx:zav prog 103 = .agg [.int .i64 (0),.int .i64 (0),.nil]:=kR
theorem k_:cY prog 103=true:=kR
theorem vY:(cY prog 103 && gF (zav prog 103) && List.all [(0,3),(1,3),(2,83)] (λf=>decide (0<sz prog f.2)))=true:=kR
theorem um:List.map (λ(f:Nat×TypeId)=>sz prog f.2) [(0,3),(1,3),(2,83)]=[1,1,1]:=kR
theorem ui:td prog 114 = .slice 83:=kR
theorem un:sz prog 114=1:=kR
theorem xq:bP prog 114=false:=kR
theorem Ge:zav prog 114 = .nil:=kR
theorem HT:cY prog 114=true:=kR
theorem gH:td prog 122 = .slice 4:=kR
theorem yJ:sz prog 122=1:=kR
theorem BO:bP prog 122=false:=kR
theorem mw:td prog 141 = .slice 220:=kR
theorem lQ:sz prog 141=1:=kR
theorem pe:bP prog 141=false:=kR
theorem uh:td prog 143 = .struct [(0,83),(1,141),(2,3)]:=kR
theorem iF:sz prog 143=3:=kR
theorem tm:bP prog 143=true:=kR
theorem nF:zav prog 143 = .agg [.nil,.nil,.int .i64 (0)]:=kR
theorem Bg:cY prog 143=true:=kR
theorem vX:(cY prog 143 && gF (zav prog 143) && List.all [(0,83),(1,141),(2,3)] (λf=>decide (0<sz prog f.2)))=true:=kR
theorem uk:List.map (λ(f:Nat×TypeId)=>sz prog f.2) [(0,83),(1,141),(2,3)]=[1,1,1]:=kR
theorem cL:td prog 168 = .int .u64:=kR
theorem cB:td prog 193 = .int .u32:=kR
theorem bn:sz prog 193=1:=kR
theorem fU:bts prog 193=4:=kR
theorem dv:bP prog 193=false:=kR
theorem cH:zav prog 193 = .int .u32 (0):=kR
theorem dJ:cY prog 193=true:=kR
theorem AX:sz prog 206=1:=kR
theorem Ek:bP prog 206=false:=kR
theorem Gd:zav prog 206 = .nilf:=kR
theorem HS:cY prog 206=true:=kR
theorem AW:sz prog 215=1:=kR
theorem BN:bP prog 215=false:=kR
theorem yG:td prog 220 = .struct [(0,3),(1,3),(2,3)]:=kR
theorem jj:sz prog 220=3:=kR
theorem Ea:bts prog 220=24:=kR
theorem v_:bP prog 220=true:=kR
theorem mM:zav prog 220 = .agg [.int .i64 (0),.int .i64 (0),.int .i64 (0)]:=kR
theorem s9:cY prog 220=true:=kR
theorem Eb:(cY prog 220 && gF (zav prog 220) && List.all [(0,3),(1,3),(2,3)] (λf=>decide (0<sz prog f.2)))=true:=kR
theorem C2:List.map (λ(f:Nat×TypeId)=>sz prog f.2) [(0,3),(1,3),(2,3)]=[1,1,1]:=kR
theorem AU:sz prog 248=1:=kR
theorem Ej:bP prog 248=false:=kR
theorem Gc:zav prog 248 = .nilf:=kR
theorem HR:cY prog 248=true:=kR
theorem yF:td prog 253 = .map 3 4:=kR
theorem yI:sz prog 253=1:=kR
theorem BM:bP prog 253=false:=kR
theorem Gb:zav prog 253 = .nilmap:=kR
theorem HQ:cY prog 253=true:=kR
theorem AQ:td prog 266 = .struct [(0,24),(3,83),(4,122)]:=kR
theorem Hz:sz prog 266=5:=kR
theorem Ga:zav prog 266 = .agg [.int .i64 (0),.nil,.int .i64 (0),.nil,.nil]:=kR
theorem Hl:(cY prog 266 && gF (zav prog 266) && List.all [(0,24),(3,83),(4,122)] (λf=>decide (0<sz prog f.2)))=true:=kR
theorem Gs:List.map (λ(f:Nat×TypeId)=>sz prog f.2) [(0,24),(3,83),(4,122)]=[3,1,1]:=kR
theorem C0:td prog 267 = .map 220 3:=kR
theorem C5:sz prog 267=1:=kR
theorem F4:bP prog 267=false:=kR
theorem CZ:td prog 268 = .map 341 3:=kR
theorem C4:sz prog 268=1:=kR
theorem F3:bP prog 268=false:=kR
theorem wT:td prog 270 = .struct [(0,83),(1,83),(2,141),(3,267),(4,268)]:=kR
theorem Hy:sz prog 270=5:=kR
theorem F_:zav prog 270 = .agg [.nil,.nil,.nil,.nilmap,.nilmap]:=kR
theorem Hk:(cY prog 270 && gF (zav prog 270) && List.all [(0,83),(1,83),(2,141),(3,267),(4,268)] (λf=>decide (0<sz prog f.2)))=true:=kR
theorem Gr:List.map (λ(f:Nat×TypeId)=>sz prog f.2) [(0,83),(1,83),(2,141),(3,267),(4,268)]=[1,1,1,1,1]:=kR
theorem wS:td prog 274 = .map 3 3:=kR
theorem AS:sz prog 274=1:=kR
theorem Ei:bP prog 274=false:=kR
theorem F9:zav prog 274 = .nilmap:=kR
theorem HP:cY prog 274=true:=kR
theorem Hx:td prog 341 = .array 3 3:=kR
theorem AR:sz prog 341=3:=kR
theorem F2:bP prog 341=true:=kR
theorem CH:zav prog 341 = .agg [.int .i64 (0),.int .i64 (0),.int .i64 (0)]:=kR
theorem FO:cY prog 341=true:=kR
theorem xV:eN prog 3=some (.one .i64):=kR
theorem Ao:eN prog 220=some zKt:=kR
theorem Am:eN prog 341=some zKt:=kR
theorem cd:FA prog 24 0 0 3:=⟨_,ug,rfl,rfl,by rw[sz3];decide⟩
theorem b6:FA prog 24 1 1 22:=⟨_,ug,rfl,rfl,by rw[eJ];decide⟩
theorem jA:FA prog 24 2 2 3:=⟨_,ug,rfl,rfl,by rw[sz3];decide⟩
theorem ca:FA prog 52 0 0 49:=⟨_,xC,rfl,rfl,by rw[eZ];decide⟩
theorem cD:FA prog 52 1 1 50:=⟨_,xC,rfl,rfl,by rw[gn];decide⟩
theorem oZ:FA prog 60 0 0 4:=⟨_,nK,rfl,rfl,by rw[sz4];decide⟩
theorem iC:FA prog 60 1 1 58:=⟨_,nK,rfl,rfl,by rw[iE];decide⟩
theorem jz:FA prog 60 2 2 58:=⟨_,nK,rfl,rfl,by rw[iE];decide⟩
theorem ft:FA prog 103 0 0 3:=⟨_,sQ,rfl,rfl,by rw[sz3];decide⟩
theorem dW:FA prog 103 1 1 3:=⟨_,sQ,rfl,rfl,by rw[sz3];decide⟩
theorem eB:FA prog 103 2 2 83:=⟨_,sQ,rfl,rfl,by rw[fo];decide⟩
theorem rG:FA prog 143 1 1 141:=⟨_,uh,rfl,rfl,by rw[lQ];decide⟩
theorem BB:FA prog 143 2 2 3:=⟨_,uh,rfl,rfl,by rw[sz3];decide⟩
theorem yb:FA prog 220 0 0 3:=⟨_,yG,rfl,rfl,by rw[sz3];decide⟩
theorem ua:FA prog 220 1 1 3:=⟨_,yG,rfl,rfl,by rw[sz3];decide⟩
theorem t_:FA prog 220 2 2 3:=⟨_,yG,rfl,rfl,by rw[sz3];decide⟩
theorem ya:FA prog 266 0 0 24:=⟨_,AQ,rfl,rfl,by rw[ct];decide⟩
theorem rF:FA prog 266 1 3 83:=⟨_,AQ,rfl,rfl,by rw[fo];decide⟩
theorem t9:FA prog 266 2 4 122:=⟨_,AQ,rfl,rfl,by rw[yJ];decide⟩
theorem x_:FA prog 270 0 0 83:=⟨_,wT,rfl,rfl,by rw[fo];decide⟩
theorem BA:FA prog 270 1 1 83:=⟨_,wT,rfl,rfl,by rw[fo];decide⟩
theorem mK:FA prog 270 2 2 141:=⟨_,wT,rfl,rfl,by rw[lQ];decide⟩
theorem Bz:FA prog 270 3 3 267:=⟨_,wT,rfl,rfl,by rw[C5];decide⟩
theorem Bx:FA prog 270 4 4 268:=⟨_,wT,rfl,rfl,by rw[C4];decide⟩
end Go.Proofs.YtnjgdkfhgmebjaaGreat
