/- The types' table of this seat, as equations for the formulas. Conditions: none. -/
import Derived.Test.YtnjgdkfhgmebjaaGreatGc
import Derived.Test.YtnjgdkfhgmebjaaGreatProg
import Derived.KernelRfl
namespace Go.Proofs.YtnjgdkfhgmebjaaGreat
open Go.Gg
theorem bx:Tryz.prog.follows .mixedOrders=true:=by kernel_rfl
theorem td3:td Tryz.prog 3 = .int .i64:=by kernel_rfl
theorem sz3:sz Tryz.prog 3=1:=by kernel_rfl
theorem kh:bts Tryz.prog 3=8:=by kernel_rfl
theorem ag3:bW Tryz.prog 3=false:=by kernel_rfl
theorem eC:zav Tryz.prog 3 = .int .i64 (0):=by kernel_rfl
theorem ok3:cY Tryz.prog 3=true:=by kernel_rfl
theorem td4:td Tryz.prog 4 = .bool:=by kernel_rfl
theorem sz4:sz Tryz.prog 4=1:=by kernel_rfl
theorem ag4:bW Tryz.prog 4=false:=by kernel_rfl
theorem td5:td Tryz.prog 5 = .int .u8:=by kernel_rfl
theorem td9:td Tryz.prog 9 = .str:=by kernel_rfl
theorem df:td Tryz.prog 22 = .slice 103:=by kernel_rfl
theorem dt:sz Tryz.prog 22=1:=by kernel_rfl
theorem ec:bW Tryz.prog 22=false:=by kernel_rfl
theorem pV:td Tryz.prog 24 = .struct [(0,3),(1,22),(2,3)]:=by kernel_rfl
theorem dI:sz Tryz.prog 24=3:=by kernel_rfl
theorem i2:bW Tryz.prog 24=true:=by kernel_rfl
theorem jy:zav Tryz.prog 24 = .agg [.int .i64 (0),.nil,.int .i64 (0)]:=by kernel_rfl
theorem uD:cY Tryz.prog 24=true:=by kernel_rfl
theorem pK:(cY Tryz.prog 24 && gr (zav Tryz.prog 24) && List.all [(0,3),(1,22),(2,3)] (λf=>decide (0<sz Tryz.prog f.2)))=true:=by kernel_rfl
theorem oJ:List.map (λ(f:Nat×TypeId)=>sz Tryz.prog f.2) [(0,3),(1,22),(2,3)]=[1,1,1]:=by kernel_rfl
theorem b9:td Tryz.prog 25 = .slice 60:=by kernel_rfl
theorem mg:sz Tryz.prog 25=1:=by kernel_rfl
theorem oA:bW Tryz.prog 25=false:=by kernel_rfl
theorem m9:td Tryz.prog 26 = .slice 105:=by kernel_rfl
theorem wW:sz Tryz.prog 26=1:=by kernel_rfl
theorem yz:bW Tryz.prog 26=false:=by kernel_rfl
theorem yF:td Tryz.prog 28 = .struct [(0,25),(1,26)]:=by kernel_rfl
theorem ko:td Tryz.prog 34 = .iface:=by kernel_rfl
theorem aR:td Tryz.prog 58 = .slice 193:=by kernel_rfl
theorem fK:sz Tryz.prog 58=1:=by kernel_rfl
theorem f_:bW Tryz.prog 58=false:=by kernel_rfl
theorem kn:td Tryz.prog 60 = .struct [(0,4),(1,58),(2,58)]:=by kernel_rfl
theorem az:sz Tryz.prog 60=3:=by kernel_rfl
theorem pI:bts Tryz.prog 60=56:=by kernel_rfl
theorem aY:bW Tryz.prog 60=true:=by kernel_rfl
theorem bg:zav Tryz.prog 60 = .agg [.bool false,.nil,.nil]:=by kernel_rfl
theorem cb:cY Tryz.prog 60=true:=by kernel_rfl
theorem jd:(cY Tryz.prog 60 && gr (zav Tryz.prog 60) && List.all [(0,4),(1,58),(2,58)] (λf=>decide (0<sz Tryz.prog f.2)))=true:=by kernel_rfl
theorem i6:List.map (λ(f:Nat×TypeId)=>sz Tryz.prog f.2) [(0,4),(1,58),(2,58)]=[1,1,1]:=by kernel_rfl
theorem gU:td Tryz.prog 82 = .int .i64:=by kernel_rfl
theorem yD:zav Tryz.prog 82 = .int .i64 (0):=by kernel_rfl
theorem zn:cY Tryz.prog 82=true:=by kernel_rfl
theorem bm:td Tryz.prog 83 = .slice 3:=by kernel_rfl
theorem dg:sz Tryz.prog 83=1:=by kernel_rfl
theorem y9:bts Tryz.prog 83=24:=by kernel_rfl
theorem dW:bW Tryz.prog 83=false:=by kernel_rfl
theorem tN:zav Tryz.prog 83 = .nil:=by kernel_rfl
theorem v4:cY Tryz.prog 83=true:=by kernel_rfl
theorem nL:td Tryz.prog 103 = .struct [(0,3),(1,3),(2,83)]:=by kernel_rfl
theorem cE:sz Tryz.prog 103=3:=by kernel_rfl
theorem pJ:bts Tryz.prog 103=40:=by kernel_rfl
theorem n3:bW Tryz.prog 103=true:=by kernel_rfl
theorem dd:zav Tryz.prog 103 = .agg [.int .i64 (0),.int .i64 (0),.nil]:=by kernel_rfl
theorem ga:cY Tryz.prog 103=true:=by kernel_rfl
theorem pL:(cY Tryz.prog 103 && gr (zav Tryz.prog 103) && List.all [(0,3),(1,3),(2,83)] (λf=>decide (0<sz Tryz.prog f.2)))=true:=by kernel_rfl
theorem oK:List.map (λ(f:Nat×TypeId)=>sz Tryz.prog f.2) [(0,3),(1,3),(2,83)]=[1,1,1]:=by kernel_rfl
theorem vE:td Tryz.prog 105 = .struct [(0,3),(1,83),(2,25)]:=by kernel_rfl
theorem e9:sz Tryz.prog 105=3:=by kernel_rfl
theorem lP:bW Tryz.prog 105=true:=by kernel_rfl
theorem m6:zav Tryz.prog 105 = .agg [.int .i64 (0),.nil,.nil]:=by kernel_rfl
theorem qA:cY Tryz.prog 105=true:=by kernel_rfl
theorem rK:td Tryz.prog 108 = .map 3 83:=by kernel_rfl
theorem rJ:td Tryz.prog 109 = .slice 113:=by kernel_rfl
theorem tS:td Tryz.prog 113 = .struct [(0,60),(3,83)]:=by kernel_rfl
theorem rN:sz Tryz.prog 113=4:=by kernel_rfl
theorem yy:bts Tryz.prog 113=80:=by kernel_rfl
theorem za:bW Tryz.prog 113=true:=by kernel_rfl
theorem m5:zav Tryz.prog 113 = .agg [.bool false,.nil,.nil,.nil]:=by kernel_rfl
theorem t6:cY Tryz.prog 113=true:=by kernel_rfl
theorem wE:(cY Tryz.prog 113 && gr (zav Tryz.prog 113) && List.all [(0,60),(3,83)] (λf=>decide (0<sz Tryz.prog f.2)))=true:=by kernel_rfl
theorem vG:List.map (λ(f:Nat×TypeId)=>sz Tryz.prog f.2) [(0,60),(3,83)]=[3,1]:=by kernel_rfl
theorem vD:td Tryz.prog 114 = .slice 83:=by kernel_rfl
theorem bU:td Tryz.prog 168 = .int .u64:=by kernel_rfl
theorem bN:td Tryz.prog 193 = .int .u32:=by kernel_rfl
theorem aX:sz Tryz.prog 193=1:=by kernel_rfl
theorem dU:bts Tryz.prog 193=4:=by kernel_rfl
theorem cH:bW Tryz.prog 193=false:=by kernel_rfl
theorem bR:zav Tryz.prog 193 = .int .u32 (0):=by kernel_rfl
theorem cL:cY Tryz.prog 193=true:=by kernel_rfl
theorem wn:du Tryz.prog 3=some (.one .i64):=by kernel_rfl
theorem c8:FA Tryz.prog 24 0 0 3:=⟨_,pV,rfl,rfl,by rw[sz3];decide⟩
theorem bB:FA Tryz.prog 24 1 1 22:=⟨_,pV,rfl,rfl,by rw[dt];decide⟩
theorem kJ:FA Tryz.prog 24 2 2 3:=⟨_,pV,rfl,rfl,by rw[sz3];decide⟩
theorem tG:FA Tryz.prog 28 0 0 25:=⟨_,yF,rfl,rfl,by rw[mg];decide⟩
theorem tF:FA Tryz.prog 28 1 1 26:=⟨_,yF,rfl,rfl,by rw[wW];decide⟩
theorem kI:FA Tryz.prog 60 0 0 4:=⟨_,kn,rfl,rfl,by rw[sz4];decide⟩
theorem fA:FA Tryz.prog 60 1 1 58:=⟨_,kn,rfl,rfl,by rw[fK];decide⟩
theorem gu:FA Tryz.prog 60 2 2 58:=⟨_,kn,rfl,rfl,by rw[fK];decide⟩
theorem eB:FA Tryz.prog 103 0 0 3:=⟨_,nL,rfl,rfl,by rw[sz3];decide⟩
theorem dH:FA Tryz.prog 103 1 1 3:=⟨_,nL,rfl,rfl,by rw[sz3];decide⟩
theorem dn:FA Tryz.prog 103 2 2 83:=⟨_,nL,rfl,rfl,by rw[dg];decide⟩
theorem jc:FA Tryz.prog 105 0 0 3:=⟨_,vE,rfl,rfl,by rw[sz3];decide⟩
theorem cD:FA Tryz.prog 105 1 1 83:=⟨_,vE,rfl,rfl,by rw[dg];decide⟩
theorem iu:FA Tryz.prog 105 2 2 25:=⟨_,vE,rfl,rfl,by rw[mg];decide⟩
theorem xv:FA Tryz.prog 113 0 0 60:=⟨_,tS,rfl,rfl,by rw[az];decide⟩
theorem xu:FA Tryz.prog 113 1 3 83:=⟨_,tS,rfl,rfl,by rw[dg];decide⟩
end Go.Proofs.YtnjgdkfhgmebjaaGreat
