/- The types' table of this seat, as equations for the formulas. Conditions: none. -/
import Derived.Test.YtnjgdkfhgmebjaaGreatGc
import Derived.Test.YtnjgdkfhgmebjaaGreatProg
import Derived.KernelRfl
namespace Go.Proofs.YtnjgdkfhgmebjaaGreat
open Go.Gg
theorem dH:Tryz.prog.follows .mixedOrders=true:=by kernel_rfl
theorem td3:td Tryz.prog 3 = .int .i64:=by kernel_rfl
theorem sz3:sz Tryz.prog 3=1:=by kernel_rfl
theorem yD:bts Tryz.prog 3=8:=by kernel_rfl
theorem ag3:cU Tryz.prog 3=false:=by kernel_rfl
theorem kI:zav Tryz.prog 3 = .int .i64 (0):=by kernel_rfl
theorem ok3:fH Tryz.prog 3=true:=by kernel_rfl
theorem td4:td Tryz.prog 4 = .bool:=by kernel_rfl
theorem sz4:sz Tryz.prog 4=1:=by kernel_rfl
theorem aKb:bts Tryz.prog 4=1:=by kernel_rfl
theorem ag4:cU Tryz.prog 4=false:=by kernel_rfl
theorem aGH:zav Tryz.prog 4 = .bool false:=by kernel_rfl
theorem ok4:fH Tryz.prog 4=true:=by kernel_rfl
theorem td5:td Tryz.prog 5 = .int .u8:=by kernel_rfl
theorem td9:td Tryz.prog 9 = .str:=by kernel_rfl
theorem kT:td Tryz.prog 22 = .slice 103:=by kernel_rfl
theorem mM:sz Tryz.prog 22=1:=by kernel_rfl
theorem pN:cU Tryz.prog 22=false:=by kernel_rfl
theorem aE9:td Tryz.prog 24 = .struct [(0,3),(1,22),(2,3)]:=by kernel_rfl
theorem eY:sz Tryz.prog 24=3:=by kernel_rfl
theorem kH:cU Tryz.prog 24=true:=by kernel_rfl
theorem pT:zav Tryz.prog 24 = .agg [.int .i64 (0),.nil,.int .i64 (0)]:=by kernel_rfl
theorem aEx:fH Tryz.prog 24=true:=by kernel_rfl
theorem aEW:(fH Tryz.prog 24 && kU (zav Tryz.prog 24) && List.all [(0,3),(1,22),(2,3)] (λf=>decide (0<sz Tryz.prog f.2)))=true:=by kernel_rfl
theorem aDY:List.map (λ(f:Nat×TypeId)=>sz Tryz.prog f.2) [(0,3),(1,22),(2,3)]=[1,1,1]:=by kernel_rfl
theorem jK:td Tryz.prog 25 = .slice 60:=by kernel_rfl
theorem sG:sz Tryz.prog 25=1:=by kernel_rfl
theorem aDH:cU Tryz.prog 25=false:=by kernel_rfl
theorem aOx:zav Tryz.prog 25 = .nil:=by kernel_rfl
theorem aPD:fH Tryz.prog 25=true:=by kernel_rfl
theorem mT:td Tryz.prog 34 = .iface:=by kernel_rfl
theorem mL:td Tryz.prog 49 = .slice 24:=by kernel_rfl
theorem oF:sz Tryz.prog 49=1:=by kernel_rfl
theorem pM:cU Tryz.prog 49=false:=by kernel_rfl
theorem sF:td Tryz.prog 50 = .slice 25:=by kernel_rfl
theorem uI:sz Tryz.prog 50=1:=by kernel_rfl
theorem wE:cU Tryz.prog 50=false:=by kernel_rfl
theorem aNI:td Tryz.prog 52 = .struct [(0,49),(1,50)]:=by kernel_rfl
theorem oM:sz Tryz.prog 52=2:=by kernel_rfl
theorem qK:cU Tryz.prog 52=true:=by kernel_rfl
theorem aM5:zav Tryz.prog 52 = .agg [.nil,.nil]:=by kernel_rfl
theorem aPC:fH Tryz.prog 52=true:=by kernel_rfl
theorem aPb:(fH Tryz.prog 52 && kU (zav Tryz.prog 52) && List.all [(0,49),(1,50)] (λf=>decide (0<sz Tryz.prog f.2)))=true:=by kernel_rfl
theorem aOA:List.map (λ(f:Nat×TypeId)=>sz Tryz.prog f.2) [(0,49),(1,50)]=[1,1]:=by kernel_rfl
theorem bR:td Tryz.prog 58 = .slice 193:=by kernel_rfl
theorem pP:sz Tryz.prog 58=1:=by kernel_rfl
theorem rI:cU Tryz.prog 58=false:=by kernel_rfl
theorem aA0:td Tryz.prog 60 = .struct [(0,4),(1,58),(2,58)]:=by kernel_rfl
theorem bJ:sz Tryz.prog 60=3:=by kernel_rfl
theorem aHM:bts Tryz.prog 60=56:=by kernel_rfl
theorem cS:cU Tryz.prog 60=true:=by kernel_rfl
theorem dU:zav Tryz.prog 60 = .agg [.bool false,.nil,.nil]:=by kernel_rfl
theorem jA:fH Tryz.prog 60=true:=by kernel_rfl
theorem yR:(fH Tryz.prog 60 && kU (zav Tryz.prog 60) && List.all [(0,4),(1,58),(2,58)] (λf=>decide (0<sz Tryz.prog f.2)))=true:=by kernel_rfl
theorem yH:List.map (λ(f:Nat×TypeId)=>sz Tryz.prog f.2) [(0,4),(1,58),(2,58)]=[1,1,1]:=by kernel_rfl
theorem nP:td Tryz.prog 82 = .int .i64:=by kernel_rfl
theorem aOw:zav Tryz.prog 82 = .int .i64 (0):=by kernel_rfl
theorem aPB:fH Tryz.prog 82=true:=by kernel_rfl
theorem cK:td Tryz.prog 83 = .slice 3:=by kernel_rfl
theorem hY:sz Tryz.prog 83=1:=by kernel_rfl
theorem aNi:bts Tryz.prog 83=24:=by kernel_rfl
theorem nF:cU Tryz.prog 83=false:=by kernel_rfl
theorem aIE:zav Tryz.prog 83 = .nil:=by kernel_rfl
theorem aMo:fH Tryz.prog 83=true:=by kernel_rfl
theorem aDX:td Tryz.prog 103 = .struct [(0,3),(1,3),(2,83)]:=by kernel_rfl
theorem iO:sz Tryz.prog 103=3:=by kernel_rfl
theorem aLF:bts Tryz.prog 103=40:=by kernel_rfl
theorem aCh:cU Tryz.prog 103=true:=by kernel_rfl
theorem kS:zav Tryz.prog 103 = .agg [.int .i64 (0),.int .i64 (0),.nil]:=by kernel_rfl
theorem uX:fH Tryz.prog 103=true:=by kernel_rfl
theorem aGy:(fH Tryz.prog 103 && kU (zav Tryz.prog 103) && List.all [(0,3),(1,3),(2,83)] (λf=>decide (0<sz Tryz.prog f.2)))=true:=by kernel_rfl
theorem aF4:List.map (λ(f:Nat×TypeId)=>sz Tryz.prog f.2) [(0,3),(1,3),(2,83)]=[1,1,1]:=by kernel_rfl
theorem tE:td Tryz.prog 114 = .slice 83:=by kernel_rfl
theorem aD0:sz Tryz.prog 114=1:=by kernel_rfl
theorem aFU:cU Tryz.prog 114=false:=by kernel_rfl
theorem aNy:zav Tryz.prog 114 = .nil:=by kernel_rfl
theorem aOS:fH Tryz.prog 114=true:=by kernel_rfl
theorem gZ:td Tryz.prog 122 = .slice 4:=by kernel_rfl
theorem aGV:sz Tryz.prog 122=1:=by kernel_rfl
theorem aJz:cU Tryz.prog 122=false:=by kernel_rfl
theorem uO:td Tryz.prog 141 = .slice 220:=by kernel_rfl
theorem tF:sz Tryz.prog 141=1:=by kernel_rfl
theorem zZ:cU Tryz.prog 141=false:=by kernel_rfl
theorem aDW:td Tryz.prog 143 = .struct [(0,83),(1,141),(2,3)]:=by kernel_rfl
theorem mU:sz Tryz.prog 143=3:=by kernel_rfl
theorem aDh:cU Tryz.prog 143=true:=by kernel_rfl
theorem xD:zav Tryz.prog 143 = .agg [.nil,.nil,.int .i64 (0)]:=by kernel_rfl
theorem aI5:fH Tryz.prog 143=true:=by kernel_rfl
theorem aEX:(fH Tryz.prog 143 && kU (zav Tryz.prog 143) && List.all [(0,83),(1,141),(2,3)] (λf=>decide (0<sz Tryz.prog f.2)))=true:=by kernel_rfl
theorem aDZ:List.map (λ(f:Nat×TypeId)=>sz Tryz.prog f.2) [(0,83),(1,141),(2,3)]=[1,1,1]:=by kernel_rfl
theorem eU:td Tryz.prog 168 = .int .u64:=by kernel_rfl
theorem eK:td Tryz.prog 193 = .int .u32:=by kernel_rfl
theorem bS:sz Tryz.prog 193=1:=by kernel_rfl
theorem kF:bts Tryz.prog 193=4:=by kernel_rfl
theorem fT:cU Tryz.prog 193=false:=by kernel_rfl
theorem eX:zav Tryz.prog 193 = .int .u32 (0):=by kernel_rfl
theorem gU:fH Tryz.prog 193=true:=by kernel_rfl
theorem aIN:sz Tryz.prog 206=1:=by kernel_rfl
theorem aLP:cU Tryz.prog 206=false:=by kernel_rfl
theorem aNx:zav Tryz.prog 206 = .nilf:=by kernel_rfl
theorem aOR:fH Tryz.prog 206=true:=by kernel_rfl
theorem aIM:sz Tryz.prog 215=1:=by kernel_rfl
theorem aJy:cU Tryz.prog 215=false:=by kernel_rfl
theorem aGS:td Tryz.prog 220 = .struct [(0,3),(1,3),(2,3)]:=by kernel_rfl
theorem oN:sz Tryz.prog 220=3:=by kernel_rfl
theorem aLE:bts Tryz.prog 220=24:=by kernel_rfl
theorem aE3:cU Tryz.prog 220=true:=by kernel_rfl
theorem vG:zav Tryz.prog 220 = .agg [.int .i64 (0),.int .i64 (0),.int .i64 (0)]:=by kernel_rfl
theorem aDd:fH Tryz.prog 220=true:=by kernel_rfl
theorem aLG:(fH Tryz.prog 220 && kU (zav Tryz.prog 220) && List.all [(0,3),(1,3),(2,3)] (λf=>decide (0<sz Tryz.prog f.2)))=true:=by kernel_rfl
theorem aKD:List.map (λ(f:Nat×TypeId)=>sz Tryz.prog f.2) [(0,3),(1,3),(2,3)]=[1,1,1]:=by kernel_rfl
theorem aIL:sz Tryz.prog 248=1:=by kernel_rfl
theorem aLO:cU Tryz.prog 248=false:=by kernel_rfl
theorem aNw:zav Tryz.prog 248 = .nilf:=by kernel_rfl
theorem aOQ:fH Tryz.prog 248=true:=by kernel_rfl
theorem aGR:td Tryz.prog 253 = .map 3 4:=by kernel_rfl
theorem aGU:sz Tryz.prog 253=1:=by kernel_rfl
theorem aJx:cU Tryz.prog 253=false:=by kernel_rfl
theorem aNv:zav Tryz.prog 253 = .nilmap:=by kernel_rfl
theorem aOP:fH Tryz.prog 253=true:=by kernel_rfl
theorem aII:td Tryz.prog 266 = .struct [(0,24),(3,83),(4,122)]:=by kernel_rfl
theorem aOC:sz Tryz.prog 266=5:=by kernel_rfl
theorem aNu:zav Tryz.prog 266 = .agg [.int .i64 (0),.nil,.int .i64 (0),.nil,.nil]:=by kernel_rfl
theorem aOo:(fH Tryz.prog 266 && kU (zav Tryz.prog 266) && List.all [(0,24),(3,83),(4,122)] (λf=>decide (0<sz Tryz.prog f.2)))=true:=by kernel_rfl
theorem aNL:List.map (λ(f:Nat×TypeId)=>sz Tryz.prog f.2) [(0,24),(3,83),(4,122)]=[3,1,1]:=by kernel_rfl
theorem aKB:td Tryz.prog 267 = .map 220 3:=by kernel_rfl
theorem aKG:sz Tryz.prog 267=1:=by kernel_rfl
theorem aNn:cU Tryz.prog 267=false:=by kernel_rfl
theorem aKA:td Tryz.prog 268 = .map 341 3:=by kernel_rfl
theorem aKF:sz Tryz.prog 268=1:=by kernel_rfl
theorem aNm:cU Tryz.prog 268=false:=by kernel_rfl
theorem aFv:td Tryz.prog 270 = .struct [(0,83),(1,83),(2,141),(3,267),(4,268)]:=by kernel_rfl
theorem aOB:sz Tryz.prog 270=5:=by kernel_rfl
theorem aNt:zav Tryz.prog 270 = .agg [.nil,.nil,.nil,.nilmap,.nilmap]:=by kernel_rfl
theorem aOn:(fH Tryz.prog 270 && kU (zav Tryz.prog 270) && List.all [(0,83),(1,83),(2,141),(3,267),(4,268)] (λf=>decide (0<sz Tryz.prog f.2)))=true:=by kernel_rfl
theorem aNK:List.map (λ(f:Nat×TypeId)=>sz Tryz.prog f.2) [(0,83),(1,83),(2,141),(3,267),(4,268)]=[1,1,1,1,1]:=by kernel_rfl
theorem aFu:td Tryz.prog 274 = .map 3 3:=by kernel_rfl
theorem aIK:sz Tryz.prog 274=1:=by kernel_rfl
theorem aLN:cU Tryz.prog 274=false:=by kernel_rfl
theorem aNs:zav Tryz.prog 274 = .nilmap:=by kernel_rfl
theorem aOO:fH Tryz.prog 274=true:=by kernel_rfl
theorem aOz:td Tryz.prog 341 = .array 3 3:=by kernel_rfl
theorem aIJ:sz Tryz.prog 341=3:=by kernel_rfl
theorem aNl:cU Tryz.prog 341=true:=by kernel_rfl
theorem aKi:zav Tryz.prog 341 = .agg [.int .i64 (0),.int .i64 (0),.int .i64 (0)]:=by kernel_rfl
theorem aM8:fH Tryz.prog 341=true:=by kernel_rfl
theorem aGi:iA Tryz.prog 3=some (.one .i64):=by kernel_rfl
theorem aIk:iA Tryz.prog 220=some (.many [.i64,.i64,.i64]):=by kernel_rfl
theorem aIj:iA Tryz.prog 341=some (.many [.i64,.i64,.i64]):=by kernel_rfl
theorem dQ:FA Tryz.prog 24 0 0 3:=⟨_,aE9,rfl,rfl,by rw [sz3];decide⟩
theorem fC:FA Tryz.prog 24 1 1 22:=⟨_,aE9,rfl,rfl,by rw [mM];decide⟩
theorem rY:FA Tryz.prog 24 2 2 3:=⟨_,aE9,rfl,rfl,by rw [sz3];decide⟩
theorem fQ:FA Tryz.prog 52 0 0 49:=⟨_,aNI,rfl,rfl,by rw [oF];decide⟩
theorem jL:FA Tryz.prog 52 1 1 50:=⟨_,aNI,rfl,rfl,by rw [uI];decide⟩
theorem aBf:FA Tryz.prog 60 0 0 4:=⟨_,aA0,rfl,rfl,by rw [sz4];decide⟩
theorem pE:FA Tryz.prog 60 1 1 58:=⟨_,aA0,rfl,rfl,by rw [pP];decide⟩
theorem rX:FA Tryz.prog 60 2 2 58:=⟨_,aA0,rfl,rfl,by rw [pP];decide⟩
theorem pF:FA Tryz.prog 103 0 0 3:=⟨_,aDX,rfl,rfl,by rw [sz3];decide⟩
theorem iY:FA Tryz.prog 103 1 1 3:=⟨_,aDX,rfl,rfl,by rw [sz3];decide⟩
theorem iB:FA Tryz.prog 103 2 2 83:=⟨_,aDX,rfl,rfl,by rw [hY];decide⟩
theorem aB7:FA Tryz.prog 143 1 1 141:=⟨_,aDW,rfl,rfl,by rw [tF];decide⟩
theorem aJo:FA Tryz.prog 143 2 2 3:=⟨_,aDW,rfl,rfl,by rw [sz3];decide⟩
theorem aGo:FA Tryz.prog 220 0 0 3:=⟨_,aGS,rfl,rfl,by rw [sz3];decide⟩
theorem aDR:FA Tryz.prog 220 1 1 3:=⟨_,aGS,rfl,rfl,by rw [sz3];decide⟩
theorem aDQ:FA Tryz.prog 220 2 2 3:=⟨_,aGS,rfl,rfl,by rw [sz3];decide⟩
theorem aGn:FA Tryz.prog 266 0 0 24:=⟨_,aII,rfl,rfl,by rw [eY];decide⟩
theorem aB6:FA Tryz.prog 266 1 3 83:=⟨_,aII,rfl,rfl,by rw [hY];decide⟩
theorem aDP:FA Tryz.prog 266 2 4 122:=⟨_,aII,rfl,rfl,by rw [aGV];decide⟩
theorem aGm:FA Tryz.prog 270 0 0 83:=⟨_,aFv,rfl,rfl,by rw [hY];decide⟩
theorem aJn:FA Tryz.prog 270 1 1 83:=⟨_,aFv,rfl,rfl,by rw [hY];decide⟩
theorem vD:FA Tryz.prog 270 2 2 141:=⟨_,aFv,rfl,rfl,by rw [tF];decide⟩
theorem aJm:FA Tryz.prog 270 3 3 267:=⟨_,aFv,rfl,rfl,by rw [aKG];decide⟩
theorem aJl:FA Tryz.prog 270 4 4 268:=⟨_,aFv,rfl,rfl,by rw [aKF];decide⟩
end Go.Proofs.YtnjgdkfhgmebjaaGreat
