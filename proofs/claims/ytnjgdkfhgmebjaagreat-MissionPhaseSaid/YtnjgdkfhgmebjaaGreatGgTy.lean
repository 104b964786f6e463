/- The types' table of this seat, as equations for the formulas. Conditions: none. -/
import Derived.Test.YtnjgdkfhgmebjaaGreatGc
import Derived.Test.YtnjgdkfhgmebjaaGreatProg
import Derived.KernelRfl
namespace Go.Proofs.YtnjgdkfhgmebjaaGreat
open Go.Gg
theorem dH:Tryz.prog.follows .mixedOrders=true:=by kernel_rfl
theorem td3:td Tryz.prog 3 = .int .i64:=by kernel_rfl
theorem sz3:sz Tryz.prog 3=1:=by kernel_rfl
theorem xB:bts Tryz.prog 3=8:=by kernel_rfl
theorem ag3:cX Tryz.prog 3=false:=by kernel_rfl
theorem jX:zav Tryz.prog 3 = .int .i64 (0):=by kernel_rfl
theorem ok3:fU Tryz.prog 3=true:=by kernel_rfl
theorem td4:td Tryz.prog 4 = .bool:=by kernel_rfl
theorem sz4:sz Tryz.prog 4=1:=by kernel_rfl
theorem aMc:bts Tryz.prog 4=1:=by kernel_rfl
theorem ag4:cX Tryz.prog 4=false:=by kernel_rfl
theorem aId:zav Tryz.prog 4 = .bool false:=by kernel_rfl
theorem ok4:fU Tryz.prog 4=true:=by kernel_rfl
theorem td5:td Tryz.prog 5 = .int .u8:=by kernel_rfl
theorem td9:td Tryz.prog 9 = .str:=by kernel_rfl
theorem hH:td Tryz.prog 22 = .slice 103:=by kernel_rfl
theorem jL:sz Tryz.prog 22=1:=by kernel_rfl
theorem lH:cX Tryz.prog 22=false:=by kernel_rfl
theorem aCM:td Tryz.prog 24 = .struct [(0,3),(1,22),(2,3)]:=by kernel_rfl
theorem eC:sz Tryz.prog 24=3:=by kernel_rfl
theorem aPR:bts Tryz.prog 24=40:=by kernel_rfl
theorem jW:cX Tryz.prog 24=true:=by kernel_rfl
theorem jN:zav Tryz.prog 24 = .agg [.int .i64 (0),.nil,.int .i64 (0)]:=by kernel_rfl
theorem xK:fU Tryz.prog 24=true:=by kernel_rfl
theorem aBi:(fU Tryz.prog 24 && lT (zav Tryz.prog 24) && List.all [(0,3),(1,22),(2,3)] (λf=>decide (0<sz Tryz.prog f.2)))=true:=by kernel_rfl
theorem aA5:List.map (λ(f:Nat×TypeId)=>sz Tryz.prog f.2) [(0,3),(1,22),(2,3)]=[1,1,1]:=by kernel_rfl
theorem iD:td Tryz.prog 25 = .slice 60:=by kernel_rfl
theorem qE:sz Tryz.prog 25=1:=by kernel_rfl
theorem aPQ:bts Tryz.prog 25=24:=by kernel_rfl
theorem aCC:cX Tryz.prog 25=false:=by kernel_rfl
theorem aKG:zav Tryz.prog 25 = .nil:=by kernel_rfl
theorem aOB:fU Tryz.prog 25=true:=by kernel_rfl
theorem kQ:td Tryz.prog 34 = .iface:=by kernel_rfl
theorem lI:td Tryz.prog 49 = .slice 24:=by kernel_rfl
theorem nJ:sz Tryz.prog 49=1:=by kernel_rfl
theorem oP:cX Tryz.prog 49=false:=by kernel_rfl
theorem pC:td Tryz.prog 50 = .slice 25:=by kernel_rfl
theorem qM:sz Tryz.prog 50=1:=by kernel_rfl
theorem sU:cX Tryz.prog 50=false:=by kernel_rfl
theorem aMF:td Tryz.prog 52 = .struct [(0,49),(1,50)]:=by kernel_rfl
theorem iM:sz Tryz.prog 52=2:=by kernel_rfl
theorem kB:cX Tryz.prog 52=true:=by kernel_rfl
theorem aEh:zav Tryz.prog 52 = .agg [.nil,.nil]:=by kernel_rfl
theorem aLt:fU Tryz.prog 52=true:=by kernel_rfl
theorem aNZ:(fU Tryz.prog 52 && lT (zav Tryz.prog 52) && List.all [(0,49),(1,50)] (λf=>decide (0<sz Tryz.prog f.2)))=true:=by kernel_rfl
theorem aNK:List.map (λ(f:Nat×TypeId)=>sz Tryz.prog f.2) [(0,49),(1,50)]=[1,1]:=by kernel_rfl
theorem bS:td Tryz.prog 58 = .slice 193:=by kernel_rfl
theorem pD:sz Tryz.prog 58=1:=by kernel_rfl
theorem qI:cX Tryz.prog 58=false:=by kernel_rfl
theorem zJ:td Tryz.prog 60 = .struct [(0,4),(1,58),(2,58)]:=by kernel_rfl
theorem bM:sz Tryz.prog 60=3:=by kernel_rfl
theorem aFb:bts Tryz.prog 60=56:=by kernel_rfl
theorem cQ:cX Tryz.prog 60=true:=by kernel_rfl
theorem cS:zav Tryz.prog 60 = .agg [.bool false,.nil,.nil]:=by kernel_rfl
theorem gP:fU Tryz.prog 60=true:=by kernel_rfl
theorem uR:(fU Tryz.prog 60 && lT (zav Tryz.prog 60) && List.all [(0,4),(1,58),(2,58)] (λf=>decide (0<sz Tryz.prog f.2)))=true:=by kernel_rfl
theorem tU:List.map (λ(f:Nat×TypeId)=>sz Tryz.prog f.2) [(0,4),(1,58),(2,58)]=[1,1,1]:=by kernel_rfl
theorem oJ:td Tryz.prog 82 = .int .i64:=by kernel_rfl
theorem cM:td Tryz.prog 83 = .slice 3:=by kernel_rfl
theorem iE:sz Tryz.prog 83=1:=by kernel_rfl
theorem aPP:bts Tryz.prog 83=24:=by kernel_rfl
theorem nH:cX Tryz.prog 83=false:=by kernel_rfl
theorem aPa:zav Tryz.prog 83 = .nil:=by kernel_rfl
theorem aQc:fU Tryz.prog 83=true:=by kernel_rfl
theorem zR:td Tryz.prog 103 = .struct [(0,3),(1,3),(2,83)]:=by kernel_rfl
theorem fJ:sz Tryz.prog 103=3:=by kernel_rfl
theorem aDd:bts Tryz.prog 103=40:=by kernel_rfl
theorem zI:cX Tryz.prog 103=true:=by kernel_rfl
theorem fK:zav Tryz.prog 103 = .agg [.int .i64 (0),.int .i64 (0),.nil]:=by kernel_rfl
theorem lJ:fU Tryz.prog 103=true:=by kernel_rfl
theorem aAv:(fU Tryz.prog 103 && lT (zav Tryz.prog 103) && List.all [(0,3),(1,3),(2,83)] (λf=>decide (0<sz Tryz.prog f.2)))=true:=by kernel_rfl
theorem zS:List.map (λ(f:Nat×TypeId)=>sz Tryz.prog f.2) [(0,3),(1,3),(2,83)]=[1,1,1]:=by kernel_rfl
theorem aEm:td Tryz.prog 114 = .slice 83:=by kernel_rfl
theorem aEo:sz Tryz.prog 114=1:=by kernel_rfl
theorem aGa:cX Tryz.prog 114=false:=by kernel_rfl
theorem aOd:zav Tryz.prog 114 = .nil:=by kernel_rfl
theorem aPx:fU Tryz.prog 114=true:=by kernel_rfl
theorem lX:td Tryz.prog 122 = .slice 4:=by kernel_rfl
theorem aG8:sz Tryz.prog 122=1:=by kernel_rfl
theorem aJX:cX Tryz.prog 122=false:=by kernel_rfl
theorem vC:td Tryz.prog 141 = .slice 220:=by kernel_rfl
theorem tV:sz Tryz.prog 141=1:=by kernel_rfl
theorem aAx:cX Tryz.prog 141=false:=by kernel_rfl
theorem aEl:td Tryz.prog 143 = .struct [(0,83),(1,141),(2,3)]:=by kernel_rfl
theorem nO:sz Tryz.prog 143=3:=by kernel_rfl
theorem aDD:cX Tryz.prog 143=true:=by kernel_rfl
theorem xU:zav Tryz.prog 143 = .agg [.nil,.nil,.int .i64 (0)]:=by kernel_rfl
theorem aJm:fU Tryz.prog 143=true:=by kernel_rfl
theorem aFd:(fU Tryz.prog 143 && lT (zav Tryz.prog 143) && List.all [(0,83),(1,141),(2,3)] (λf=>decide (0<sz Tryz.prog f.2)))=true:=by kernel_rfl
theorem aEn:List.map (λ(f:Nat×TypeId)=>sz Tryz.prog f.2) [(0,83),(1,141),(2,3)]=[1,1,1]:=by kernel_rfl
theorem fB:td Tryz.prog 168 = .int .u64:=by kernel_rfl
theorem eU:td Tryz.prog 193 = .int .u32:=by kernel_rfl
theorem bU:sz Tryz.prog 193=1:=by kernel_rfl
theorem kM:bts Tryz.prog 193=4:=by kernel_rfl
theorem gD:cX Tryz.prog 193=false:=by kernel_rfl
theorem eY:zav Tryz.prog 193 = .int .u32 (0):=by kernel_rfl
theorem gM:fU Tryz.prog 193=true:=by kernel_rfl
theorem aI6:sz Tryz.prog 206=1:=by kernel_rfl
theorem aMn:cX Tryz.prog 206=false:=by kernel_rfl
theorem aOc:zav Tryz.prog 206 = .nilf:=by kernel_rfl
theorem aPw:fU Tryz.prog 206=true:=by kernel_rfl
theorem aI5:sz Tryz.prog 215=1:=by kernel_rfl
theorem aJW:cX Tryz.prog 215=false:=by kernel_rfl
theorem aG5:td Tryz.prog 220 = .struct [(0,3),(1,3),(2,3)]:=by kernel_rfl
theorem pK:sz Tryz.prog 220=3:=by kernel_rfl
theorem aMd:bts Tryz.prog 220=24:=by kernel_rfl
theorem aFk:cX Tryz.prog 220=true:=by kernel_rfl
theorem wC:zav Tryz.prog 220 = .agg [.int .i64 (0),.int .i64 (0),.int .i64 (0)]:=by kernel_rfl
theorem aDv:fU Tryz.prog 220=true:=by kernel_rfl
theorem aMe:(fU Tryz.prog 220 && lT (zav Tryz.prog 220) && List.all [(0,3),(1,3),(2,3)] (λf=>decide (0<sz Tryz.prog f.2)))=true:=by kernel_rfl
theorem aK3:List.map (λ(f:Nat×TypeId)=>sz Tryz.prog f.2) [(0,3),(1,3),(2,3)]=[1,1,1]:=by kernel_rfl
theorem aI4:sz Tryz.prog 248=1:=by kernel_rfl
theorem aMm:cX Tryz.prog 248=false:=by kernel_rfl
theorem aOb:zav Tryz.prog 248 = .nilf:=by kernel_rfl
theorem aPv:fU Tryz.prog 248=true:=by kernel_rfl
theorem aG4:td Tryz.prog 253 = .map 3 4:=by kernel_rfl
theorem aG7:sz Tryz.prog 253=1:=by kernel_rfl
theorem aJV:cX Tryz.prog 253=false:=by kernel_rfl
theorem aOa:zav Tryz.prog 253 = .nilmap:=by kernel_rfl
theorem aPu:fU Tryz.prog 253=true:=by kernel_rfl
theorem aI1:td Tryz.prog 266 = .struct [(0,24),(3,83),(4,122)]:=by kernel_rfl
theorem aPf:sz Tryz.prog 266=5:=by kernel_rfl
theorem aN9:zav Tryz.prog 266 = .agg [.int .i64 (0),.nil,.int .i64 (0),.nil,.nil]:=by kernel_rfl
theorem aO2:(fU Tryz.prog 266 && lT (zav Tryz.prog 266) && List.all [(0,24),(3,83),(4,122)] (λf=>decide (0<sz Tryz.prog f.2)))=true:=by kernel_rfl
theorem aOo:List.map (λ(f:Nat×TypeId)=>sz Tryz.prog f.2) [(0,24),(3,83),(4,122)]=[3,1,1]:=by kernel_rfl
theorem aK1:td Tryz.prog 267 = .map 220 3:=by kernel_rfl
theorem aK6:sz Tryz.prog 267=1:=by kernel_rfl
theorem aN3:cX Tryz.prog 267=false:=by kernel_rfl
theorem aK0:td Tryz.prog 268 = .map 341 3:=by kernel_rfl
theorem aK5:sz Tryz.prog 268=1:=by kernel_rfl
theorem aN2:cX Tryz.prog 268=false:=by kernel_rfl
theorem aFN:td Tryz.prog 270 = .struct [(0,83),(1,83),(2,141),(3,267),(4,268)]:=by kernel_rfl
theorem aPe:sz Tryz.prog 270=5:=by kernel_rfl
theorem aN8:zav Tryz.prog 270 = .agg [.nil,.nil,.nil,.nilmap,.nilmap]:=by kernel_rfl
theorem aO1:(fU Tryz.prog 270 && lT (zav Tryz.prog 270) && List.all [(0,83),(1,83),(2,141),(3,267),(4,268)] (λf=>decide (0<sz Tryz.prog f.2)))=true:=by kernel_rfl
theorem aOn:List.map (λ(f:Nat×TypeId)=>sz Tryz.prog f.2) [(0,83),(1,83),(2,141),(3,267),(4,268)]=[1,1,1,1,1]:=by kernel_rfl
theorem aFM:td Tryz.prog 274 = .map 3 3:=by kernel_rfl
theorem aI3:sz Tryz.prog 274=1:=by kernel_rfl
theorem aMl:cX Tryz.prog 274=false:=by kernel_rfl
theorem aN7:zav Tryz.prog 274 = .nilmap:=by kernel_rfl
theorem aPt:fU Tryz.prog 274=true:=by kernel_rfl
theorem aPd:td Tryz.prog 341 = .array 3 3:=by kernel_rfl
theorem aI2:sz Tryz.prog 341=3:=by kernel_rfl
theorem aN1:cX Tryz.prog 341=true:=by kernel_rfl
theorem aKF:zav Tryz.prog 341 = .agg [.int .i64 (0),.int .i64 (0),.int .i64 (0)]:=by kernel_rfl
theorem aNN:fU Tryz.prog 341=true:=by kernel_rfl
theorem aGy:iO Tryz.prog 3=some (.one .i64):=by kernel_rfl
theorem aIA:iO Tryz.prog 220=some (.many [.i64,.i64,.i64]):=by kernel_rfl
theorem aIz:iO Tryz.prog 341=some (.many [.i64,.i64,.i64]):=by kernel_rfl
theorem dY:FA Tryz.prog 24 0 0 3:=⟨_,aCM,rfl,rfl,by rw [sz3];decide⟩
theorem dX:FA Tryz.prog 24 1 1 22:=⟨_,aCM,rfl,rfl,by rw [jL];decide⟩
theorem oN:FA Tryz.prog 24 2 2 3:=⟨_,aCM,rfl,rfl,by rw [sz3];decide⟩
theorem fN:FA Tryz.prog 52 0 0 49:=⟨_,aMF,rfl,rfl,by rw [nJ];decide⟩
theorem hG:FA Tryz.prog 52 1 1 50:=⟨_,aMF,rfl,rfl,by rw [qM];decide⟩
theorem aAq:FA Tryz.prog 60 0 0 4:=⟨_,zJ,rfl,rfl,by rw [sz4];decide⟩
theorem oM:FA Tryz.prog 60 1 1 58:=⟨_,zJ,rfl,rfl,by rw [pD];decide⟩
theorem qV:FA Tryz.prog 60 2 2 58:=⟨_,zJ,rfl,rfl,by rw [pD];decide⟩
theorem oG:FA Tryz.prog 103 0 0 3:=⟨_,zR,rfl,rfl,by rw [sz3];decide⟩
theorem jK:FA Tryz.prog 103 1 1 3:=⟨_,zR,rfl,rfl,by rw [sz3];decide⟩
theorem fI:FA Tryz.prog 103 2 2 83:=⟨_,zR,rfl,rfl,by rw [iE];decide⟩
theorem aCt:FA Tryz.prog 143 1 1 141:=⟨_,aEl,rfl,rfl,by rw [tV];decide⟩
theorem aJH:FA Tryz.prog 143 2 2 3:=⟨_,aEl,rfl,rfl,by rw [sz3];decide⟩
theorem aGF:FA Tryz.prog 220 0 0 3:=⟨_,aG5,rfl,rfl,by rw [sz3];decide⟩
theorem aEe:FA Tryz.prog 220 1 1 3:=⟨_,aG5,rfl,rfl,by rw [sz3];decide⟩
theorem aEd:FA Tryz.prog 220 2 2 3:=⟨_,aG5,rfl,rfl,by rw [sz3];decide⟩
theorem aGE:FA Tryz.prog 266 0 0 24:=⟨_,aI1,rfl,rfl,by rw [eC];decide⟩
theorem aCs:FA Tryz.prog 266 1 3 83:=⟨_,aI1,rfl,rfl,by rw [iE];decide⟩
theorem aEc:FA Tryz.prog 266 2 4 122:=⟨_,aI1,rfl,rfl,by rw [aG8];decide⟩
theorem aGD:FA Tryz.prog 270 0 0 83:=⟨_,aFN,rfl,rfl,by rw [iE];decide⟩
theorem aJG:FA Tryz.prog 270 1 1 83:=⟨_,aFN,rfl,rfl,by rw [iE];decide⟩
theorem vT:FA Tryz.prog 270 2 2 141:=⟨_,aFN,rfl,rfl,by rw [tV];decide⟩
theorem aJF:FA Tryz.prog 270 3 3 267:=⟨_,aFN,rfl,rfl,by rw [aK6];decide⟩
theorem aJE:FA Tryz.prog 270 4 4 268:=⟨_,aFN,rfl,rfl,by rw [aK5];decide⟩
end Go.Proofs.YtnjgdkfhgmebjaaGreat
