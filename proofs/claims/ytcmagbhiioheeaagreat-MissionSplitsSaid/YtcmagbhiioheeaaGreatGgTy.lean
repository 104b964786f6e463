/- The types' table of this seat, as equations for the formulas. Conditions: none. -/
import Derived.Test.YtcmagbhiioheeaaGreatGc
import Derived.Test.YtcmagbhiioheeaaGreatProg
import Derived.KernelRfl
namespace Go.Proofs.YtcmagbhiioheeaaGreat
open Go.Gg Tryz
theorem kR {P:Prop} (h:P:=by kernel_rfl):P:=h
theorem bG:prog.follows .mixedOrders=true:=kR
theorem td3:td prog 3 = .int .i64:=kR
theorem sz3:sz prog 3=1:=kR
theorem nt:bts prog 3=8:=kR
theorem ag3:bU prog 3=false:=kR
theorem fD:zav prog 3 = .int .i64 (0):=kR
theorem ok3:c9 prog 3=true:=kR
theorem td4:td prog 4 = .bool:=kR
theorem sz4:sz prog 4=1:=kR
theorem C6:bts prog 4=1:=kR
theorem ag4:bU prog 4=false:=kR
theorem yR:zav prog 4 = .bool false:=kR
theorem ok4:c9 prog 4=true:=kR
theorem td5:td prog 5 = .int .u8:=kR
theorem td9:td prog 9 = .str:=kR
theorem fp:td prog 22 = .slice 54:=kR
theorem fL:sz prog 22=1:=kR
theorem gz:bU prog 22=false:=kR
theorem iA:td prog 23 = .slice 44:=kR
theorem jQ:sz prog 23=1:=kR
theorem kK:bU prog 23=false:=kR
theorem Ay:td prog 25 = .struct [(0,22),(1,23)]:=kR
theorem c_:sz prog 25=2:=kR
theorem eP:bU prog 25=true:=kR
theorem oS:zav prog 25 = .agg [.nil,.nil]:=kR
theorem Cy:c9 prog 25=true:=kR
theorem Ag:(c9 prog 25 && gF (zav prog 25) && List.all [(0,22),(1,23)] (λf=>decide (0<sz prog f.2)))=true:=kR
theorem y_:List.map (λ(f:Nat×TypeId)=>sz prog f.2) [(0,22),(1,23)]=[1,1]:=kR
theorem bk:td prog 26 = .slice 117:=kR
theorem iJ:sz prog 26=1:=kR
theorem jk:bU prog 26=false:=kR
theorem oL:td prog 28 = .struct [(0,4),(1,26),(2,26)]:=kR
theorem bb:sz prog 28=3:=kR
theorem wn:bts prog 28=56:=kR
theorem bH:bU prog 28=true:=kR
theorem bN:zav prog 28 = .agg [.bool false,.nil,.nil]:=kR
theorem dH:c9 prog 28=true:=kR
theorem mq:(c9 prog 28 && gF (zav prog 28) && List.all [(0,4),(1,26),(2,26)] (λf=>decide (0<sz prog f.2)))=true:=kR
theorem lR:List.map (λ(f:Nat×TypeId)=>sz prog f.2) [(0,4),(1,26),(2,26)]=[1,1,1]:=kR
theorem fX:td prog 35 = .iface:=kR
theorem gQ:td prog 41 = .int .i64:=kR
theorem H9:zav prog 41 = .int .i64 (0):=kR
theorem Jb:c9 prog 41=true:=kR
theorem eE:td prog 44 = .slice 28:=kR
theorem ji:sz prog 44=1:=kR
theorem IP:bts prog 44=24:=kR
theorem sk:bU prog 44=false:=kR
theorem Dd:zav prog 44 = .nil:=kR
theorem Ho:c9 prog 44=true:=kR
theorem du:td prog 52 = .slice 75:=kR
theorem eu:sz prog 52=1:=kR
theorem fv:bU prog 52=false:=kR
theorem sy:td prog 54 = .struct [(0,3),(1,52),(2,3)]:=kR
theorem ck:sz prog 54=3:=kR
theorem IM:bts prog 54=40:=kR
theorem fm:bU prog 54=true:=kR
theorem eY:zav prog 54 = .agg [.int .i64 (0),.nil,.int .i64 (0)]:=kR
theorem ni:c9 prog 54=true:=kR
theorem qq:(c9 prog 54 && gF (zav prog 54) && List.all [(0,3),(1,52),(2,3)] (λf=>decide (0<sz prog f.2)))=true:=kR
theorem qd:List.map (λ(f:Nat×TypeId)=>sz prog f.2) [(0,3),(1,52),(2,3)]=[1,1,1]:=kR
theorem bK:td prog 70 = .slice 3:=kR
theorem ep:sz prog 70=1:=kR
theorem IK:bts prog 70=24:=kR
theorem ig:bU prog 70=false:=kR
theorem H8:zav prog 70 = .nil:=kR
theorem Ja:c9 prog 70=true:=kR
theorem uH:td prog 75 = .struct [(0,3),(1,3),(2,70)]:=kR
theorem eU:sz prog 75=3:=kR
theorem xI:bts prog 75=40:=kR
theorem uj:bU prog 75=true:=kR
theorem eJ:zav prog 75 = .agg [.int .i64 (0),.int .i64 (0),.nil]:=kR
theorem kT:c9 prog 75=true:=kR
theorem tN:(c9 prog 75 && gF (zav prog 75) && List.all [(0,3),(1,3),(2,70)] (λf=>decide (0<sz prog f.2)))=true:=kR
theorem tv:List.map (λ(f:Nat×TypeId)=>sz prog f.2) [(0,3),(1,3),(2,70)]=[1,1,1]:=kR
theorem jo:td prog 81 = .slice 4:=kR
theorem Dz:sz prog 81=1:=kR
theorem Gi:bU prog 81=false:=kR
theorem Ax:td prog 97 = .slice 70:=kR
theorem Az:sz prog 97=1:=kR
theorem C8:bU prog 97=false:=kR
theorem H7:zav prog 97 = .nil:=kR
theorem I_:c9 prog 97=true:=kR
theorem Fb:sz prog 98=1:=kR
theorem H0:bU prog 98=false:=kR
theorem H6:zav prog 98 = .nilf:=kR
theorem I':c9 prog 98=true:=kR
theorem mB:td prog 103 = .slice 144:=kR
theorem lS:sz prog 103=1:=kR
theorem pz:bU prog 103=false:=kR
theorem uI:td prog 105 = .struct [(0,70),(1,103),(2,3)]:=kR
theorem iK:sz prog 105=3:=kR
theorem tP:bU prog 105=true:=kR
theorem nS:zav prog 105 = .agg [.nil,.nil,.int .i64 (0)]:=kR
theorem BJ:c9 prog 105=true:=kR
theorem wp:(c9 prog 105 && gF (zav prog 105) && List.all [(0,70),(1,103),(2,3)] (λf=>decide (0<sz prog f.2)))=true:=kR
theorem uJ:List.map (λ(f:Nat×TypeId)=>sz prog f.2) [(0,70),(1,103),(2,3)]=[1,1,1]:=kR
theorem cI:td prog 117 = .int .u32:=kR
theorem bo:sz prog 117=1:=kR
theorem fV:bts prog 117=4:=kR
theorem dw:bU prog 117=false:=kR
theorem cM:zav prog 117 = .int .u32 (0):=kR
theorem dQ:c9 prog 117=true:=kR
theorem cP:td prog 126 = .int .u64:=kR
theorem Bq:sz prog 138=1:=kR
theorem Ch:bU prog 138=false:=kR
theorem y9:td prog 144 = .struct [(0,3),(1,3),(2,3)]:=kR
theorem jp:sz prog 144=3:=kR
theorem EH:bts prog 144=24:=kR
theorem wy:bU prog 144=true:=kR
theorem mT:zav prog 144 = .agg [.int .i64 (0),.int .i64 (0),.int .i64 (0)]:=kR
theorem tH:c9 prog 144=true:=kR
theorem EI:(c9 prog 144 && gF (zav prog 144) && List.all [(0,3),(1,3),(2,3)] (λf=>decide (0<sz prog f.2)))=true:=kR
theorem Dx:List.map (λ(f:Nat×TypeId)=>sz prog f.2) [(0,3),(1,3),(2,3)]=[1,1,1]:=kR
theorem Bm:td prog 163 = .struct [(0,54),(3,70),(4,81)]:=kR
theorem Ib:sz prog 163=5:=kR
theorem GT:zav prog 163 = .agg [.int .i64 (0),.nil,.int .i64 (0),.nil,.nil]:=kR
theorem HW:(c9 prog 163 && gF (zav prog 163) && List.all [(0,54),(3,70),(4,81)] (λf=>decide (0<sz prog f.2)))=true:=kR
theorem G9:List.map (λ(f:Nat×TypeId)=>sz prog f.2) [(0,54),(3,70),(4,81)]=[3,1,1]:=kR
theorem Bp:sz prog 164=1:=kR
theorem EQ:bU prog 164=false:=kR
theorem GS:zav prog 164 = .nilf:=kR
theorem Is:c9 prog 164=true:=kR
theorem Dv:td prog 165 = .map 144 3:=kR
theorem DB:sz prog 165=1:=kR
theorem GK:bU prog 165=false:=kR
theorem Du:td prog 166 = .map 176 3:=kR
theorem DA:sz prog 166=1:=kR
theorem GJ:bU prog 166=false:=kR
theorem xi:td prog 168 = .struct [(0,70),(1,70),(2,103),(3,165),(4,166)]:=kR
theorem Ia:sz prog 168=5:=kR
theorem GR:zav prog 168 = .agg [.nil,.nil,.nil,.nilmap,.nilmap]:=kR
theorem HV:(c9 prog 168 && gF (zav prog 168) && List.all [(0,70),(1,70),(2,103),(3,165),(4,166)] (λf=>decide (0<sz prog f.2)))=true:=kR
theorem G8:List.map (λ(f:Nat×TypeId)=>sz prog f.2) [(0,70),(1,70),(2,103),(3,165),(4,166)]=[1,1,1,1,1]:=kR
theorem y8:td prog 173 = .map 3 4:=kR
theorem zb:sz prog 173=1:=kR
theorem Cg:bU prog 173=false:=kR
theorem GQ:zav prog 173 = .nilmap:=kR
theorem Ir:c9 prog 173=true:=kR
theorem xg:td prog 174 = .map 3 3:=kR
theorem Bo:sz prog 174=1:=kR
theorem EP:bU prog 174=false:=kR
theorem GP:zav prog 174 = .nilmap:=kR
theorem Iq:c9 prog 174=true:=kR
theorem H_:td prog 176 = .array 3 3:=kR
theorem Bn:sz prog 176=3:=kR
theorem GI:bU prog 176=true:=kR
theorem De:zav prog 176 = .agg [.int .i64 (0),.int .i64 (0),.int .i64 (0)]:=kR
theorem Gv:c9 prog 176=true:=kR
theorem yp:eN prog 3=some (.one .i64):=kR
theorem AU:eN prog 144=some zKt:=kR
theorem AS:eN prog 176=some zKt:=kR
theorem cy:FA prog 25 0 0 22:=⟨_,Ay,rfl,rfl,by rw[fL];decide⟩
theorem dO:FA prog 25 1 1 23:=⟨_,Ay,rfl,rfl,by rw[jQ];decide⟩
theorem pn:FA prog 28 0 0 4:=⟨_,oL,rfl,rfl,by rw[sz4];decide⟩
theorem iG:FA prog 28 1 1 26:=⟨_,oL,rfl,rfl,by rw[iJ];decide⟩
theorem jI:FA prog 28 2 2 26:=⟨_,oL,rfl,rfl,by rw[iJ];decide⟩
theorem b8:FA prog 54 0 0 3:=⟨_,sy,rfl,rfl,by rw[sz3];decide⟩
theorem bQ:FA prog 54 1 1 52:=⟨_,sy,rfl,rfl,by rw[eu];decide⟩
theorem iF:FA prog 54 2 2 3:=⟨_,sy,rfl,rfl,by rw[sz3];decide⟩
theorem jH:FA prog 75 0 0 3:=⟨_,uH,rfl,rfl,by rw[sz3];decide⟩
theorem gG:FA prog 75 1 1 3:=⟨_,uH,rfl,rfl,by rw[sz3];decide⟩
theorem dA:FA prog 75 2 2 70:=⟨_,uH,rfl,rfl,by rw[ep];decide⟩
theorem rW:FA prog 105 1 1 103:=⟨_,uI,rfl,rfl,by rw[lS];decide⟩
theorem B5:FA prog 105 2 2 3:=⟨_,uI,rfl,rfl,by rw[sz3];decide⟩
theorem yx:FA prog 144 0 0 3:=⟨_,y9,rfl,rfl,by rw[sz3];decide⟩
theorem uC:FA prog 144 1 1 3:=⟨_,y9,rfl,rfl,by rw[sz3];decide⟩
theorem uB:FA prog 144 2 2 3:=⟨_,y9,rfl,rfl,by rw[sz3];decide⟩
theorem yw:FA prog 163 0 0 54:=⟨_,Bm,rfl,rfl,by rw[ck];decide⟩
theorem rV:FA prog 163 1 3 70:=⟨_,Bm,rfl,rfl,by rw[ep];decide⟩
theorem uA:FA prog 163 2 4 81:=⟨_,Bm,rfl,rfl,by rw[Dz];decide⟩
theorem yv:FA prog 168 0 0 70:=⟨_,xi,rfl,rfl,by rw[ep];decide⟩
theorem B4:FA prog 168 1 1 70:=⟨_,xi,rfl,rfl,by rw[ep];decide⟩
theorem mP:FA prog 168 2 2 103:=⟨_,xi,rfl,rfl,by rw[lS];decide⟩
theorem B3:FA prog 168 3 3 165:=⟨_,xi,rfl,rfl,by rw[DB];decide⟩
theorem B0:FA prog 168 4 4 166:=⟨_,xi,rfl,rfl,by rw[DA];decide⟩
end Go.Proofs.YtcmagbhiioheeaaGreat
