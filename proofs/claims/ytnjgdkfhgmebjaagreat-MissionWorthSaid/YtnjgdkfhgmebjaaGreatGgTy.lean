/- The types' table of this seat, as equations for the formulas. Conditions: none. -/
import Derived.Test.YtnjgdkfhgmebjaaGreatGc
import Derived.Test.YtnjgdkfhgmebjaaGreatProg
import Derived.KernelRfl
namespace Go.Proofs.YtnjgdkfhgmebjaaGreat
open Go.Gg
theorem bU:Tryz.prog.follows .mixedOrders=true:=by kernel_rfl
theorem td3:td Tryz.prog 3 = .int .i64:=by kernel_rfl
theorem sz3:sz Tryz.prog 3=1:=by kernel_rfl
theorem mK:bts Tryz.prog 3=8:=by kernel_rfl
theorem ag3:bJ Tryz.prog 3=false:=by kernel_rfl
theorem eY:zav Tryz.prog 3 = .int .i64 (0):=by kernel_rfl
theorem ok3:cX Tryz.prog 3=true:=by kernel_rfl
theorem td4:td Tryz.prog 4 = .bool:=by kernel_rfl
theorem sz4:sz Tryz.prog 4=1:=by kernel_rfl
theorem Bl:bts Tryz.prog 4=1:=by kernel_rfl
theorem ag4:bJ Tryz.prog 4=false:=by kernel_rfl
theorem xb:zav Tryz.prog 4 = .bool false:=by kernel_rfl
theorem ok4:cX Tryz.prog 4=true:=by kernel_rfl
theorem td5:td Tryz.prog 5 = .int .u8:=by kernel_rfl
theorem td9:td Tryz.prog 9 = .str:=by kernel_rfl
theorem dl:td Tryz.prog 22 = .slice 103:=by kernel_rfl
theorem dY:sz Tryz.prog 22=1:=by kernel_rfl
theorem eU:bJ Tryz.prog 22=false:=by kernel_rfl
theorem sv:td Tryz.prog 24 = .struct [(0,3),(1,22),(2,3)]:=by kernel_rfl
theorem cn:sz Tryz.prog 24=3:=by kernel_rfl
theorem fm:bJ Tryz.prog 24=true:=by kernel_rfl
theorem fT:zav Tryz.prog 24 = .agg [.int .i64 (0),.nil,.int .i64 (0)]:=by kernel_rfl
theorem pF:cX Tryz.prog 24=true:=by kernel_rfl
theorem qV:(cX Tryz.prog 24 && fQ (zav Tryz.prog 24) && List.all [(0,3),(1,22),(2,3)] (λf=>decide (0<sz Tryz.prog f.2)))=true:=by kernel_rfl
theorem p7:List.map (λ(f:Nat×TypeId)=>sz Tryz.prog f.2) [(0,3),(1,22),(2,3)]=[1,1,1]:=by kernel_rfl
theorem fr:td Tryz.prog 25 = .slice 60:=by kernel_rfl
theorem kh:sz Tryz.prog 25=1:=by kernel_rfl
theorem GR:bts Tryz.prog 25=24:=by kernel_rfl
theorem uH:bJ Tryz.prog 25=false:=by kernel_rfl
theorem Bt:zav Tryz.prog 25 = .nil:=by kernel_rfl
theorem FE:cX Tryz.prog 25=true:=by kernel_rfl
theorem gf:td Tryz.prog 34 = .iface:=by kernel_rfl
theorem gV:td Tryz.prog 49 = .slice 24:=by kernel_rfl
theorem iE:sz Tryz.prog 49=1:=by kernel_rfl
theorem i7:bJ Tryz.prog 49=false:=by kernel_rfl
theorem i_:td Tryz.prog 50 = .slice 25:=by kernel_rfl
theorem kg:sz Tryz.prog 50=1:=by kernel_rfl
theorem lw:bJ Tryz.prog 50=false:=by kernel_rfl
theorem Dv:td Tryz.prog 52 = .struct [(0,49),(1,50)]:=by kernel_rfl
theorem fo:sz Tryz.prog 52=2:=by kernel_rfl
theorem gb:bJ Tryz.prog 52=true:=by kernel_rfl
theorem zB:zav Tryz.prog 52 = .agg [.nil,.nil]:=by kernel_rfl
theorem Gu:cX Tryz.prog 52=true:=by kernel_rfl
theorem EY:(cX Tryz.prog 52 && fQ (zav Tryz.prog 52) && List.all [(0,49),(1,50)] (λf=>decide (0<sz Tryz.prog f.2)))=true:=by kernel_rfl
theorem EH:List.map (λ(f:Nat×TypeId)=>sz Tryz.prog f.2) [(0,49),(1,50)]=[1,1]:=by kernel_rfl
theorem be:td Tryz.prog 58 = .slice 193:=by kernel_rfl
theorem ja:sz Tryz.prog 58=1:=by kernel_rfl
theorem jR:bJ Tryz.prog 58=false:=by kernel_rfl
theorem mU:td Tryz.prog 60 = .struct [(0,4),(1,58),(2,58)]:=by kernel_rfl
theorem a9:sz Tryz.prog 60=3:=by kernel_rfl
theorem v4:bts Tryz.prog 60=56:=by kernel_rfl
theorem bK:bJ Tryz.prog 60=true:=by kernel_rfl
theorem bS:zav Tryz.prog 60 = .agg [.bool false,.nil,.nil]:=by kernel_rfl
theorem eb:cX Tryz.prog 60=true:=by kernel_rfl
theorem ke:(cX Tryz.prog 60 && fQ (zav Tryz.prog 60) && List.all [(0,4),(1,58),(2,58)] (λf=>decide (0<sz Tryz.prog f.2)))=true:=by kernel_rfl
theorem j9:List.map (λ(f:Nat×TypeId)=>sz Tryz.prog f.2) [(0,4),(1,58),(2,58)]=[1,1,1]:=by kernel_rfl
theorem im:td Tryz.prog 82 = .int .i64:=by kernel_rfl
theorem bw:td Tryz.prog 83 = .slice 3:=by kernel_rfl
theorem dT:sz Tryz.prog 83=1:=by kernel_rfl
theorem GQ:bts Tryz.prog 83=24:=by kernel_rfl
theorem gM:bJ Tryz.prog 83=false:=by kernel_rfl
theorem Gd:zav Tryz.prog 83 = .nil:=by kernel_rfl
theorem Hh:cX Tryz.prog 83=true:=by kernel_rfl
theorem o6:td Tryz.prog 103 = .struct [(0,3),(1,3),(2,83)]:=by kernel_rfl
theorem cK:sz Tryz.prog 103=3:=by kernel_rfl
theorem uy:bts Tryz.prog 103=40:=by kernel_rfl
theorem ox:bJ Tryz.prog 103=true:=by kernel_rfl
theorem c5:zav Tryz.prog 103 = .agg [.int .i64 (0),.int .i64 (0),.nil]:=by kernel_rfl
theorem gN:cX Tryz.prog 103=true:=by kernel_rfl
theorem pR:(cX Tryz.prog 103 && fQ (zav Tryz.prog 103) && List.all [(0,3),(1,3),(2,83)] (λf=>decide (0<sz Tryz.prog f.2)))=true:=by kernel_rfl
theorem pu:List.map (λ(f:Nat×TypeId)=>sz Tryz.prog f.2) [(0,3),(1,3),(2,83)]=[1,1,1]:=by kernel_rfl
theorem tw:td Tryz.prog 114 = .slice 83:=by kernel_rfl
theorem tz:sz Tryz.prog 114=1:=by kernel_rfl
theorem v8:bJ Tryz.prog 114=false:=by kernel_rfl
theorem Fe:zav Tryz.prog 114 = .nil:=by kernel_rfl
theorem Gz:cX Tryz.prog 114=true:=by kernel_rfl
theorem eP:td Tryz.prog 122 = .slice 4:=by kernel_rfl
theorem xt:sz Tryz.prog 122=1:=by kernel_rfl
theorem AG:bJ Tryz.prog 122=false:=by kernel_rfl
theorem lE:td Tryz.prog 141 = .slice 220:=by kernel_rfl
theorem kK:sz Tryz.prog 141=1:=by kernel_rfl
theorem ov:bJ Tryz.prog 141=false:=by kernel_rfl
theorem tv:td Tryz.prog 143 = .struct [(0,83),(1,141),(2,3)]:=by kernel_rfl
theorem gW:sz Tryz.prog 143=3:=by kernel_rfl
theorem su:bJ Tryz.prog 143=true:=by kernel_rfl
theorem mP:zav Tryz.prog 143 = .agg [.nil,.nil,.int .i64 (0)]:=by kernel_rfl
theorem z7:cX Tryz.prog 143=true:=by kernel_rfl
theorem uA:(cX Tryz.prog 143 && fQ (zav Tryz.prog 143) && List.all [(0,83),(1,141),(2,3)] (λf=>decide (0<sz Tryz.prog f.2)))=true:=by kernel_rfl
theorem tx:List.map (λ(f:Nat×TypeId)=>sz Tryz.prog f.2) [(0,83),(1,141),(2,3)]=[1,1,1]:=by kernel_rfl
theorem cA:td Tryz.prog 168 = .int .u64:=by kernel_rfl
theorem cu:td Tryz.prog 193 = .int .u32:=by kernel_rfl
theorem bf:sz Tryz.prog 193=1:=by kernel_rfl
theorem fD:bts Tryz.prog 193=4:=by kernel_rfl
theorem db:bJ Tryz.prog 193=false:=by kernel_rfl
theorem cE:zav Tryz.prog 193 = .int .u32 (0):=by kernel_rfl
theorem dM:cX Tryz.prog 193=true:=by kernel_rfl
theorem zL:sz Tryz.prog 206=1:=by kernel_rfl
theorem De:bJ Tryz.prog 206=false:=by kernel_rfl
theorem Fd:zav Tryz.prog 206 = .nilf:=by kernel_rfl
theorem Gy:cX Tryz.prog 206=true:=by kernel_rfl
theorem zK:sz Tryz.prog 215=1:=by kernel_rfl
theorem AF:bJ Tryz.prog 215=false:=by kernel_rfl
theorem xp:td Tryz.prog 220 = .struct [(0,3),(1,3),(2,3)]:=by kernel_rfl
theorem iJ:sz Tryz.prog 220=3:=by kernel_rfl
theorem C5:bts Tryz.prog 220=24:=by kernel_rfl
theorem uI:bJ Tryz.prog 220=true:=by kernel_rfl
theorem lW:zav Tryz.prog 220 = .agg [.int .i64 (0),.int .i64 (0),.int .i64 (0)]:=by kernel_rfl
theorem sj:cX Tryz.prog 220=true:=by kernel_rfl
theorem C6:(cX Tryz.prog 220 && fQ (zav Tryz.prog 220) && List.all [(0,3),(1,3),(2,3)] (λf=>decide (0<sz Tryz.prog f.2)))=true:=by kernel_rfl
theorem BU:List.map (λ(f:Nat×TypeId)=>sz Tryz.prog f.2) [(0,3),(1,3),(2,3)]=[1,1,1]:=by kernel_rfl
theorem zJ:sz Tryz.prog 248=1:=by kernel_rfl
theorem Dd:bJ Tryz.prog 248=false:=by kernel_rfl
theorem Fc:zav Tryz.prog 248 = .nilf:=by kernel_rfl
theorem Gx:cX Tryz.prog 248=true:=by kernel_rfl
theorem xo:td Tryz.prog 253 = .map 3 4:=by kernel_rfl
theorem xr:sz Tryz.prog 253=1:=by kernel_rfl
theorem AE:bJ Tryz.prog 253=false:=by kernel_rfl
theorem Fb:zav Tryz.prog 253 = .nilmap:=by kernel_rfl
theorem Gw:cX Tryz.prog 253=true:=by kernel_rfl
theorem zG:td Tryz.prog 266 = .struct [(0,24),(3,83),(4,122)]:=by kernel_rfl
theorem Gi:sz Tryz.prog 266=5:=by kernel_rfl
theorem Fa:zav Tryz.prog 266 = .agg [.int .i64 (0),.nil,.int .i64 (0),.nil,.nil]:=by kernel_rfl
theorem F7:(cX Tryz.prog 266 && fQ (zav Tryz.prog 266) && List.all [(0,24),(3,83),(4,122)] (λf=>decide (0<sz Tryz.prog f.2)))=true:=by kernel_rfl
theorem Fq:List.map (λ(f:Nat×TypeId)=>sz Tryz.prog f.2) [(0,24),(3,83),(4,122)]=[3,1,1]:=by kernel_rfl
theorem BS:td Tryz.prog 267 = .map 220 3:=by kernel_rfl
theorem BX:sz Tryz.prog 267=1:=by kernel_rfl
theorem E4:bJ Tryz.prog 267=false:=by kernel_rfl
theorem BR:td Tryz.prog 268 = .map 341 3:=by kernel_rfl
theorem BW:sz Tryz.prog 268=1:=by kernel_rfl
theorem E3:bJ Tryz.prog 268=false:=by kernel_rfl
theorem vD:td Tryz.prog 270 = .struct [(0,83),(1,83),(2,141),(3,267),(4,268)]:=by kernel_rfl
theorem Gh:sz Tryz.prog 270=5:=by kernel_rfl
theorem E_:zav Tryz.prog 270 = .agg [.nil,.nil,.nil,.nilmap,.nilmap]:=by kernel_rfl
theorem F6:(cX Tryz.prog 270 && fQ (zav Tryz.prog 270) && List.all [(0,83),(1,83),(2,141),(3,267),(4,268)] (λf=>decide (0<sz Tryz.prog f.2)))=true:=by kernel_rfl
theorem Fp:List.map (λ(f:Nat×TypeId)=>sz Tryz.prog f.2) [(0,83),(1,83),(2,141),(3,267),(4,268)]=[1,1,1,1,1]:=by kernel_rfl
theorem vC:td Tryz.prog 274 = .map 3 3:=by kernel_rfl
theorem zI:sz Tryz.prog 274=1:=by kernel_rfl
theorem Dc:bJ Tryz.prog 274=false:=by kernel_rfl
theorem E9:zav Tryz.prog 274 = .nilmap:=by kernel_rfl
theorem Gv:cX Tryz.prog 274=true:=by kernel_rfl
theorem Gf:td Tryz.prog 341 = .array 3 3:=by kernel_rfl
theorem zH:sz Tryz.prog 341=3:=by kernel_rfl
theorem E0:bJ Tryz.prog 341=true:=by kernel_rfl
theorem Bs:zav Tryz.prog 341 = .agg [.int .i64 (0),.int .i64 (0),.int .i64 (0)]:=by kernel_rfl
theorem EI:cX Tryz.prog 341=true:=by kernel_rfl
theorem wF:d5 Tryz.prog 3=some (.one .i64):=by kernel_rfl
theorem y_:d5 Tryz.prog 220=some (.many [.i64,.i64,.i64]):=by kernel_rfl
theorem y9:d5 Tryz.prog 341=some (.many [.i64,.i64,.i64]):=by kernel_rfl
theorem bV:FA Tryz.prog 24 0 0 3:=⟨_,sv,rfl,rfl,by rw [sz3];decide⟩
theorem bR:FA Tryz.prog 24 1 1 22:=⟨_,sv,rfl,rfl,by rw [dY];decide⟩
theorem iq:FA Tryz.prog 24 2 2 3:=⟨_,sv,rfl,rfl,by rw [sz3];decide⟩
theorem c_:FA Tryz.prog 52 0 0 49:=⟨_,Dv,rfl,rfl,by rw [iE];decide⟩
theorem eC:FA Tryz.prog 52 1 1 50:=⟨_,Dv,rfl,rfl,by rw [kg];decide⟩
theorem pN:FA Tryz.prog 60 0 0 4:=⟨_,mU,rfl,rfl,by rw [sz4];decide⟩
theorem iY:FA Tryz.prog 60 1 1 58:=⟨_,mU,rfl,rfl,by rw [ja];decide⟩
theorem j7:FA Tryz.prog 60 2 2 58:=⟨_,mU,rfl,rfl,by rw [ja];decide⟩
theorem gK:FA Tryz.prog 103 0 0 3:=⟨_,o6,rfl,rfl,by rw [sz3];decide⟩
theorem eR:FA Tryz.prog 103 1 1 3:=⟨_,o6,rfl,rfl,by rw [sz3];decide⟩
theorem cG:FA Tryz.prog 103 2 2 83:=⟨_,o6,rfl,rfl,by rw [dT];decide⟩
theorem qN:FA Tryz.prog 143 1 1 141:=⟨_,tv,rfl,rfl,by rw [kK];decide⟩
theorem At:FA Tryz.prog 143 2 2 3:=⟨_,tv,rfl,rfl,by rw [sz3];decide⟩
theorem wN:FA Tryz.prog 220 0 0 3:=⟨_,xp,rfl,rfl,by rw [sz3];decide⟩
theorem tg:FA Tryz.prog 220 1 1 3:=⟨_,xp,rfl,rfl,by rw [sz3];decide⟩
theorem tf:FA Tryz.prog 220 2 2 3:=⟨_,xp,rfl,rfl,by rw [sz3];decide⟩
theorem wL:FA Tryz.prog 266 0 0 24:=⟨_,zG,rfl,rfl,by rw [cn];decide⟩
theorem qM:FA Tryz.prog 266 1 3 83:=⟨_,zG,rfl,rfl,by rw [dT];decide⟩
theorem te:FA Tryz.prog 266 2 4 122:=⟨_,zG,rfl,rfl,by rw [xt];decide⟩
theorem wK:FA Tryz.prog 270 0 0 83:=⟨_,vD,rfl,rfl,by rw [dT];decide⟩
theorem As:FA Tryz.prog 270 1 1 83:=⟨_,vD,rfl,rfl,by rw [dT];decide⟩
theorem lS:FA Tryz.prog 270 2 2 141:=⟨_,vD,rfl,rfl,by rw [kK];decide⟩
theorem Ar:FA Tryz.prog 270 3 3 267:=⟨_,vD,rfl,rfl,by rw [BX];decide⟩
theorem Aq:FA Tryz.prog 270 4 4 268:=⟨_,vD,rfl,rfl,by rw [BW];decide⟩
end Go.Proofs.YtnjgdkfhgmebjaaGreat
