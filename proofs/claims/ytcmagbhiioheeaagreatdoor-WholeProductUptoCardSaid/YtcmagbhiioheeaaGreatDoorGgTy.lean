/- The types' table of this seat, as equations for the formulas. Conditions: none. -/
import Derived.Test.YtcmagbhiioheeaaGreatDoorGj
import Derived.Test.YtcmagbhiioheeaaGreatDoorWa
import Derived.Test.YtcmagbhiioheeaaGreatDoorProg
import Derived.KernelRfl
namespace Go.Proofs.YtcmagbhiioheeaaGreatDoor
open Go.Gg Tryz
theorem kR {P:Prop} (h:P:=by kernel_rfl):P:=h
theorem bz:prog.follows .mixedOrders=true:=kR
theorem td1:td prog 1 = .func:=kR
theorem sz1:sz prog 1=1:=kR
theorem aa5:bts prog 1=8:=kR
theorem ag1:ae prog 1=false:=kR
theorem TP:zav prog 1 = .nilf:=kR
theorem ok1:aA prog 1=true:=kR
theorem td2:td prog 2 = .int .i64:=kR
theorem sz2:sz prog 2=1:=kR
theorem aa4:bts prog 2=8:=kR
theorem ag2:ae prog 2=false:=kR
theorem TO:zav prog 2 = .int .i64 (0):=kR
theorem ok2:aA prog 2=true:=kR
theorem td3:td prog 3 = .int .i64:=kR
theorem sz3:sz prog 3=1:=kR
theorem nP:bts prog 3=8:=kR
theorem ag3:ae prog 3=false:=kR
theorem gc:zav prog 3 = .int .i64 (0):=kR
theorem ok3:aA prog 3=true:=kR
theorem td4:td prog 4 = .bool:=kR
theorem sz4:sz prog 4=1:=kR
theorem uO:bts prog 4=1:=kR
theorem ag4:ae prog 4=false:=kR
theorem oq:zav prog 4 = .bool false:=kR
theorem ok4:aA prog 4=true:=kR
theorem td5:td prog 5 = .int .u8:=kR
theorem sz5:sz prog 5=1:=kR
theorem aa3:bts prog 5=1:=kR
theorem ag5:ae prog 5=false:=kR
theorem TN:zav prog 5 = .int .u8 (0):=kR
theorem ok5:aA prog 5=true:=kR
theorem td6:td prog 6 = .int .u8:=kR
theorem sz6:sz prog 6=1:=kR
theorem aa2:bts prog 6=1:=kR
theorem ag6:ae prog 6=false:=kR
theorem TM:zav prog 6 = .int .u8 (0):=kR
theorem ok6:aA prog 6=true:=kR
theorem td7:td prog 7 = .struct [(0,2),(1,3),(2,4),(3,6)]:=kR
theorem sz7:sz prog 7=4:=kR
theorem aa1:bts prog 7=24:=kR
theorem ag7:ae prog 7=true:=kR
theorem XC:FA prog 7 0 0 2:=⟨_,td7,rfl,rfl,by rw[sz2];decide⟩
theorem XB:FA prog 7 1 1 3:=⟨_,td7,rfl,rfl,by rw[sz3];decide⟩
theorem XA:FA prog 7 2 2 4:=⟨_,td7,rfl,rfl,by rw[sz4];decide⟩
theorem Xz:FA prog 7 3 3 6:=⟨_,td7,rfl,rfl,by rw[sz6];decide⟩
theorem TL:zav prog 7 = .agg [.int .i64 (0),.int .i64 (0),.bool false,.int .u8 (0)]:=kR
theorem ok7:aA prog 7=true:=kR
theorem td8:td prog 8 = .struct [(0,2),(1,3),(2,4),(3,6)]:=kR
theorem sz8:sz prog 8=4:=kR
theorem aa0:bts prog 8=24:=kR
theorem ag8:ae prog 8=true:=kR
theorem Xy:FA prog 8 0 0 2:=⟨_,td8,rfl,rfl,by rw[sz2];decide⟩
theorem Xx:FA prog 8 1 1 3:=⟨_,td8,rfl,rfl,by rw[sz3];decide⟩
theorem Xw:FA prog 8 2 2 4:=⟨_,td8,rfl,rfl,by rw[sz4];decide⟩
theorem Xv:FA prog 8 3 3 6:=⟨_,td8,rfl,rfl,by rw[sz6];decide⟩
theorem TK:zav prog 8 = .agg [.int .i64 (0),.int .i64 (0),.bool false,.int .u8 (0)]:=kR
theorem ok8:aA prog 8=true:=kR
theorem td9:td prog 9 = .str:=kR
theorem sz9:sz prog 9=1:=kR
theorem aaZ:bts prog 9=16:=kR
theorem ag9:ae prog 9=false:=kR
theorem UM:td prog 10 = .str:=kR
theorem VT:sz prog 10=1:=kR
theorem YW:bts prog 10=16:=kR
theorem Z9:ae prog 10=false:=kR
theorem UL:td prog 11 = .str:=kR
theorem VS:sz prog 11=1:=kR
theorem YV:bts prog 11=16:=kR
theorem Z8:ae prog 11=false:=kR
theorem UK:td prog 12 = .int .u64:=kR
theorem xA:sz prog 12=1:=kR
theorem YU:bts prog 12=8:=kR
theorem Z7:ae prog 12=false:=kR
theorem Jj:zav prog 12 = .int .u64 (0):=kR
theorem Xh:aA prog 12=true:=kR
theorem FZ:td prog 13 = .struct [(0,9),(1,12)]:=kR
theorem VQ:sz prog 13=2:=kR
theorem YT:bts prog 13=24:=kR
theorem Z6:ae prog 13=true:=kR
theorem Rw:FA prog 13 0 0 9:=⟨_,FZ,rfl,rfl,by rw[sz9];decide⟩
theorem Rv:FA prog 13 1 1 12:=⟨_,FZ,rfl,rfl,by rw[xA];decide⟩
theorem FY:td prog 14 = .struct [(0,9),(1,12)]:=kR
theorem VP:sz prog 14=2:=kR
theorem YS:bts prog 14=24:=kR
theorem Z5:ae prog 14=true:=kR
theorem Ru:FA prog 14 0 0 9:=⟨_,FY,rfl,rfl,by rw[sz9];decide⟩
theorem Rt:FA prog 14 1 1 12:=⟨_,FY,rfl,rfl,by rw[xA];decide⟩
theorem UJ:td prog 15 = .ptr:=kR
theorem VO:sz prog 15=1:=kR
theorem YR:bts prog 15=8:=kR
theorem Z4:ae prog 15=false:=kR
theorem Ji:zav prog 15 = .nilp:=kR
theorem Xg:aA prog 15=true:=kR
theorem UI:td prog 16 = .ptr:=kR
theorem VN:sz prog 16=1:=kR
theorem YQ:bts prog 16=8:=kR
theorem Z3:ae prog 16=false:=kR
theorem Jh:zav prog 16 = .nilp:=kR
theorem Xf:aA prog 16=true:=kR
theorem UH:td prog 17 = .ptr:=kR
theorem uz:sz prog 17=1:=kR
theorem YP:bts prog 17=8:=kR
theorem Z2:ae prog 17=false:=kR
theorem Jg:zav prog 17 = .nilp:=kR
theorem Xe:aA prog 17=true:=kR
theorem P':td prog 18 = .struct [(0,17)]:=kR
theorem VM:sz prog 18=1:=kR
theorem YO:bts prog 18=8:=kR
theorem Z1:ae prog 18=true:=kR
theorem Rs:FA prog 18 0 0 17:=⟨_,P',rfl,rfl,by rw[uz];decide⟩
theorem Jf:zav prog 18 = .agg [.nilp]:=kR
theorem Xd:aA prog 18=true:=kR
theorem P9:td prog 19 = .struct [(0,17)]:=kR
theorem VL:sz prog 19=1:=kR
theorem YN:bts prog 19=8:=kR
theorem Z0:ae prog 19=true:=kR
theorem Rr:FA prog 19 0 0 17:=⟨_,P9,rfl,rfl,by rw[uz];decide⟩
theorem Je:zav prog 19 = .agg [.nilp]:=kR
theorem Xc:aA prog 19=true:=kR
theorem UG:td prog 20 = .iface:=kR
theorem VK:sz prog 20=1:=kR
theorem YM:bts prog 20=16:=kR
theorem ZZ:ae prog 20=false:=kR
theorem Jd:zav prog 20 = .niface:=kR
theorem Xb:aA prog 20=true:=kR
theorem UF:td prog 21 = .int .i32:=kR
theorem VJ:sz prog 21=1:=kR
theorem YL:bts prog 21=4:=kR
theorem ZY:ae prog 21=false:=kR
theorem Jc:zav prog 21 = .int .i32 (0):=kR
theorem Xa:aA prog 21=true:=kR
theorem D6:td prog 22 = .slice 96:=kR
theorem F2:sz prog 22=1:=kR
theorem YK:bts prog 22=24:=kR
theorem ZX:ae prog 22=false:=kR
theorem Jb:zav prog 22 = .nil:=kR
theorem W_:aA prog 22=true:=kR
theorem D5:td prog 23 = .struct [(0,3),(1,22),(2,3)]:=kR
theorem VH:sz prog 23=3:=kR
theorem YJ:bts prog 23=40:=kR
theorem ZW:ae prog 23=true:=kR
theorem Rq:FA prog 23 0 0 3:=⟨_,D5,rfl,rfl,by rw[sz3];decide⟩
theorem Ro:FA prog 23 1 1 22:=⟨_,D5,rfl,rfl,by rw[F2];decide⟩
theorem Rn:FA prog 23 2 2 3:=⟨_,D5,rfl,rfl,by rw[sz3];decide⟩
theorem Ja:zav prog 23 = .agg [.int .i64 (0),.nil,.int .i64 (0)]:=kR
theorem W9:aA prog 23=true:=kR
theorem y6:td prog 24 = .struct [(0,3),(1,22),(2,3)]:=kR
theorem we:sz prog 24=3:=kR
theorem YI:bts prog 24=40:=kR
theorem FD:ae prog 24=true:=kR
theorem Rm:FA prog 24 0 0 3:=⟨_,y6,rfl,rfl,by rw[sz3];decide⟩
theorem Rl:FA prog 24 1 1 22:=⟨_,y6,rfl,rfl,by rw[F2];decide⟩
theorem Rk:FA prog 24 2 2 3:=⟨_,y6,rfl,rfl,by rw[sz3];decide⟩
theorem zL:zav prog 24 = .agg [.int .i64 (0),.nil,.int .i64 (0)]:=kR
theorem W8:aA prog 24=true:=kR
theorem Of:(aA prog 24 && e_ (zav prog 24) && List.all [(0,3),(1,22),(2,3)] (λf=>decide (0<sz prog f.2)))=true:=kR
theorem KI:List.map (λ(f:Nat×TypeId)=>sz prog f.2) [(0,3),(1,22),(2,3)]=[1,1,1]:=kR
theorem c7:td prog 25 = .slice 30:=kR
theorem c9:sz prog 25=1:=kR
theorem A4:bts prog 25=24:=kR
theorem jp:ae prog 25=false:=kR
theorem xf:zav prog 25 = .nil:=kR
theorem EC:aA prog 25=true:=kR
theorem UA:td prog 26 = .func:=kR
theorem VG:sz prog 26=1:=kR
theorem YH:bts prog 26=8:=kR
theorem ZV:ae prog 26=false:=kR
theorem I_:zav prog 26 = .nilf:=kR
theorem W7:aA prog 26=true:=kR
theorem Uz:td prog 27 = .func:=kR
theorem VF:sz prog 27=1:=kR
theorem YG:bts prog 27=8:=kR
theorem ZU:ae prog 27=false:=kR
theorem I':zav prog 27 = .nilf:=kR
theorem W6:aA prog 27=true:=kR
theorem dp:td prog 28 = .slice 33:=kR
theorem Bg:sz prog 28=1:=kR
theorem YF:bts prog 28=24:=kR
theorem ZT:ae prog 28=false:=kR
theorem I9:zav prog 28 = .nil:=kR
theorem W5:aA prog 28=true:=kR
theorem D4:td prog 29 = .struct [(0,4),(1,28),(2,28)]:=kR
theorem VE:sz prog 29=3:=kR
theorem YE:bts prog 29=56:=kR
theorem ZS:ae prog 29=true:=kR
theorem Rj:FA prog 29 0 0 4:=⟨_,D4,rfl,rfl,by rw[sz4];decide⟩
theorem Ri:FA prog 29 1 1 28:=⟨_,D4,rfl,rfl,by rw[Bg];decide⟩
theorem Rh:FA prog 29 2 2 28:=⟨_,D4,rfl,rfl,by rw[Bg];decide⟩
theorem I8:zav prog 29 = .agg [.bool false,.nil,.nil]:=kR
theorem W4:aA prog 29=true:=kR
theorem lq:td prog 30 = .struct [(0,4),(1,28),(2,28)]:=kR
theorem be:sz prog 30=3:=kR
theorem iq:bts prog 30=56:=kR
theorem dH:ae prog 30=true:=kR
theorem Rg:FA prog 30 0 0 4:=⟨_,lq,rfl,rfl,by rw[sz4];decide⟩
theorem Rf:FA prog 30 1 1 28:=⟨_,lq,rfl,rfl,by rw[Bg];decide⟩
theorem Re:FA prog 30 2 2 28:=⟨_,lq,rfl,rfl,by rw[Bg];decide⟩
theorem cr:zav prog 30 = .agg [.bool false,.nil,.nil]:=kR
theorem iA:aA prog 30=true:=kR
theorem jK:(aA prog 30 && e_ (zav prog 30) && List.all [(0,4),(1,28),(2,28)] (λf=>decide (0<sz prog f.2)))=true:=kR
theorem jH:List.map (λ(f:Nat×TypeId)=>sz prog f.2) [(0,4),(1,28),(2,28)]=[1,1,1]:=kR
theorem Uy:td prog 31 = .func:=kR
theorem VC:sz prog 31=1:=kR
theorem YD:bts prog 31=8:=kR
theorem ZR:ae prog 31=false:=kR
theorem I7:zav prog 31 = .nilf:=kR
theorem W3:aA prog 31=true:=kR
theorem Ux:td prog 32 = .func:=kR
theorem VB:sz prog 32=1:=kR
theorem YC:bts prog 32=8:=kR
theorem ZQ:ae prog 32=false:=kR
theorem I6:zav prog 32 = .nilf:=kR
theorem W2:aA prog 32=true:=kR
theorem Uw:td prog 33 = .int .u32:=kR
theorem j7:sz prog 33=1:=kR
theorem ip:bts prog 33=4:=kR
theorem ZP:ae prog 33=false:=kR
theorem dv:zav prog 33 = .int .u32 (0):=kR
theorem gn:aA prog 33=true:=kR
theorem Uv:td prog 34 = .iface:=kR
theorem VA:sz prog 34=1:=kR
theorem YB:bts prog 34=16:=kR
theorem ZO:ae prog 34=false:=kR
theorem I5:zav prog 34 = .niface:=kR
theorem W1:aA prog 34=true:=kR
theorem Uu:td prog 35 = .iface:=kR
theorem Vz:sz prog 35=1:=kR
theorem YA:bts prog 35=16:=kR
theorem ZN:ae prog 35=false:=kR
theorem I4:zav prog 35 = .niface:=kR
theorem W0:aA prog 35=true:=kR
theorem Ut:td prog 37 = .func:=kR
theorem Vy:sz prog 37=1:=kR
theorem Yz:bts prog 37=8:=kR
theorem ZM:ae prog 37=false:=kR
theorem I3:zav prog 37 = .nilf:=kR
theorem WZ:aA prog 37=true:=kR
theorem Us:td prog 38 = .func:=kR
theorem Vx:sz prog 38=1:=kR
theorem Yy:bts prog 38=8:=kR
theorem ZL:ae prog 38=false:=kR
theorem I2:zav prog 38 = .nilf:=kR
theorem WY:aA prog 38=true:=kR
theorem P8:td prog 39 = .int .i64:=kR
theorem Vw:sz prog 39=1:=kR
theorem Yx:bts prog 39=8:=kR
theorem ZK:ae prog 39=false:=kR
theorem Ca:zav prog 39 = .int .i64 (0):=kR
theorem Qr:aA prog 39=true:=kR
theorem xq:td prog 40 = .slice 68:=kR
theorem F1:sz prog 40=1:=kR
theorem Yw:bts prog 40=24:=kR
theorem ZJ:ae prog 40=false:=kR
theorem I1:zav prog 40 = .nil:=kR
theorem WX:aA prog 40=true:=kR
theorem lm:td prog 41 = .slice 4:=kR
theorem Bf:sz prog 41=1:=kR
theorem Oe:bts prog 41=24:=kR
theorem ZH:ae prog 41=false:=kR
theorem zK:zav prog 41 = .nil:=kR
theorem Gq:aA prog 41=true:=kR
theorem Bc:td prog 42 = .struct [(0,3),(1,3),(2,40),(3,41)]:=kR
theorem Vv:sz prog 42=4:=kR
theorem Yv:bts prog 42=64:=kR
theorem ZG:ae prog 42=true:=kR
theorem Rc:FA prog 42 0 0 3:=⟨_,Bc,rfl,rfl,by rw[sz3];decide⟩
theorem Rb:FA prog 42 1 1 3:=⟨_,Bc,rfl,rfl,by rw[sz3];decide⟩
theorem Ra:FA prog 42 2 2 40:=⟨_,Bc,rfl,rfl,by rw[F1];decide⟩
theorem Q_:FA prog 42 3 3 41:=⟨_,Bc,rfl,rfl,by rw[Bf];decide⟩
theorem I0:zav prog 42 = .agg [.int .i64 (0),.int .i64 (0),.nil,.nil]:=kR
theorem WW:aA prog 42=true:=kR
theorem rO:td prog 43 = .struct [(0,3),(1,3),(2,40),(3,41)]:=kR
theorem oV:sz prog 43=4:=kR
theorem Yu:bts prog 43=64:=kR
theorem w7:ae prog 43=true:=kR
theorem Q9:FA prog 43 0 0 3:=⟨_,rO,rfl,rfl,by rw[sz3];decide⟩
theorem Q8:FA prog 43 1 1 3:=⟨_,rO,rfl,rfl,by rw[sz3];decide⟩
theorem Q7:FA prog 43 2 2 40:=⟨_,rO,rfl,rfl,by rw[F1];decide⟩
theorem Q6:FA prog 43 3 3 41:=⟨_,rO,rfl,rfl,by rw[Bf];decide⟩
theorem rk:zav prog 43 = .agg [.int .i64 (0),.int .i64 (0),.nil,.nil]:=kR
theorem WV:aA prog 43=true:=kR
theorem vL:(aA prog 43 && e_ (zav prog 43) && List.all [(0,3),(1,3),(2,40),(3,41)] (λf=>decide (0<sz prog f.2)))=true:=kR
theorem uV:List.map (λ(f:Nat×TypeId)=>sz prog f.2) [(0,3),(1,3),(2,40),(3,41)]=[1,1,1,1]:=kR
theorem Ur:td prog 45 = .func:=kR
theorem Vu:sz prog 45=1:=kR
theorem Yt:bts prog 45=8:=kR
theorem ZF:ae prog 45=false:=kR
theorem IZ:zav prog 45 = .nilf:=kR
theorem WU:aA prog 45=true:=kR
theorem Uq:td prog 47 = .func:=kR
theorem Vt:sz prog 47=1:=kR
theorem Ys:bts prog 47=8:=kR
theorem ZE:ae prog 47=false:=kR
theorem IY:zav prog 47 = .nilf:=kR
theorem WS:aA prog 47=true:=kR
theorem Up:td prog 48 = .func:=kR
theorem Vs:sz prog 48=1:=kR
theorem Yr:bts prog 48=8:=kR
theorem ZD:ae prog 48=false:=kR
theorem IX:zav prog 48 = .nilf:=kR
theorem WR:aA prog 48=true:=kR
theorem Uo:td prog 49 = .func:=kR
theorem Vq:sz prog 49=1:=kR
theorem Yq:bts prog 49=8:=kR
theorem ZC:ae prog 49=false:=kR
theorem IW:zav prog 49 = .nilf:=kR
theorem WQ:aA prog 49=true:=kR
theorem Un:td prog 51 = .func:=kR
theorem Vp:sz prog 51=1:=kR
theorem Yp:bts prog 51=8:=kR
theorem ZB:ae prog 51=false:=kR
theorem IV:zav prog 51 = .nilf:=kR
theorem WP:aA prog 51=true:=kR
theorem Um:td prog 52 = .func:=kR
theorem Vo:sz prog 52=1:=kR
theorem Yo:bts prog 52=8:=kR
theorem ZA:ae prog 52=false:=kR
theorem IU:zav prog 52 = .nilf:=kR
theorem WO:aA prog 52=true:=kR
theorem Ul:td prog 53 = .func:=kR
theorem Vn:sz prog 53=1:=kR
theorem Yn:bts prog 53=8:=kR
theorem Zz:ae prog 53=false:=kR
theorem IR:zav prog 53 = .nilf:=kR
theorem WN:aA prog 53=true:=kR
theorem Uk:td prog 54 = .func:=kR
theorem Vm:sz prog 54=1:=kR
theorem Ym:bts prog 54=8:=kR
theorem Zy:ae prog 54=false:=kR
theorem IQ:zav prog 54 = .nilf:=kR
theorem WM:aA prog 54=true:=kR
theorem Uj:td prog 55 = .func:=kR
theorem Vl:sz prog 55=1:=kR
theorem Yl:bts prog 55=8:=kR
theorem Zx:ae prog 55=false:=kR
theorem IP:zav prog 55 = .nilf:=kR
theorem WL:aA prog 55=true:=kR
theorem Ui:td prog 56 = .func:=kR
theorem Vk:sz prog 56=1:=kR
theorem Yk:bts prog 56=8:=kR
theorem Zw:ae prog 56=false:=kR
theorem IM:zav prog 56 = .nilf:=kR
theorem WK:aA prog 56=true:=kR
theorem Uh:td prog 57 = .func:=kR
theorem Vj:sz prog 57=1:=kR
theorem Yj:bts prog 57=8:=kR
theorem Zv:ae prog 57=false:=kR
theorem IL:zav prog 57 = .nilf:=kR
theorem WJ:aA prog 57=true:=kR
theorem Ug:td prog 58 = .func:=kR
theorem Vi:sz prog 58=1:=kR
theorem Yi:bts prog 58=8:=kR
theorem Zu:ae prog 58=false:=kR
theorem IK:zav prog 58 = .nilf:=kR
theorem WI:aA prog 58=true:=kR
theorem Uf:td prog 59 = .func:=kR
theorem Vh:sz prog 59=1:=kR
theorem Yh:bts prog 59=8:=kR
theorem Zt:ae prog 59=false:=kR
theorem IJ:zav prog 59 = .nilf:=kR
theorem WH:aA prog 59=true:=kR
theorem Ue:td prog 61 = .func:=kR
theorem Vg:sz prog 61=1:=kR
theorem Yg:bts prog 61=8:=kR
theorem Zs:ae prog 61=false:=kR
theorem II:zav prog 61 = .nilf:=kR
theorem WG:aA prog 61=true:=kR
theorem Ud:td prog 62 = .func:=kR
theorem Vf:sz prog 62=1:=kR
theorem Yf:bts prog 62=8:=kR
theorem Zr:ae prog 62=false:=kR
theorem IH:zav prog 62 = .nilf:=kR
theorem WF:aA prog 62=true:=kR
theorem Uc:td prog 64 = .func:=kR
theorem Ve:sz prog 64=1:=kR
theorem Ye:bts prog 64=8:=kR
theorem Zq:ae prog 64=false:=kR
theorem IG:zav prog 64 = .nilf:=kR
theorem WD:aA prog 64=true:=kR
theorem Ub:td prog 65 = .func:=kR
theorem Vb:sz prog 65=1:=kR
theorem Yd:bts prog 65=8:=kR
theorem Zp:ae prog 65=false:=kR
theorem IF:zav prog 65 = .nilf:=kR
theorem WC:aA prog 65=true:=kR
theorem Ua:td prog 66 = .func:=kR
theorem Va:sz prog 66=1:=kR
theorem Yc:bts prog 66=8:=kR
theorem Zo:ae prog 66=false:=kR
theorem IE:zav prog 66 = .nilf:=kR
theorem WB:aA prog 66=true:=kR
theorem D3:td prog 67 = .struct [(0,3),(1,3),(2,30)]:=kR
theorem U_:sz prog 67=5:=kR
theorem Yb:bts prog 67=72:=kR
theorem Zn:ae prog 67=true:=kR
theorem Q5:FA prog 67 0 0 3:=⟨_,D3,rfl,rfl,by rw[sz3];decide⟩
theorem Q4:FA prog 67 1 1 3:=⟨_,D3,rfl,rfl,by rw[sz3];decide⟩
theorem Q3:FA prog 67 2 2 30:=⟨_,D3,rfl,rfl,by rw[be];decide⟩
theorem ID:zav prog 67 = .agg [.int .i64 (0),.int .i64 (0),.bool false,.nil,.nil]:=kR
theorem WA:aA prog 67=true:=kR
theorem v_:td prog 68 = .struct [(0,3),(1,3),(2,30)]:=kR
theorem y7:sz prog 68=5:=kR
theorem Ft:bts prog 68=72:=kR
theorem Zm:ae prog 68=true:=kR
theorem Q2:FA prog 68 0 0 3:=⟨_,v_,rfl,rfl,by rw[sz3];decide⟩
theorem Q1:FA prog 68 1 1 3:=⟨_,v_,rfl,rfl,by rw[sz3];decide⟩
theorem qQ:FA prog 68 2 2 30:=⟨_,v_,rfl,rfl,by rw[be];decide⟩
theorem nh:zav prog 68 = .agg [.int .i64 (0),.int .i64 (0),.bool false,.nil,.nil]:=kR
theorem zi:aA prog 68=true:=kR
theorem A6:(aA prog 68 && e_ (zav prog 68) && List.all [(0,3),(1,3),(2,30)] (λf=>decide (0<sz prog f.2)))=true:=kR
theorem zY:List.map (λ(f:Nat×TypeId)=>sz prog f.2) [(0,3),(1,3),(2,30)]=[1,1,3]:=kR
theorem T_:td prog 69 = .func:=kR
theorem U':sz prog 69=1:=kR
theorem Ya:bts prog 69=8:=kR
theorem Zl:ae prog 69=false:=kR
theorem IC:zav prog 69 = .nilf:=kR
theorem Wz:aA prog 69=true:=kR
theorem T9:td prog 70 = .func:=kR
theorem U9:sz prog 70=1:=kR
theorem X_:bts prog 70=8:=kR
theorem Zk:ae prog 70=false:=kR
theorem IB:zav prog 70 = .nilf:=kR
theorem Wy:aA prog 70=true:=kR
theorem fN:td prog 71 = .slice 3:=kR
theorem np:sz prog 71=1:=kR
theorem Fs:bts prog 71=24:=kR
theorem H5:ae prog 71=false:=kR
theorem xe:zav prog 71 = .nil:=kR
theorem EB:aA prog 71=true:=kR
theorem T8:td prog 73 = .func:=kR
theorem U8:sz prog 73=1:=kR
theorem X9:bts prog 73=8:=kR
theorem Zj:ae prog 73=false:=kR
theorem IA:zav prog 73 = .nilf:=kR
theorem Wx:aA prog 73=true:=kR
theorem v8:td prog 74 = .slice 124:=kR
theorem Be:sz prog 74=1:=kR
theorem X8:bts prog 74=24:=kR
theorem Zi:ae prog 74=false:=kR
theorem Iz:zav prog 74 = .nil:=kR
theorem Ww:aA prog 74=true:=kR
theorem D2:td prog 75 = .struct [(0,71),(1,74),(2,3)]:=kR
theorem U7:sz prog 75=3:=kR
theorem X7:bts prog 75=56:=kR
theorem Zh:ae prog 75=true:=kR
theorem Q0:FA prog 75 0 0 71:=⟨_,D2,rfl,rfl,by rw[np];decide⟩
theorem QZ:FA prog 75 1 1 74:=⟨_,D2,rfl,rfl,by rw[Be];decide⟩
theorem QY:FA prog 75 2 2 3:=⟨_,D2,rfl,rfl,by rw[sz3];decide⟩
theorem Iy:zav prog 75 = .agg [.nil,.nil,.int .i64 (0)]:=kR
theorem Wv:aA prog 75=true:=kR
theorem uy:td prog 76 = .struct [(0,71),(1,74),(2,3)]:=kR
theorem pH:sz prog 76=3:=kR
theorem X6:bts prog 76=56:=kR
theorem wY:ae prog 76=true:=kR
theorem QX:FA prog 76 0 0 71:=⟨_,uy,rfl,rfl,by rw[np];decide⟩
theorem QW:FA prog 76 1 1 74:=⟨_,uy,rfl,rfl,by rw[Be];decide⟩
theorem QV:FA prog 76 2 2 3:=⟨_,uy,rfl,rfl,by rw[sz3];decide⟩
theorem sK:zav prog 76 = .agg [.nil,.nil,.int .i64 (0)]:=kR
theorem Wu:aA prog 76=true:=kR
theorem yH:(aA prog 76 && e_ (zav prog 76) && List.all [(0,71),(1,74),(2,3)] (λf=>decide (0<sz prog f.2)))=true:=kR
theorem xw:List.map (λ(f:Nat×TypeId)=>sz prog f.2) [(0,71),(1,74),(2,3)]=[1,1,1]:=kR
theorem T7:td prog 78 = .func:=kR
theorem U6:sz prog 78=1:=kR
theorem X5:bts prog 78=8:=kR
theorem Zg:ae prog 78=false:=kR
theorem Ix:zav prog 78 = .nilf:=kR
theorem Wt:aA prog 78=true:=kR
theorem T6:td prog 79 = .func:=kR
theorem U5:sz prog 79=1:=kR
theorem X4:bts prog 79=8:=kR
theorem Zf:ae prog 79=false:=kR
theorem Iw:zav prog 79 = .nilf:=kR
theorem Ws:aA prog 79=true:=kR
theorem T5:td prog 80 = .func:=kR
theorem U4:sz prog 80=1:=kR
theorem X3:bts prog 80=8:=kR
theorem Ze:ae prog 80=false:=kR
theorem Iv:zav prog 80 = .nilf:=kR
theorem Wp:aA prog 80=true:=kR
theorem T4:td prog 81 = .func:=kR
theorem U3:sz prog 81=1:=kR
theorem X2:bts prog 81=8:=kR
theorem Zd:ae prog 81=false:=kR
theorem Iu:zav prog 81 = .nilf:=kR
theorem Wo:aA prog 81=true:=kR
theorem y5:td prog 82 = .slice 71:=kR
theorem U2:sz prog 82=1:=kR
theorem X1:bts prog 82=24:=kR
theorem Zc:ae prog 82=false:=kR
theorem It:zav prog 82 = .nil:=kR
theorem Wn:aA prog 82=true:=kR
theorem T3:td prog 83 = .func:=kR
theorem U1:sz prog 83=1:=kR
theorem X0:bts prog 83=8:=kR
theorem Zb:ae prog 83=false:=kR
theorem Is:zav prog 83 = .nilf:=kR
theorem Wj:aA prog 83=true:=kR
theorem rN:td prog 84 = .map 3 3:=kR
theorem U0:sz prog 84=1:=kR
theorem XZ:bts prog 84=8:=kR
theorem Za:ae prog 84=false:=kR
theorem Ir:zav prog 84 = .nilmap:=kR
theorem Wi:aA prog 84=true:=kR
theorem iy:td prog 85 = .slice 25:=kR
theorem UZ:sz prog 85=1:=kR
theorem XY:bts prog 85=24:=kR
theorem Y_:ae prog 85=false:=kR
theorem Iq:zav prog 85 = .nil:=kR
theorem Wh:aA prog 85=true:=kR
theorem T2:td prog 87 = .func:=kR
theorem UY:sz prog 87=1:=kR
theorem XX:bts prog 87=8:=kR
theorem Y':ae prog 87=false:=kR
theorem Ip:zav prog 87 = .nilf:=kR
theorem Wg:aA prog 87=true:=kR
theorem T1:td prog 88 = .func:=kR
theorem UX:sz prog 88=1:=kR
theorem XW:bts prog 88=8:=kR
theorem Y9:ae prog 88=false:=kR
theorem Io:zav prog 88 = .nilf:=kR
theorem Wf:aA prog 88=true:=kR
theorem T0:td prog 89 = .func:=kR
theorem UW:sz prog 89=1:=kR
theorem XV:bts prog 89=8:=kR
theorem Y8:ae prog 89=false:=kR
theorem Im:zav prog 89 = .nilf:=kR
theorem We:aA prog 89=true:=kR
theorem TZ:td prog 91 = .func:=kR
theorem UV:sz prog 91=1:=kR
theorem XU:bts prog 91=8:=kR
theorem Y7:ae prog 91=false:=kR
theorem Il:zav prog 91 = .nilf:=kR
theorem Wd:aA prog 91=true:=kR
theorem TY:td prog 92 = .func:=kR
theorem UU:sz prog 92=1:=kR
theorem XT:bts prog 92=8:=kR
theorem Y6:ae prog 92=false:=kR
theorem Ik:zav prog 92 = .nilf:=kR
theorem Wc:aA prog 92=true:=kR
theorem TX:td prog 93 = .func:=kR
theorem UT:sz prog 93=1:=kR
theorem XS:bts prog 93=8:=kR
theorem Y5:ae prog 93=false:=kR
theorem Ij:zav prog 93 = .nilf:=kR
theorem Wb:aA prog 93=true:=kR
theorem TW:td prog 94 = .func:=kR
theorem US:sz prog 94=1:=kR
theorem XR:bts prog 94=8:=kR
theorem Y4:ae prog 94=false:=kR
theorem Ii:zav prog 94 = .nilf:=kR
theorem Wa:aA prog 94=true:=kR
theorem D1:td prog 95 = .struct [(0,3),(1,3),(2,71)]:=kR
theorem UR:sz prog 95=3:=kR
theorem XQ:bts prog 95=40:=kR
theorem Y3:ae prog 95=true:=kR
theorem QU:FA prog 95 0 0 3:=⟨_,D1,rfl,rfl,by rw[sz3];decide⟩
theorem QT:FA prog 95 1 1 3:=⟨_,D1,rfl,rfl,by rw[sz3];decide⟩
theorem QS:FA prog 95 2 2 71:=⟨_,D1,rfl,rfl,by rw[np];decide⟩
theorem Ih:zav prog 95 = .agg [.int .i64 (0),.int .i64 (0),.nil]:=kR
theorem V_:aA prog 95=true:=kR
theorem Bb:td prog 96 = .struct [(0,3),(1,3),(2,71)]:=kR
theorem D_:sz prog 96=3:=kR
theorem Od:bts prog 96=40:=kR
theorem TC:ae prog 96=true:=kR
theorem QR:FA prog 96 0 0 3:=⟨_,Bb,rfl,rfl,by rw[sz3];decide⟩
theorem QQ:FA prog 96 1 1 3:=⟨_,Bb,rfl,rfl,by rw[sz3];decide⟩
theorem QP:FA prog 96 2 2 71:=⟨_,Bb,rfl,rfl,by rw[np];decide⟩
theorem xd:zav prog 96 = .agg [.int .i64 (0),.int .i64 (0),.nil]:=kR
theorem Gp:aA prog 96=true:=kR
theorem YX:(aA prog 96 && e_ (zav prog 96) && List.all [(0,3),(1,3),(2,71)] (λf=>decide (0<sz prog f.2)))=true:=kR
theorem UN:List.map (λ(f:Nat×TypeId)=>sz prog f.2) [(0,3),(1,3),(2,71)]=[1,1,1]:=kR
theorem TV:td prog 97 = .func:=kR
theorem UQ:sz prog 97=1:=kR
theorem XP:bts prog 97=8:=kR
theorem Y2:ae prog 97=false:=kR
theorem Ig:zav prog 97 = .nilf:=kR
theorem V':aA prog 97=true:=kR
theorem TU:td prog 98 = .func:=kR
theorem UP:sz prog 98=1:=kR
theorem XO:bts prog 98=8:=kR
theorem Y1:ae prog 98=false:=kR
theorem Ie:zav prog 98 = .nilf:=kR
theorem V9:aA prog 98=true:=kR
theorem TT:td prog 99 = .func:=kR
theorem UO:sz prog 99=1:=kR
theorem XN:bts prog 99=8:=kR
theorem Y0:ae prog 99=false:=kR
theorem Ic:zav prog 99 = .nilf:=kR
theorem V8:aA prog 99=true:=kR
theorem KH:td prog 101 = .func:=kR
theorem Md:sz prog 101=1:=kR
theorem Tt:bts prog 101=8:=kR
theorem PY:ae prog 101=false:=kR
theorem DG:zav prog 101 = .nilf:=kR
theorem NZ:aA prog 101=true:=kR
theorem KG:td prog 102 = .func:=kR
theorem Mc:sz prog 102=1:=kR
theorem Ts:bts prog 102=8:=kR
theorem PW:ae prog 102=false:=kR
theorem DF:zav prog 102 = .nilf:=kR
theorem NY:aA prog 102=true:=kR
theorem KF:td prog 104 = .func:=kR
theorem Mb:sz prog 104=1:=kR
theorem Tr:bts prog 104=8:=kR
theorem PV:ae prog 104=false:=kR
theorem DE:zav prog 104 = .nilf:=kR
theorem NX:aA prog 104=true:=kR
theorem KD:td prog 105 = .func:=kR
theorem Ma:sz prog 105=1:=kR
theorem Tq:bts prog 105=8:=kR
theorem PU:ae prog 105=false:=kR
theorem DD:zav prog 105 = .nilf:=kR
theorem NW:aA prog 105=true:=kR
theorem KC:td prog 106 = .func:=kR
theorem L_:sz prog 106=1:=kR
theorem Tp:bts prog 106=8:=kR
theorem PT:ae prog 106=false:=kR
theorem DB:zav prog 106 = .nilf:=kR
theorem NV:aA prog 106=true:=kR
theorem KB:td prog 107 = .func:=kR
theorem L9:sz prog 107=1:=kR
theorem Tn:bts prog 107=8:=kR
theorem PS:ae prog 107=false:=kR
theorem DA:zav prog 107 = .nilf:=kR
theorem NU:aA prog 107=true:=kR
theorem Kz:td prog 108 = .func:=kR
theorem L8:sz prog 108=1:=kR
theorem Tm:bts prog 108=8:=kR
theorem PR:ae prog 108=false:=kR
theorem Dz:zav prog 108 = .nilf:=kR
theorem NT:aA prog 108=true:=kR
theorem Ky:td prog 109 = .func:=kR
theorem L7:sz prog 109=1:=kR
theorem Tl:bts prog 109=8:=kR
theorem PQ:ae prog 109=false:=kR
theorem Dy:zav prog 109 = .nilf:=kR
theorem NS:aA prog 109=true:=kR
theorem Kx:td prog 111 = .func:=kR
theorem L6:sz prog 111=1:=kR
theorem Tk:bts prog 111=8:=kR
theorem PP:ae prog 111=false:=kR
theorem Dx:zav prog 111 = .nilf:=kR
theorem NR:aA prog 111=true:=kR
theorem Kw:td prog 113 = .func:=kR
theorem L5:sz prog 113=1:=kR
theorem Tj:bts prog 113=8:=kR
theorem PO:ae prog 113=false:=kR
theorem Dw:zav prog 113 = .nilf:=kR
theorem NQ:aA prog 113=true:=kR
theorem Kv:td prog 114 = .func:=kR
theorem LZ:sz prog 114=1:=kR
theorem Ti:bts prog 114=8:=kR
theorem PN:ae prog 114=false:=kR
theorem Dv:zav prog 114 = .nilf:=kR
theorem NP:aA prog 114=true:=kR
theorem Ku:td prog 116 = .func:=kR
theorem LY:sz prog 116=1:=kR
theorem Th:bts prog 116=8:=kR
theorem PM:ae prog 116=false:=kR
theorem Du:zav prog 116 = .nilf:=kR
theorem NO:aA prog 116=true:=kR
theorem Ks:td prog 117 = .ptr:=kR
theorem LX:sz prog 117=1:=kR
theorem Tg:bts prog 117=8:=kR
theorem PK:ae prog 117=false:=kR
theorem Dt:zav prog 117 = .nilp:=kR
theorem NN:aA prog 117=true:=kR
theorem Kr:td prog 118 = .func:=kR
theorem LW:sz prog 118=1:=kR
theorem Tf:bts prog 118=8:=kR
theorem PJ:ae prog 118=false:=kR
theorem Ds:zav prog 118 = .nilf:=kR
theorem NM:aA prog 118=true:=kR
theorem Kq:td prog 119 = .func:=kR
theorem LU:sz prog 119=1:=kR
theorem Te:bts prog 119=8:=kR
theorem PI:ae prog 119=false:=kR
theorem Dr:zav prog 119 = .nilf:=kR
theorem NL:aA prog 119=true:=kR
theorem Kp:td prog 120 = .func:=kR
theorem LS:sz prog 120=1:=kR
theorem Td:bts prog 120=8:=kR
theorem PH:ae prog 120=false:=kR
theorem Dq:zav prog 120 = .nilf:=kR
theorem NK:aA prog 120=true:=kR
theorem Ko:td prog 121 = .func:=kR
theorem LR:sz prog 121=1:=kR
theorem Tc:bts prog 121=8:=kR
theorem PG:ae prog 121=false:=kR
theorem Dp:zav prog 121 = .nilf:=kR
theorem NJ:aA prog 121=true:=kR
theorem Kn:td prog 122 = .func:=kR
theorem LQ:sz prog 122=1:=kR
theorem Tb:bts prog 122=8:=kR
theorem PF:ae prog 122=false:=kR
theorem Do:zav prog 122 = .nilf:=kR
theorem NI:aA prog 122=true:=kR
theorem xv:td prog 123 = .struct [(0,3),(1,3),(2,3)]:=kR
theorem LP:sz prog 123=3:=kR
theorem Ta:bts prog 123=24:=kR
theorem PE:ae prog 123=true:=kR
theorem HP:FA prog 123 0 0 3:=⟨_,xv,rfl,rfl,by rw[sz3];decide⟩
theorem HO:FA prog 123 1 1 3:=⟨_,xv,rfl,rfl,by rw[sz3];decide⟩
theorem HN:FA prog 123 2 2 3:=⟨_,xv,rfl,rfl,by rw[sz3];decide⟩
theorem Dn:zav prog 123 = .agg [.int .i64 (0),.int .i64 (0),.int .i64 (0)]:=kR
theorem NH:aA prog 123=true:=kR
theorem sS:td prog 124 = .struct [(0,3),(1,3),(2,3)]:=kR
theorem oC:sz prog 124=3:=kR
theorem zE:bts prog 124=24:=kR
theorem yN:ae prog 124=true:=kR
theorem HM:FA prog 124 0 0 3:=⟨_,sS,rfl,rfl,by rw[sz3];decide⟩
theorem HL:FA prog 124 1 1 3:=⟨_,sS,rfl,rfl,by rw[sz3];decide⟩
theorem HK:FA prog 124 2 2 3:=⟨_,sS,rfl,rfl,by rw[sz3];decide⟩
theorem ni:zav prog 124 = .agg [.int .i64 (0),.int .i64 (0),.int .i64 (0)]:=kR
theorem vg:aA prog 124=true:=kR
theorem Fv:(aA prog 124 && e_ (zav prog 124) && List.all [(0,3),(1,3),(2,3)] (λf=>decide (0<sz prog f.2)))=true:=kR
theorem D9:List.map (λ(f:Nat×TypeId)=>sz prog f.2) [(0,3),(1,3),(2,3)]=[1,1,1]:=kR
theorem Km:td prog 125 = .func:=kR
theorem LO:sz prog 125=1:=kR
theorem S_:bts prog 125=8:=kR
theorem PD:ae prog 125=false:=kR
theorem Dm:zav prog 125 = .nilf:=kR
theorem NE:aA prog 125=true:=kR
theorem Kl:td prog 126 = .func:=kR
theorem LN:sz prog 126=1:=kR
theorem S9:bts prog 126=8:=kR
theorem PC:ae prog 126=false:=kR
theorem Dl:zav prog 126 = .nilf:=kR
theorem ND:aA prog 126=true:=kR
theorem Kk:td prog 127 = .func:=kR
theorem LM:sz prog 127=1:=kR
theorem S8:bts prog 127=8:=kR
theorem PB:ae prog 127=false:=kR
theorem Dk:zav prog 127 = .nilf:=kR
theorem NC:aA prog 127=true:=kR
theorem zX:td prog 128 = .slice 41:=kR
theorem LL:sz prog 128=1:=kR
theorem S7:bts prog 128=24:=kR
theorem PA:ae prog 128=false:=kR
theorem Dj:zav prog 128 = .nil:=kR
theorem NA:aA prog 128=true:=kR
theorem Kj:td prog 129 = .func:=kR
theorem LK:sz prog 129=1:=kR
theorem S6:bts prog 129=8:=kR
theorem Pz:ae prog 129=false:=kR
theorem Di:zav prog 129 = .nilf:=kR
theorem Nz:aA prog 129=true:=kR
theorem Ki:td prog 130 = .func:=kR
theorem LJ:sz prog 130=1:=kR
theorem S5:bts prog 130=8:=kR
theorem Py:ae prog 130=false:=kR
theorem Dh:zav prog 130 = .nilf:=kR
theorem Ny:aA prog 130=true:=kR
theorem Kh:td prog 131 = .func:=kR
theorem LI:sz prog 131=1:=kR
theorem S4:bts prog 131=8:=kR
theorem Px:ae prog 131=false:=kR
theorem Dg:zav prog 131 = .nilf:=kR
theorem Nx:aA prog 131=true:=kR
theorem Kg:td prog 133 = .func:=kR
theorem LH:sz prog 133=1:=kR
theorem SZ:bts prog 133=8:=kR
theorem Pw:ae prog 133=false:=kR
theorem Df:zav prog 133 = .nilf:=kR
theorem Nw:aA prog 133=true:=kR
theorem Kf:td prog 135 = .func:=kR
theorem LG:sz prog 135=1:=kR
theorem SY:bts prog 135=8:=kR
theorem Pv:ae prog 135=false:=kR
theorem De:zav prog 135 = .nilf:=kR
theorem Nv:aA prog 135=true:=kR
theorem Ke:td prog 137 = .func:=kR
theorem LF:sz prog 137=1:=kR
theorem SX:bts prog 137=8:=kR
theorem Pu:ae prog 137=false:=kR
theorem Dd:zav prog 137 = .nilf:=kR
theorem Nu:aA prog 137=true:=kR
theorem Kd:td prog 139 = .func:=kR
theorem LD:sz prog 139=1:=kR
theorem SW:bts prog 139=8:=kR
theorem Pt:ae prog 139=false:=kR
theorem Dc:zav prog 139 = .nilf:=kR
theorem Nt:aA prog 139=true:=kR
theorem Kb:td prog 140 = .slice 9:=kR
theorem LC:sz prog 140=1:=kR
theorem SV:bts prog 140=24:=kR
theorem Ps:ae prog 140=false:=kR
theorem Db:zav prog 140 = .nil:=kR
theorem Ns:aA prog 140=true:=kR
theorem Ka:td prog 142 = .func:=kR
theorem LB:sz prog 142=1:=kR
theorem SU:bts prog 142=8:=kR
theorem Pr:ae prog 142=false:=kR
theorem Da:zav prog 142 = .nilf:=kR
theorem Nr:aA prog 142=true:=kR
theorem J_:td prog 143 = .func:=kR
theorem LA:sz prog 143=1:=kR
theorem ST:bts prog 143=8:=kR
theorem Pp:ae prog 143=false:=kR
theorem C_:zav prog 143 = .nilf:=kR
theorem Nq:aA prog 143=true:=kR
theorem J':td prog 144 = .ptr:=kR
theorem Af:sz prog 144=1:=kR
theorem SS:bts prog 144=8:=kR
theorem Po:ae prog 144=false:=kR
theorem C9:zav prog 144 = .nilp:=kR
theorem Np:aA prog 144=true:=kR
theorem J9:td prog 145 = .slice 5:=kR
theorem Ae:sz prog 145=1:=kR
theorem SR:bts prog 145=24:=kR
theorem Pn:ae prog 145=false:=kR
theorem C8:zav prog 145 = .nil:=kR
theorem Nn:aA prog 145=true:=kR
theorem zW:td prog 146 = .struct [(0,144),(1,145)]:=kR
theorem Lz:sz prog 146=2:=kR
theorem SQ:bts prog 146=32:=kR
theorem Pm:ae prog 146=true:=kR
theorem HJ:FA prog 146 0 0 144:=⟨_,zW,rfl,rfl,by rw[Af];decide⟩
theorem HI:FA prog 146 1 1 145:=⟨_,zW,rfl,rfl,by rw[Ae];decide⟩
theorem C7:zav prog 146 = .agg [.nilp,.nil]:=kR
theorem Nm:aA prog 146=true:=kR
theorem zV:td prog 147 = .struct [(0,144),(1,145)]:=kR
theorem Ly:sz prog 147=2:=kR
theorem SP:bts prog 147=32:=kR
theorem Pl:ae prog 147=true:=kR
theorem HH:FA prog 147 0 0 144:=⟨_,zV,rfl,rfl,by rw[Af];decide⟩
theorem HG:FA prog 147 1 1 145:=⟨_,zV,rfl,rfl,by rw[Ae];decide⟩
theorem C6:zav prog 147 = .agg [.nilp,.nil]:=kR
theorem Nl:aA prog 147=true:=kR
theorem J8:td prog 149 = .func:=kR
theorem Lx:sz prog 149=1:=kR
theorem SO:bts prog 149=8:=kR
theorem Pk:ae prog 149=false:=kR
theorem C5:zav prog 149 = .nilf:=kR
theorem Nk:aA prog 149=true:=kR
theorem J7:td prog 150 = .func:=kR
theorem Lw:sz prog 150=1:=kR
theorem SN:bts prog 150=8:=kR
theorem Pj:ae prog 150=false:=kR
theorem C4:zav prog 150 = .nilf:=kR
theorem Nj:aA prog 150=true:=kR
theorem J6:td prog 151 = .func:=kR
theorem Lv:sz prog 151=1:=kR
theorem SL:bts prog 151=8:=kR
theorem Pi:ae prog 151=false:=kR
theorem C3:zav prog 151 = .nilf:=kR
theorem Ni:aA prog 151=true:=kR
theorem J5:td prog 152 = .func:=kR
theorem Lu:sz prog 152=1:=kR
theorem SK:bts prog 152=8:=kR
theorem Ph:ae prog 152=false:=kR
theorem C2:zav prog 152 = .nilf:=kR
theorem Nh:aA prog 152=true:=kR
theorem J4:td prog 153 = .int .u64:=kR
theorem Lt:sz prog 153=1:=kR
theorem SJ:bts prog 153=8:=kR
theorem Pg:ae prog 153=false:=kR
theorem C1:zav prog 153 = .int .u64 (0):=kR
theorem Ng:aA prog 153=true:=kR
theorem J3:td prog 154 = .func:=kR
theorem Ls:sz prog 154=1:=kR
theorem SI:bts prog 154=8:=kR
theorem Pf:ae prog 154=false:=kR
theorem C0:zav prog 154 = .nilf:=kR
theorem Nf:aA prog 154=true:=kR
theorem J2:td prog 155 = .int .u64:=kR
theorem Lr:sz prog 155=1:=kR
theorem SH:bts prog 155=8:=kR
theorem Pe:ae prog 155=false:=kR
theorem CZ:zav prog 155 = .int .u64 (0):=kR
theorem Nc:aA prog 155=true:=kR
theorem J1:td prog 157 = .func:=kR
theorem Lq:sz prog 157=1:=kR
theorem SG:bts prog 157=8:=kR
theorem Pd:ae prog 157=false:=kR
theorem CY:zav prog 157 = .nilf:=kR
theorem Nb:aA prog 157=true:=kR
theorem J0:td prog 158 = .func:=kR
theorem Lp:sz prog 158=1:=kR
theorem SF:bts prog 158=8:=kR
theorem Pc:ae prog 158=false:=kR
theorem CX:zav prog 158 = .nilf:=kR
theorem Na:aA prog 158=true:=kR
theorem JZ:td prog 160 = .func:=kR
theorem Lo:sz prog 160=1:=kR
theorem SE:bts prog 160=8:=kR
theorem Pb:ae prog 160=false:=kR
theorem CW:zav prog 160 = .nilf:=kR
theorem M_:aA prog 160=true:=kR
theorem JY:td prog 161 = .func:=kR
theorem Ln:sz prog 161=1:=kR
theorem SD:bts prog 161=8:=kR
theorem Pa:ae prog 161=false:=kR
theorem CV:zav prog 161 = .nilf:=kR
theorem M9:aA prog 161=true:=kR
theorem JX:td prog 162 = .ptr:=kR
theorem Lm:sz prog 162=1:=kR
theorem SC:bts prog 162=8:=kR
theorem O_:ae prog 162=false:=kR
theorem CU:zav prog 162 = .nilp:=kR
theorem M8:aA prog 162=true:=kR
theorem xu:td prog 163 = .struct [(0,24),(3,71),(4,41)]:=kR
theorem Ll:sz prog 163=5:=kR
theorem SB:bts prog 163=88:=kR
theorem O':ae prog 163=true:=kR
theorem HF:FA prog 163 0 0 24:=⟨_,xu,rfl,rfl,by rw[we];decide⟩
theorem HE:FA prog 163 1 3 71:=⟨_,xu,rfl,rfl,by rw[np];decide⟩
theorem HD:FA prog 163 2 4 41:=⟨_,xu,rfl,rfl,by rw[Bf];decide⟩
theorem CT:zav prog 163 = .agg [.int .i64 (0),.nil,.int .i64 (0),.nil,.nil]:=kR
theorem M7:aA prog 163=true:=kR
theorem uU:td prog 164 = .struct [(0,24),(3,71),(4,41)]:=kR
theorem Eb:sz prog 164=5:=kR
theorem SA:bts prog 164=88:=kR
theorem O9:ae prog 164=true:=kR
theorem HC:FA prog 164 0 0 24:=⟨_,uU,rfl,rfl,by rw[we];decide⟩
theorem HB:FA prog 164 1 3 71:=⟨_,uU,rfl,rfl,by rw[np];decide⟩
theorem HA:FA prog 164 2 4 41:=⟨_,uU,rfl,rfl,by rw[Bf];decide⟩
theorem yR:zav prog 164 = .agg [.int .i64 (0),.nil,.int .i64 (0),.nil,.nil]:=kR
theorem M6:aA prog 164=true:=kR
theorem Tv:(aA prog 164 && e_ (zav prog 164) && List.all [(0,24),(3,71),(4,41)] (λf=>decide (0<sz prog f.2)))=true:=kR
theorem Qb:List.map (λ(f:Nat×TypeId)=>sz prog f.2) [(0,24),(3,71),(4,41)]=[3,1,1]:=kR
theorem JW:td prog 165 = .func:=kR
theorem Lk:sz prog 165=1:=kR
theorem Sz:bts prog 165=8:=kR
theorem O8:ae prog 165=false:=kR
theorem CS:zav prog 165 = .nilf:=kR
theorem M5:aA prog 165=true:=kR
theorem JV:td prog 166 = .func:=kR
theorem Lj:sz prog 166=1:=kR
theorem Sy:bts prog 166=8:=kR
theorem O7:ae prog 166=false:=kR
theorem CQ:zav prog 166 = .nilf:=kR
theorem M4:aA prog 166=true:=kR
theorem xt:td prog 167 = .map 124 3:=kR
theorem Ad:sz prog 167=1:=kR
theorem Sx:bts prog 167=8:=kR
theorem O6:ae prog 167=false:=kR
theorem CP:zav prog 167 = .nilmap:=kR
theorem M3:aA prog 167=true:=kR
theorem xr:td prog 168 = .map 197 3:=kR
theorem Ac:sz prog 168=1:=kR
theorem Sw:bts prog 168=8:=kR
theorem O5:ae prog 168=false:=kR
theorem CO:zav prog 168 = .nilmap:=kR
theorem MZ:aA prog 168=true:=kR
theorem sR:td prog 169 = .struct [(0,71),(1,71),(2,74),(3,167),(4,168)]:=kR
theorem Li:sz prog 169=5:=kR
theorem Sv:bts prog 169=88:=kR
theorem O4:ae prog 169=true:=kR
theorem Hz:FA prog 169 0 0 71:=⟨_,sR,rfl,rfl,by rw[np];decide⟩
theorem Hy:FA prog 169 1 1 71:=⟨_,sR,rfl,rfl,by rw[np];decide⟩
theorem Hx:FA prog 169 2 2 74:=⟨_,sR,rfl,rfl,by rw[Be];decide⟩
theorem Hw:FA prog 169 3 3 167:=⟨_,sR,rfl,rfl,by rw[Ad];decide⟩
theorem Hv:FA prog 169 4 4 168:=⟨_,sR,rfl,rfl,by rw[Ac];decide⟩
theorem CN:zav prog 169 = .agg [.nil,.nil,.nil,.nilmap,.nilmap]:=kR
theorem MY:aA prog 169=true:=kR
theorem rq:td prog 170 = .struct [(0,71),(1,71),(2,74),(3,167),(4,168)]:=kR
theorem Ea:sz prog 170=5:=kR
theorem Su:bts prog 170=88:=kR
theorem O3:ae prog 170=true:=kR
theorem Hu:FA prog 170 0 0 71:=⟨_,rq,rfl,rfl,by rw[np];decide⟩
theorem Ht:FA prog 170 1 1 71:=⟨_,rq,rfl,rfl,by rw[np];decide⟩
theorem Hs:FA prog 170 2 2 74:=⟨_,rq,rfl,rfl,by rw[Be];decide⟩
theorem Hr:FA prog 170 3 3 167:=⟨_,rq,rfl,rfl,by rw[Ad];decide⟩
theorem Hq:FA prog 170 4 4 168:=⟨_,rq,rfl,rfl,by rw[Ac];decide⟩
theorem yQ:zav prog 170 = .agg [.nil,.nil,.nil,.nilmap,.nilmap]:=kR
theorem MX:aA prog 170=true:=kR
theorem Tu:(aA prog 170 && e_ (zav prog 170) && List.all [(0,71),(1,71),(2,74),(3,167),(4,168)] (λf=>decide (0<sz prog f.2)))=true:=kR
theorem Qa:List.map (λ(f:Nat×TypeId)=>sz prog f.2) [(0,71),(1,71),(2,74),(3,167),(4,168)]=[1,1,1,1,1]:=kR
theorem JU:td prog 171 = .func:=kR
theorem Lh:sz prog 171=1:=kR
theorem Ss:bts prog 171=8:=kR
theorem O2:ae prog 171=false:=kR
theorem CM:zav prog 171 = .nilf:=kR
theorem MW:aA prog 171=true:=kR
theorem JT:td prog 172 = .func:=kR
theorem Lg:sz prog 172=1:=kR
theorem Sr:bts prog 172=8:=kR
theorem O1:ae prog 172=false:=kR
theorem CL:zav prog 172 = .nilf:=kR
theorem MV:aA prog 172=true:=kR
theorem JS:td prog 173 = .func:=kR
theorem Lf:sz prog 173=1:=kR
theorem Sq:bts prog 173=8:=kR
theorem O0:ae prog 173=false:=kR
theorem CK:zav prog 173 = .nilf:=kR
theorem MU:aA prog 173=true:=kR
theorem JR:td prog 174 = .func:=kR
theorem Le:sz prog 174=1:=kR
theorem Sp:bts prog 174=8:=kR
theorem OY:ae prog 174=false:=kR
theorem CJ:zav prog 174 = .nilf:=kR
theorem MT:aA prog 174=true:=kR
theorem sQ:td prog 175 = .map 3 4:=kR
theorem Ld:sz prog 175=1:=kR
theorem So:bts prog 175=8:=kR
theorem OX:ae prog 175=false:=kR
theorem CI:zav prog 175 = .nilmap:=kR
theorem MS:aA prog 175=true:=kR
theorem JQ:td prog 176 = .func:=kR
theorem Lc:sz prog 176=1:=kR
theorem Sn:bts prog 176=8:=kR
theorem OV:ae prog 176=false:=kR
theorem CH:zav prog 176 = .nilf:=kR
theorem MQ:aA prog 176=true:=kR
theorem JP:td prog 177 = .func:=kR
theorem Lb:sz prog 177=1:=kR
theorem Sm:bts prog 177=8:=kR
theorem OU:ae prog 177=false:=kR
theorem CG:zav prog 177 = .nilf:=kR
theorem MP:aA prog 177=true:=kR
theorem JO:td prog 178 = .func:=kR
theorem La:sz prog 178=1:=kR
theorem Sl:bts prog 178=8:=kR
theorem OT:ae prog 178=false:=kR
theorem CF:zav prog 178 = .nilf:=kR
theorem MO:aA prog 178=true:=kR
theorem JN:td prog 179 = .array 9 5:=kR
theorem K_:sz prog 179=9:=kR
theorem Sk:bts prog 179=9:=kR
theorem OS:ae prog 179=true:=kR
theorem CE:zav prog 179 = .agg [.int .u8 (0),.int .u8 (0),.int .u8 (0),.int .u8 (0),.int .u8 (0),.int .u8 (0),.int .u8 (0),.int .u8 (0),.int .u8 (0)]:=kR
theorem MN:aA prog 179=true:=kR
theorem JM:td prog 180 = .func:=kR
theorem K':sz prog 180=1:=kR
theorem Sj:bts prog 180=8:=kR
theorem OR:ae prog 180=false:=kR
theorem CD:zav prog 180 = .nilf:=kR
theorem MM:aA prog 180=true:=kR
theorem JL:td prog 181 = .array 256 4:=kR
theorem K9:sz prog 181=256:=kR
theorem Si:bts prog 181=256:=kR
theorem OQ:ae prog 181=true:=kR
theorem JK:td prog 182 = .array 256 4:=kR
theorem K8:sz prog 182=256:=kR
theorem Sh:bts prog 182=256:=kR
theorem OP:ae prog 182=true:=kR
theorem JJ:td prog 184 = .func:=kR
theorem K7:sz prog 184=1:=kR
theorem Sg:bts prog 184=8:=kR
theorem OO:ae prog 184=false:=kR
theorem CC:zav prog 184 = .nilf:=kR
theorem ML:aA prog 184=true:=kR
theorem JI:td prog 185 = .func:=kR
theorem K6:sz prog 185=1:=kR
theorem Sf:bts prog 185=8:=kR
theorem ON:ae prog 185=false:=kR
theorem CB:zav prog 185 = .nilf:=kR
theorem MK:aA prog 185=true:=kR
theorem JH:td prog 186 = .ptr:=kR
theorem K5:sz prog 186=1:=kR
theorem Se:bts prog 186=8:=kR
theorem OM:ae prog 186=false:=kR
theorem CA:zav prog 186 = .nilp:=kR
theorem MJ:aA prog 186=true:=kR
theorem JG:td prog 187 = .ptr:=kR
theorem Ab:sz prog 187=1:=kR
theorem Sd:bts prog 187=8:=kR
theorem OL:ae prog 187=false:=kR
theorem Cz:zav prog 187 = .nilp:=kR
theorem MI:aA prog 187=true:=kR
theorem JF:td prog 188 = .func:=kR
theorem K4:sz prog 188=1:=kR
theorem Sc:bts prog 188=8:=kR
theorem OK:ae prog 188=false:=kR
theorem Cy:zav prog 188 = .nilf:=kR
theorem MH:aA prog 188=true:=kR
theorem JE:td prog 189 = .func:=kR
theorem K3:sz prog 189=1:=kR
theorem Sb:bts prog 189=8:=kR
theorem OJ:ae prog 189=false:=kR
theorem Cx:zav prog 189 = .nilf:=kR
theorem MG:aA prog 189=true:=kR
theorem JD:td prog 190 = .func:=kR
theorem K2:sz prog 190=1:=kR
theorem Sa:bts prog 190=8:=kR
theorem OI:ae prog 190=false:=kR
theorem Cw:zav prog 190 = .nilf:=kR
theorem MF:aA prog 190=true:=kR
theorem JC:td prog 192 = .func:=kR
theorem K1:sz prog 192=1:=kR
theorem R_:bts prog 192=8:=kR
theorem OH:ae prog 192=false:=kR
theorem Cv:zav prog 192 = .nilf:=kR
theorem ME:aA prog 192=true:=kR
theorem JB:td prog 193 = .func:=kR
theorem K0:sz prog 193=1:=kR
theorem R9:bts prog 193=8:=kR
theorem OG:ae prog 193=false:=kR
theorem Cu:zav prog 193 = .nilf:=kR
theorem MD:aA prog 193=true:=kR
theorem JA:td prog 195 = .func:=kR
theorem KZ:sz prog 195=1:=kR
theorem R8:bts prog 195=8:=kR
theorem OE:ae prog 195=false:=kR
theorem Ct:zav prog 195 = .nilf:=kR
theorem MC:aA prog 195=true:=kR
theorem Jz:td prog 196 = .func:=kR
theorem KY:sz prog 196=1:=kR
theorem R7:bts prog 196=8:=kR
theorem OD:ae prog 196=false:=kR
theorem Cs:zav prog 196 = .nilf:=kR
theorem MB:aA prog 196=true:=kR
theorem D7:td prog 197 = .array 3 3:=kR
theorem xz:sz prog 197=3:=kR
theorem R6:bts prog 197=24:=kR
theorem A_:ae prog 197=true:=kR
theorem yP:zav prog 197 = .agg [.int .i64 (0),.int .i64 (0),.int .i64 (0)]:=kR
theorem ED:aA prog 197=true:=kR
theorem Jy:td prog 199 = .func:=kR
theorem KX:sz prog 199=1:=kR
theorem R5:bts prog 199=8:=kR
theorem OC:ae prog 199=false:=kR
theorem Cr:zav prog 199 = .nilf:=kR
theorem MA:aA prog 199=true:=kR
theorem Jx:td prog 200 = .func:=kR
theorem KW:sz prog 200=1:=kR
theorem R0:bts prog 200=8:=kR
theorem OB:ae prog 200=false:=kR
theorem Cq:zav prog 200 = .nilf:=kR
theorem Mz:aA prog 200=true:=kR
theorem Jw:td prog 201 = .array 256 5:=kR
theorem KV:sz prog 201=256:=kR
theorem RZ:bts prog 201=256:=kR
theorem OA:ae prog 201=true:=kR
theorem zU:td prog 202 = .struct [(0,5),(1,5)]:=kR
theorem KU:sz prog 202=2:=kR
theorem RY:bts prog 202=2:=kR
theorem Oz:ae prog 202=true:=kR
theorem Hp:FA prog 202 0 0 5:=⟨_,zU,rfl,rfl,by rw[sz5];decide⟩
theorem Ho:FA prog 202 1 1 5:=⟨_,zU,rfl,rfl,by rw[sz5];decide⟩
theorem Cp:zav prog 202 = .agg [.int .u8 (0),.int .u8 (0)]:=kR
theorem My:aA prog 202=true:=kR
theorem zT:td prog 203 = .struct [(0,5),(1,5)]:=kR
theorem KT:sz prog 203=2:=kR
theorem RX:bts prog 203=2:=kR
theorem Oy:ae prog 203=true:=kR
theorem Hn:FA prog 203 0 0 5:=⟨_,zT,rfl,rfl,by rw[sz5];decide⟩
theorem Hm:FA prog 203 1 1 5:=⟨_,zT,rfl,rfl,by rw[sz5];decide⟩
theorem Co:zav prog 203 = .agg [.int .u8 (0),.int .u8 (0)]:=kR
theorem Mx:aA prog 203=true:=kR
theorem Jv:td prog 204 = .array 16 203:=kR
theorem KS:sz prog 204=32:=kR
theorem RW:bts prog 204=32:=kR
theorem Ox:ae prog 204=true:=kR
theorem Cn:zav prog 204 = .agg [.int .u8 (0),.int .u8 (0),.int .u8 (0),.int .u8 (0),.int .u8 (0),.int .u8 (0),.int .u8 (0),.int .u8 (0),.int .u8 (0),.int .u8 (0),.int .u8 (0),.int .u8 (0),.int .u8 (0),.int .u8 (0),.int .u8 (0),.int .u8 (0),.int .u8 (0),.int .u8 (0),.int .u8 (0),.int .u8 (0),.int .u8 (0),.int .u8 (0),.int .u8 (0),.int .u8 (0),.int .u8 (0),.int .u8 (0),.int .u8 (0),.int .u8 (0),.int .u8 (0),.int .u8 (0),.int .u8 (0),.int .u8 (0)]:=kR
theorem Mw:aA prog 204=true:=kR
theorem Ju:td prog 205 = .func:=kR
theorem KR:sz prog 205=1:=kR
theorem RV:bts prog 205=8:=kR
theorem Ow:ae prog 205=false:=kR
theorem Cm:zav prog 205 = .nilf:=kR
theorem Mu:aA prog 205=true:=kR
theorem Jt:td prog 206 = .func:=kR
theorem KQ:sz prog 206=1:=kR
theorem RU:bts prog 206=8:=kR
theorem Ov:ae prog 206=false:=kR
theorem Cl:zav prog 206 = .nilf:=kR
theorem Mt:aA prog 206=true:=kR
theorem Js:td prog 207 = .func:=kR
theorem KP:sz prog 207=1:=kR
theorem RT:bts prog 207=8:=kR
theorem Ou:ae prog 207=false:=kR
theorem Ck:zav prog 207 = .nilf:=kR
theorem Ms:aA prog 207=true:=kR
theorem uT:td prog 208 = .struct [(0,17),(1,17),(2,17),(3,9)]:=kR
theorem KO:sz prog 208=4:=kR
theorem RS:bts prog 208=40:=kR
theorem Ot:ae prog 208=true:=kR
theorem Hl:FA prog 208 0 0 17:=⟨_,uT,rfl,rfl,by rw[uz];decide⟩
theorem Hk:FA prog 208 1 1 17:=⟨_,uT,rfl,rfl,by rw[uz];decide⟩
theorem Hi:FA prog 208 2 2 17:=⟨_,uT,rfl,rfl,by rw[uz];decide⟩
theorem Hh:FA prog 208 3 3 9:=⟨_,uT,rfl,rfl,by rw[sz9];decide⟩
theorem uS:td prog 209 = .struct [(0,17),(1,17),(2,17),(3,9)]:=kR
theorem KN:sz prog 209=4:=kR
theorem RR:bts prog 209=40:=kR
theorem Oq:ae prog 209=true:=kR
theorem Hg:FA prog 209 0 0 17:=⟨_,uS,rfl,rfl,by rw[uz];decide⟩
theorem Hf:FA prog 209 1 1 17:=⟨_,uS,rfl,rfl,by rw[uz];decide⟩
theorem He:FA prog 209 2 2 17:=⟨_,uS,rfl,rfl,by rw[uz];decide⟩
theorem Hd:FA prog 209 3 3 9:=⟨_,uS,rfl,rfl,by rw[sz9];decide⟩
theorem UE:td prog 210 = .array 0 16:=kR
theorem UD:td prog 211 = .struct [(0,210)]:=kR
theorem UB:td prog 212 = .struct [(0,210)]:=kR
theorem Jr:td prog 213 = .func:=kR
theorem KM:sz prog 213=1:=kR
theorem RQ:bts prog 213=8:=kR
theorem Oo:ae prog 213=false:=kR
theorem Cj:zav prog 213 = .nilf:=kR
theorem Mr:aA prog 213=true:=kR
theorem Jq:td prog 214 = .int .u8:=kR
theorem Aa:sz prog 214=1:=kR
theorem RP:bts prog 214=1:=kR
theorem On:ae prog 214=false:=kR
theorem Ci:zav prog 214 = .int .u8 (0):=kR
theorem Mq:aA prog 214=true:=kR
theorem Jp:td prog 215 = .int .u8:=kR
theorem z_:sz prog 215=1:=kR
theorem RM:bts prog 215=1:=kR
theorem Om:ae prog 215=false:=kR
theorem Cg:zav prog 215 = .int .u8 (0):=kR
theorem Mp:aA prog 215=true:=kR
theorem Jo:td prog 216 = .func:=kR
theorem z8:sz prog 216=1:=kR
theorem RL:bts prog 216=8:=kR
theorem Ol:ae prog 216=false:=kR
theorem Cf:zav prog 216 = .nilf:=kR
theorem Mo:aA prog 216=true:=kR
theorem Jn:td prog 217 = .int .i32:=kR
theorem z7:sz prog 217=1:=kR
theorem RK:bts prog 217=4:=kR
theorem Ok:ae prog 217=false:=kR
theorem Ce:zav prog 217 = .int .i32 (0):=kR
theorem Mn:aA prog 217=true:=kR
theorem Jm:td prog 218 = .int .i32:=kR
theorem z6:sz prog 218=1:=kR
theorem RJ:bts prog 218=4:=kR
theorem Oj:ae prog 218=false:=kR
theorem Cd:zav prog 218 = .int .i32 (0):=kR
theorem Mm:aA prog 218=true:=kR
theorem lP:td prog 219 = .struct [(0,12),(1,12),(2,33),(3,214),(4,5),(5,5),(6,215),(7,216),(8,187),(9,217),(10,218)]:=kR
theorem KK:sz prog 219=11:=kR
theorem RI:bts prog 219=48:=kR
theorem Oi:ae prog 219=true:=kR
theorem Hc:FA prog 219 0 0 12:=⟨_,lP,rfl,rfl,by rw[xA];decide⟩
theorem Hb:FA prog 219 1 1 12:=⟨_,lP,rfl,rfl,by rw[xA];decide⟩
theorem Ha:FA prog 219 2 2 33:=⟨_,lP,rfl,rfl,by rw[j7];decide⟩
theorem G_:FA prog 219 3 3 214:=⟨_,lP,rfl,rfl,by rw[Aa];decide⟩
theorem G9:FA prog 219 4 4 5:=⟨_,lP,rfl,rfl,by rw[sz5];decide⟩
theorem G8:FA prog 219 5 5 5:=⟨_,lP,rfl,rfl,by rw[sz5];decide⟩
theorem G7:FA prog 219 6 6 215:=⟨_,lP,rfl,rfl,by rw[z_];decide⟩
theorem G6:FA prog 219 7 7 216:=⟨_,lP,rfl,rfl,by rw[z8];decide⟩
theorem GZ:FA prog 219 8 8 187:=⟨_,lP,rfl,rfl,by rw[Ab];decide⟩
theorem GY:FA prog 219 9 9 217:=⟨_,lP,rfl,rfl,by rw[z7];decide⟩
theorem Fe:FA prog 219 10 10 218:=⟨_,lP,rfl,rfl,by rw[z6];decide⟩
theorem Cc:zav prog 219 = .agg [.int .u64 (0),.int .u64 (0),.int .u32 (0),.int .u8 (0),.int .u8 (0),.int .u8 (0),.int .u8 (0),.nilf,.nilp,.int .i32 (0),.int .i32 (0)]:=kR
theorem Ml:aA prog 219=true:=kR
theorem lO:td prog 220 = .struct [(0,12),(1,12),(2,33),(3,214),(4,5),(5,5),(6,215),(7,216),(8,187),(9,217),(10,218)]:=kR
theorem KJ:sz prog 220=11:=kR
theorem RH:bts prog 220=48:=kR
theorem Oh:ae prog 220=true:=kR
theorem GX:FA prog 220 0 0 12:=⟨_,lO,rfl,rfl,by rw[xA];decide⟩
theorem GW:FA prog 220 1 1 12:=⟨_,lO,rfl,rfl,by rw[xA];decide⟩
theorem GV:FA prog 220 2 2 33:=⟨_,lO,rfl,rfl,by rw[j7];decide⟩
theorem GU:FA prog 220 3 3 214:=⟨_,lO,rfl,rfl,by rw[Aa];decide⟩
theorem GT:FA prog 220 4 4 5:=⟨_,lO,rfl,rfl,by rw[sz5];decide⟩
theorem GS:FA prog 220 5 5 5:=⟨_,lO,rfl,rfl,by rw[sz5];decide⟩
theorem GR:FA prog 220 6 6 215:=⟨_,lO,rfl,rfl,by rw[z_];decide⟩
theorem GQ:FA prog 220 7 7 216:=⟨_,lO,rfl,rfl,by rw[z8];decide⟩
theorem GP:FA prog 220 8 8 187:=⟨_,lO,rfl,rfl,by rw[Ab];decide⟩
theorem GO:FA prog 220 9 9 217:=⟨_,lO,rfl,rfl,by rw[z7];decide⟩
theorem Fd:FA prog 220 10 10 218:=⟨_,lO,rfl,rfl,by rw[z6];decide⟩
theorem Cb:zav prog 220 = .agg [.int .u64 (0),.int .u64 (0),.int .u32 (0),.int .u8 (0),.int .u8 (0),.int .u8 (0),.int .u8 (0),.nilf,.nilp,.int .i32 (0),.int .i32 (0)]:=kR
theorem Mk:aA prog 220=true:=kR
theorem qK:dK prog 3=some (.one .i64):=kR
theorem zp:dK prog 124=some zKt:=kR
theorem zo:dK prog 197=some zKt:=kR
attribute [go_sem] td1 sz1 aa5 ag1 TP ok1 td2 sz2 aa4 ag2 TO ok2
attribute [go_sem] td3 sz3 nP ag3 gc ok3 td4 sz4 uO ag4 oq ok4
attribute [go_sem] td5 sz5 aa3 ag5 TN ok5 td6 sz6 aa2 ag6 TM ok6
attribute [go_sem] td7 sz7 aa1 ag7 TL ok7 td8 sz8 aa0 ag8 TK ok8
attribute [go_sem] td9 sz9 aaZ ag9 UM VT YW Z9 UL VS YV Z8
attribute [go_sem] UK xA YU Z7 Jj Xh FZ VQ YT Z6 FY VP
attribute [go_sem] YS Z5 UJ VO YR Z4 Ji Xg UI VN YQ Z3
attribute [go_sem] Jh Xf UH uz YP Z2 Jg Xe P' VM YO Z1
attribute [go_sem] Jf Xd P9 VL YN Z0 Je Xc UG VK YM ZZ
attribute [go_sem] Jd Xb UF VJ YL ZY Jc Xa D6 F2 YK ZX
attribute [go_sem] Jb W_ D5 VH YJ ZW Ja W9 y6 we YI FD
attribute [go_sem] zL W8 c7 c9 A4 jp xf EC UA VG YH ZV
attribute [go_sem] I_ W7 Uz VF YG ZU I' W6 dp Bg YF ZT
attribute [go_sem] I9 W5 D4 VE YE ZS I8 W4 lq be iq dH
attribute [go_sem] cr iA Uy VC YD ZR I7 W3 Ux VB YC ZQ
attribute [go_sem] I6 W2 Uw j7 ip ZP dv gn Uv VA YB ZO
attribute [go_sem] I5 W1 Uu Vz YA ZN I4 W0 Ut Vy Yz ZM
attribute [go_sem] I3 WZ Us Vx Yy ZL I2 WY P8 Vw Yx ZK
attribute [go_sem] Ca Qr xq F1 Yw ZJ I1 WX lm Bf Oe ZH
attribute [go_sem] zK Gq Bc Vv Yv ZG I0 WW rO oV Yu w7
attribute [go_sem] rk WV Ur Vu Yt ZF IZ WU Uq Vt Ys ZE
attribute [go_sem] IY WS Up Vs Yr ZD IX WR Uo Vq Yq ZC
attribute [go_sem] IW WQ Un Vp Yp ZB IV WP Um Vo Yo ZA
attribute [go_sem] IU WO Ul Vn Yn Zz IR WN Uk Vm Ym Zy
attribute [go_sem] IQ WM Uj Vl Yl Zx IP WL Ui Vk Yk Zw
attribute [go_sem] IM WK Uh Vj Yj Zv IL WJ Ug Vi Yi Zu
attribute [go_sem] IK WI Uf Vh Yh Zt IJ WH Ue Vg Yg Zs
attribute [go_sem] II WG Ud Vf Yf Zr IH WF Uc Ve Ye Zq
attribute [go_sem] IG WD Ub Vb Yd Zp IF WC Ua Va Yc Zo
attribute [go_sem] IE WB D3 U_ Yb Zn ID WA v_ y7 Ft Zm
attribute [go_sem] nh zi T_ U' Ya Zl IC Wz T9 U9 X_ Zk
attribute [go_sem] IB Wy fN np Fs H5 xe EB T8 U8 X9 Zj
attribute [go_sem] IA Wx v8 Be X8 Zi Iz Ww D2 U7 X7 Zh
attribute [go_sem] Iy Wv uy pH X6 wY sK Wu T7 U6 X5 Zg
attribute [go_sem] Ix Wt T6 U5 X4 Zf Iw Ws T5 U4 X3 Ze
attribute [go_sem] Iv Wp T4 U3 X2 Zd Iu Wo y5 U2 X1 Zc
attribute [go_sem] It Wn T3 U1 X0 Zb Is Wj rN U0 XZ Za
attribute [go_sem] Ir Wi iy UZ XY Y_ Iq Wh T2 UY XX Y'
attribute [go_sem] Ip Wg T1 UX XW Y9 Io Wf T0 UW XV Y8
attribute [go_sem] Im We TZ UV XU Y7 Il Wd TY UU XT Y6
attribute [go_sem] Ik Wc TX UT XS Y5 Ij Wb TW US XR Y4
attribute [go_sem] Ii Wa D1 UR XQ Y3 Ih V_ Bb D_ Od TC
attribute [go_sem] xd Gp TV UQ XP Y2 Ig V' TU UP XO Y1
attribute [go_sem] Ie V9 TT UO XN Y0 Ic V8 KH Md Tt PY
attribute [go_sem] DG NZ KG Mc Ts PW DF NY KF Mb Tr PV
attribute [go_sem] DE NX KD Ma Tq PU DD NW KC L_ Tp PT
attribute [go_sem] DB NV KB L9 Tn PS DA NU Kz L8 Tm PR
attribute [go_sem] Dz NT Ky L7 Tl PQ Dy NS Kx L6 Tk PP
attribute [go_sem] Dx NR Kw L5 Tj PO Dw NQ Kv LZ Ti PN
attribute [go_sem] Dv NP Ku LY Th PM Du NO Ks LX Tg PK
attribute [go_sem] Dt NN Kr LW Tf PJ Ds NM Kq LU Te PI
attribute [go_sem] Dr NL Kp LS Td PH Dq NK Ko LR Tc PG
attribute [go_sem] Dp NJ Kn LQ Tb PF Do NI xv LP Ta PE
attribute [go_sem] Dn NH sS oC zE yN ni vg Km LO S_ PD
attribute [go_sem] Dm NE Kl LN S9 PC Dl ND Kk LM S8 PB
attribute [go_sem] Dk NC zX LL S7 PA Dj NA Kj LK S6 Pz
attribute [go_sem] Di Nz Ki LJ S5 Py Dh Ny Kh LI S4 Px
attribute [go_sem] Dg Nx Kg LH SZ Pw Df Nw Kf LG SY Pv
attribute [go_sem] De Nv Ke LF SX Pu Dd Nu Kd LD SW Pt
attribute [go_sem] Dc Nt Kb LC SV Ps Db Ns Ka LB SU Pr
attribute [go_sem] Da Nr J_ LA ST Pp C_ Nq J' Af SS Po
attribute [go_sem] C9 Np J9 Ae SR Pn C8 Nn zW Lz SQ Pm
attribute [go_sem] C7 Nm zV Ly SP Pl C6 Nl J8 Lx SO Pk
attribute [go_sem] C5 Nk J7 Lw SN Pj C4 Nj J6 Lv SL Pi
attribute [go_sem] C3 Ni J5 Lu SK Ph C2 Nh J4 Lt SJ Pg
attribute [go_sem] C1 Ng J3 Ls SI Pf C0 Nf J2 Lr SH Pe
attribute [go_sem] CZ Nc J1 Lq SG Pd CY Nb J0 Lp SF Pc
attribute [go_sem] CX Na JZ Lo SE Pb CW M_ JY Ln SD Pa
attribute [go_sem] CV M9 JX Lm SC O_ CU M8 xu Ll SB O'
attribute [go_sem] CT M7 uU Eb SA O9 yR M6 JW Lk Sz O8
attribute [go_sem] CS M5 JV Lj Sy O7 CQ M4 xt Ad Sx O6
attribute [go_sem] CP M3 xr Ac Sw O5 CO MZ sR Li Sv O4
attribute [go_sem] CN MY rq Ea Su O3 yQ MX JU Lh Ss O2
attribute [go_sem] CM MW JT Lg Sr O1 CL MV JS Lf Sq O0
attribute [go_sem] CK MU JR Le Sp OY CJ MT sQ Ld So OX
attribute [go_sem] CI MS JQ Lc Sn OV CH MQ JP Lb Sm OU
attribute [go_sem] CG MP JO La Sl OT CF MO JN K_ Sk OS
attribute [go_sem] CE MN JM K' Sj OR CD MM JL K9 Si OQ
attribute [go_sem] JK K8 Sh OP JJ K7 Sg OO CC ML JI K6
attribute [go_sem] Sf ON CB MK JH K5 Se OM CA MJ JG Ab
attribute [go_sem] Sd OL Cz MI JF K4 Sc OK Cy MH JE K3
attribute [go_sem] Sb OJ Cx MG JD K2 Sa OI Cw MF JC K1
attribute [go_sem] R_ OH Cv ME JB K0 R9 OG Cu MD JA KZ
attribute [go_sem] R8 OE Ct MC Jz KY R7 OD Cs MB D7 xz
attribute [go_sem] R6 A_ yP ED Jy KX R5 OC Cr MA Jx KW
attribute [go_sem] R0 OB Cq Mz Jw KV RZ OA zU KU RY Oz
attribute [go_sem] Cp My zT KT RX Oy Co Mx Jv KS RW Ox
attribute [go_sem] Cn Mw Ju KR RV Ow Cm Mu Jt KQ RU Ov
attribute [go_sem] Cl Mt Js KP RT Ou Ck Ms uT KO RS Ot
attribute [go_sem] uS KN RR Oq UE UD UB Jr KM RQ Oo Cj
attribute [go_sem] Mr Jq Aa RP On Ci Mq Jp z_ RM Om Cg
attribute [go_sem] Mp Jo z8 RL Ol Cf Mo Jn z7 RK Ok Ce
attribute [go_sem] Mn Jm z6 RJ Oj Cd Mm lP KK RI Oi Cc
attribute [go_sem] Ml lO KJ RH Oh Cb Mk
instance ti1:TI prog 1 (.func) 1 false:=⟨td1,sz1,ag1⟩
instance zi1:ZI prog 1 (.nilf):=⟨TP,ok1⟩
instance ti2:TI prog 2 (.int .i64) 1 false:=⟨td2,sz2,ag2⟩
instance zi2:ZI prog 2 (.int .i64 (0)):=⟨TO,ok2⟩
instance ti3:TI prog 3 (.int .i64) 1 false:=⟨td3,sz3,ag3⟩
instance zi3:ZI prog 3 (.int .i64 (0)):=⟨gc,ok3⟩
instance ti4:TI prog 4 (.bool) 1 false:=⟨td4,sz4,ag4⟩
instance zi4:ZI prog 4 (.bool false):=⟨oq,ok4⟩
instance ti5:TI prog 5 (.int .u8) 1 false:=⟨td5,sz5,ag5⟩
instance zi5:ZI prog 5 (.int .u8 (0)):=⟨TN,ok5⟩
instance ti6:TI prog 6 (.int .u8) 1 false:=⟨td6,sz6,ag6⟩
instance zi6:ZI prog 6 (.int .u8 (0)):=⟨TM,ok6⟩
instance ti7:TI prog 7 (.struct [(0,2),(1,3),(2,4),(3,6)]) 4 true:=⟨td7,sz7,ag7⟩
instance zi7:ZI prog 7 (.agg [.int .i64 (0),.int .i64 (0),.bool false,.int .u8 (0)]):=⟨TL,ok7⟩
instance ti8:TI prog 8 (.struct [(0,2),(1,3),(2,4),(3,6)]) 4 true:=⟨td8,sz8,ag8⟩
instance zi8:ZI prog 8 (.agg [.int .i64 (0),.int .i64 (0),.bool false,.int .u8 (0)]):=⟨TK,ok8⟩
instance ti9:TI prog 9 (.str) 1 false:=⟨td9,sz9,ag9⟩
instance ti10:TI prog 10 (.str) 1 false:=⟨UM,VT,Z9⟩
instance ti11:TI prog 11 (.str) 1 false:=⟨UL,VS,Z8⟩
instance ti12:TI prog 12 (.int .u64) 1 false:=⟨UK,xA,Z7⟩
instance zi12:ZI prog 12 (.int .u64 (0)):=⟨Jj,Xh⟩
instance ti13:TI prog 13 (.struct [(0,9),(1,12)]) 2 true:=⟨FZ,VQ,Z6⟩
instance ti14:TI prog 14 (.struct [(0,9),(1,12)]) 2 true:=⟨FY,VP,Z5⟩
instance ti15:TI prog 15 (.ptr) 1 false:=⟨UJ,VO,Z4⟩
instance zi15:ZI prog 15 (.nilp):=⟨Ji,Xg⟩
instance ti16:TI prog 16 (.ptr) 1 false:=⟨UI,VN,Z3⟩
instance zi16:ZI prog 16 (.nilp):=⟨Jh,Xf⟩
instance ti17:TI prog 17 (.ptr) 1 false:=⟨UH,uz,Z2⟩
instance zi17:ZI prog 17 (.nilp):=⟨Jg,Xe⟩
instance ti18:TI prog 18 (.struct [(0,17)]) 1 true:=⟨P',VM,Z1⟩
instance zi18:ZI prog 18 (.agg [.nilp]):=⟨Jf,Xd⟩
instance ti19:TI prog 19 (.struct [(0,17)]) 1 true:=⟨P9,VL,Z0⟩
instance zi19:ZI prog 19 (.agg [.nilp]):=⟨Je,Xc⟩
instance ti20:TI prog 20 (.iface) 1 false:=⟨UG,VK,ZZ⟩
instance zi20:ZI prog 20 (.niface):=⟨Jd,Xb⟩
instance ti21:TI prog 21 (.int .i32) 1 false:=⟨UF,VJ,ZY⟩
instance zi21:ZI prog 21 (.int .i32 (0)):=⟨Jc,Xa⟩
instance ti22:TI prog 22 (.slice 96) 1 false:=⟨D6,F2,ZX⟩
instance zi22:ZI prog 22 (.nil):=⟨Jb,W_⟩
instance ti23:TI prog 23 (.struct [(0,3),(1,22),(2,3)]) 3 true:=⟨D5,VH,ZW⟩
instance zi23:ZI prog 23 (.agg [.int .i64 (0),.nil,.int .i64 (0)]):=⟨Ja,W9⟩
instance ti24:TI prog 24 (.struct [(0,3),(1,22),(2,3)]) 3 true:=⟨y6,we,FD⟩
instance zi24:ZI prog 24 (.agg [.int .i64 (0),.nil,.int .i64 (0)]):=⟨zL,W8⟩
instance ti25:TI prog 25 (.slice 30) 1 false:=⟨c7,c9,jp⟩
instance zi25:ZI prog 25 (.nil):=⟨xf,EC⟩
instance ti26:TI prog 26 (.func) 1 false:=⟨UA,VG,ZV⟩
instance zi26:ZI prog 26 (.nilf):=⟨I_,W7⟩
instance ti27:TI prog 27 (.func) 1 false:=⟨Uz,VF,ZU⟩
instance zi27:ZI prog 27 (.nilf):=⟨I',W6⟩
instance ti28:TI prog 28 (.slice 33) 1 false:=⟨dp,Bg,ZT⟩
instance zi28:ZI prog 28 (.nil):=⟨I9,W5⟩
instance ti29:TI prog 29 (.struct [(0,4),(1,28),(2,28)]) 3 true:=⟨D4,VE,ZS⟩
instance zi29:ZI prog 29 (.agg [.bool false,.nil,.nil]):=⟨I8,W4⟩
instance ti30:TI prog 30 (.struct [(0,4),(1,28),(2,28)]) 3 true:=⟨lq,be,dH⟩
instance zi30:ZI prog 30 (.agg [.bool false,.nil,.nil]):=⟨cr,iA⟩
instance ti31:TI prog 31 (.func) 1 false:=⟨Uy,VC,ZR⟩
instance zi31:ZI prog 31 (.nilf):=⟨I7,W3⟩
instance ti32:TI prog 32 (.func) 1 false:=⟨Ux,VB,ZQ⟩
instance zi32:ZI prog 32 (.nilf):=⟨I6,W2⟩
instance ti33:TI prog 33 (.int .u32) 1 false:=⟨Uw,j7,ZP⟩
instance zi33:ZI prog 33 (.int .u32 (0)):=⟨dv,gn⟩
instance ti34:TI prog 34 (.iface) 1 false:=⟨Uv,VA,ZO⟩
instance zi34:ZI prog 34 (.niface):=⟨I5,W1⟩
instance ti35:TI prog 35 (.iface) 1 false:=⟨Uu,Vz,ZN⟩
instance zi35:ZI prog 35 (.niface):=⟨I4,W0⟩
instance ti37:TI prog 37 (.func) 1 false:=⟨Ut,Vy,ZM⟩
instance zi37:ZI prog 37 (.nilf):=⟨I3,WZ⟩
instance ti38:TI prog 38 (.func) 1 false:=⟨Us,Vx,ZL⟩
instance zi38:ZI prog 38 (.nilf):=⟨I2,WY⟩
instance ti39:TI prog 39 (.int .i64) 1 false:=⟨P8,Vw,ZK⟩
instance zi39:ZI prog 39 (.int .i64 (0)):=⟨Ca,Qr⟩
instance ti40:TI prog 40 (.slice 68) 1 false:=⟨xq,F1,ZJ⟩
instance zi40:ZI prog 40 (.nil):=⟨I1,WX⟩
instance ti41:TI prog 41 (.slice 4) 1 false:=⟨lm,Bf,ZH⟩
instance zi41:ZI prog 41 (.nil):=⟨zK,Gq⟩
instance ti42:TI prog 42 (.struct [(0,3),(1,3),(2,40),(3,41)]) 4 true:=⟨Bc,Vv,ZG⟩
instance zi42:ZI prog 42 (.agg [.int .i64 (0),.int .i64 (0),.nil,.nil]):=⟨I0,WW⟩
instance ti43:TI prog 43 (.struct [(0,3),(1,3),(2,40),(3,41)]) 4 true:=⟨rO,oV,w7⟩
instance zi43:ZI prog 43 (.agg [.int .i64 (0),.int .i64 (0),.nil,.nil]):=⟨rk,WV⟩
instance ti45:TI prog 45 (.func) 1 false:=⟨Ur,Vu,ZF⟩
instance zi45:ZI prog 45 (.nilf):=⟨IZ,WU⟩
instance ti47:TI prog 47 (.func) 1 false:=⟨Uq,Vt,ZE⟩
instance zi47:ZI prog 47 (.nilf):=⟨IY,WS⟩
instance ti48:TI prog 48 (.func) 1 false:=⟨Up,Vs,ZD⟩
instance zi48:ZI prog 48 (.nilf):=⟨IX,WR⟩
instance ti49:TI prog 49 (.func) 1 false:=⟨Uo,Vq,ZC⟩
instance zi49:ZI prog 49 (.nilf):=⟨IW,WQ⟩
instance ti51:TI prog 51 (.func) 1 false:=⟨Un,Vp,ZB⟩
instance zi51:ZI prog 51 (.nilf):=⟨IV,WP⟩
instance ti52:TI prog 52 (.func) 1 false:=⟨Um,Vo,ZA⟩
instance zi52:ZI prog 52 (.nilf):=⟨IU,WO⟩
instance ti53:TI prog 53 (.func) 1 false:=⟨Ul,Vn,Zz⟩
instance zi53:ZI prog 53 (.nilf):=⟨IR,WN⟩
instance ti54:TI prog 54 (.func) 1 false:=⟨Uk,Vm,Zy⟩
instance zi54:ZI prog 54 (.nilf):=⟨IQ,WM⟩
instance ti55:TI prog 55 (.func) 1 false:=⟨Uj,Vl,Zx⟩
instance zi55:ZI prog 55 (.nilf):=⟨IP,WL⟩
instance ti56:TI prog 56 (.func) 1 false:=⟨Ui,Vk,Zw⟩
instance zi56:ZI prog 56 (.nilf):=⟨IM,WK⟩
instance ti57:TI prog 57 (.func) 1 false:=⟨Uh,Vj,Zv⟩
instance zi57:ZI prog 57 (.nilf):=⟨IL,WJ⟩
instance ti58:TI prog 58 (.func) 1 false:=⟨Ug,Vi,Zu⟩
instance zi58:ZI prog 58 (.nilf):=⟨IK,WI⟩
instance ti59:TI prog 59 (.func) 1 false:=⟨Uf,Vh,Zt⟩
instance zi59:ZI prog 59 (.nilf):=⟨IJ,WH⟩
instance ti61:TI prog 61 (.func) 1 false:=⟨Ue,Vg,Zs⟩
instance zi61:ZI prog 61 (.nilf):=⟨II,WG⟩
instance ti62:TI prog 62 (.func) 1 false:=⟨Ud,Vf,Zr⟩
instance zi62:ZI prog 62 (.nilf):=⟨IH,WF⟩
instance ti64:TI prog 64 (.func) 1 false:=⟨Uc,Ve,Zq⟩
instance zi64:ZI prog 64 (.nilf):=⟨IG,WD⟩
instance ti65:TI prog 65 (.func) 1 false:=⟨Ub,Vb,Zp⟩
instance zi65:ZI prog 65 (.nilf):=⟨IF,WC⟩
instance ti66:TI prog 66 (.func) 1 false:=⟨Ua,Va,Zo⟩
instance zi66:ZI prog 66 (.nilf):=⟨IE,WB⟩
instance ti67:TI prog 67 (.struct [(0,3),(1,3),(2,30)]) 5 true:=⟨D3,U_,Zn⟩
instance zi67:ZI prog 67 (.agg [.int .i64 (0),.int .i64 (0),.bool false,.nil,.nil]):=⟨ID,WA⟩
instance ti68:TI prog 68 (.struct [(0,3),(1,3),(2,30)]) 5 true:=⟨v_,y7,Zm⟩
instance zi68:ZI prog 68 (.agg [.int .i64 (0),.int .i64 (0),.bool false,.nil,.nil]):=⟨nh,zi⟩
instance ti69:TI prog 69 (.func) 1 false:=⟨T_,U',Zl⟩
instance zi69:ZI prog 69 (.nilf):=⟨IC,Wz⟩
instance ti70:TI prog 70 (.func) 1 false:=⟨T9,U9,Zk⟩
instance zi70:ZI prog 70 (.nilf):=⟨IB,Wy⟩
instance ti71:TI prog 71 (.slice 3) 1 false:=⟨fN,np,H5⟩
instance zi71:ZI prog 71 (.nil):=⟨xe,EB⟩
instance ti73:TI prog 73 (.func) 1 false:=⟨T8,U8,Zj⟩
instance zi73:ZI prog 73 (.nilf):=⟨IA,Wx⟩
instance ti74:TI prog 74 (.slice 124) 1 false:=⟨v8,Be,Zi⟩
instance zi74:ZI prog 74 (.nil):=⟨Iz,Ww⟩
instance ti75:TI prog 75 (.struct [(0,71),(1,74),(2,3)]) 3 true:=⟨D2,U7,Zh⟩
instance zi75:ZI prog 75 (.agg [.nil,.nil,.int .i64 (0)]):=⟨Iy,Wv⟩
instance ti76:TI prog 76 (.struct [(0,71),(1,74),(2,3)]) 3 true:=⟨uy,pH,wY⟩
instance zi76:ZI prog 76 (.agg [.nil,.nil,.int .i64 (0)]):=⟨sK,Wu⟩
instance ti78:TI prog 78 (.func) 1 false:=⟨T7,U6,Zg⟩
instance zi78:ZI prog 78 (.nilf):=⟨Ix,Wt⟩
instance ti79:TI prog 79 (.func) 1 false:=⟨T6,U5,Zf⟩
instance zi79:ZI prog 79 (.nilf):=⟨Iw,Ws⟩
instance ti80:TI prog 80 (.func) 1 false:=⟨T5,U4,Ze⟩
instance zi80:ZI prog 80 (.nilf):=⟨Iv,Wp⟩
instance ti81:TI prog 81 (.func) 1 false:=⟨T4,U3,Zd⟩
instance zi81:ZI prog 81 (.nilf):=⟨Iu,Wo⟩
instance ti82:TI prog 82 (.slice 71) 1 false:=⟨y5,U2,Zc⟩
instance zi82:ZI prog 82 (.nil):=⟨It,Wn⟩
instance ti83:TI prog 83 (.func) 1 false:=⟨T3,U1,Zb⟩
instance zi83:ZI prog 83 (.nilf):=⟨Is,Wj⟩
instance ti84:TI prog 84 (.map 3 3) 1 false:=⟨rN,U0,Za⟩
instance zi84:ZI prog 84 (.nilmap):=⟨Ir,Wi⟩
instance ti85:TI prog 85 (.slice 25) 1 false:=⟨iy,UZ,Y_⟩
instance zi85:ZI prog 85 (.nil):=⟨Iq,Wh⟩
instance ti87:TI prog 87 (.func) 1 false:=⟨T2,UY,Y'⟩
instance zi87:ZI prog 87 (.nilf):=⟨Ip,Wg⟩
instance ti88:TI prog 88 (.func) 1 false:=⟨T1,UX,Y9⟩
instance zi88:ZI prog 88 (.nilf):=⟨Io,Wf⟩
instance ti89:TI prog 89 (.func) 1 false:=⟨T0,UW,Y8⟩
instance zi89:ZI prog 89 (.nilf):=⟨Im,We⟩
instance ti91:TI prog 91 (.func) 1 false:=⟨TZ,UV,Y7⟩
instance zi91:ZI prog 91 (.nilf):=⟨Il,Wd⟩
instance ti92:TI prog 92 (.func) 1 false:=⟨TY,UU,Y6⟩
instance zi92:ZI prog 92 (.nilf):=⟨Ik,Wc⟩
instance ti93:TI prog 93 (.func) 1 false:=⟨TX,UT,Y5⟩
instance zi93:ZI prog 93 (.nilf):=⟨Ij,Wb⟩
instance ti94:TI prog 94 (.func) 1 false:=⟨TW,US,Y4⟩
instance zi94:ZI prog 94 (.nilf):=⟨Ii,Wa⟩
instance ti95:TI prog 95 (.struct [(0,3),(1,3),(2,71)]) 3 true:=⟨D1,UR,Y3⟩
instance zi95:ZI prog 95 (.agg [.int .i64 (0),.int .i64 (0),.nil]):=⟨Ih,V_⟩
instance ti96:TI prog 96 (.struct [(0,3),(1,3),(2,71)]) 3 true:=⟨Bb,D_,TC⟩
instance zi96:ZI prog 96 (.agg [.int .i64 (0),.int .i64 (0),.nil]):=⟨xd,Gp⟩
instance ti97:TI prog 97 (.func) 1 false:=⟨TV,UQ,Y2⟩
instance zi97:ZI prog 97 (.nilf):=⟨Ig,V'⟩
instance ti98:TI prog 98 (.func) 1 false:=⟨TU,UP,Y1⟩
instance zi98:ZI prog 98 (.nilf):=⟨Ie,V9⟩
instance ti99:TI prog 99 (.func) 1 false:=⟨TT,UO,Y0⟩
instance zi99:ZI prog 99 (.nilf):=⟨Ic,V8⟩
instance ti101:TI prog 101 (.func) 1 false:=⟨KH,Md,PY⟩
instance zi101:ZI prog 101 (.nilf):=⟨DG,NZ⟩
instance ti102:TI prog 102 (.func) 1 false:=⟨KG,Mc,PW⟩
instance zi102:ZI prog 102 (.nilf):=⟨DF,NY⟩
instance ti104:TI prog 104 (.func) 1 false:=⟨KF,Mb,PV⟩
instance zi104:ZI prog 104 (.nilf):=⟨DE,NX⟩
instance ti105:TI prog 105 (.func) 1 false:=⟨KD,Ma,PU⟩
instance zi105:ZI prog 105 (.nilf):=⟨DD,NW⟩
instance ti106:TI prog 106 (.func) 1 false:=⟨KC,L_,PT⟩
instance zi106:ZI prog 106 (.nilf):=⟨DB,NV⟩
instance ti107:TI prog 107 (.func) 1 false:=⟨KB,L9,PS⟩
instance zi107:ZI prog 107 (.nilf):=⟨DA,NU⟩
instance ti108:TI prog 108 (.func) 1 false:=⟨Kz,L8,PR⟩
instance zi108:ZI prog 108 (.nilf):=⟨Dz,NT⟩
instance ti109:TI prog 109 (.func) 1 false:=⟨Ky,L7,PQ⟩
instance zi109:ZI prog 109 (.nilf):=⟨Dy,NS⟩
instance ti111:TI prog 111 (.func) 1 false:=⟨Kx,L6,PP⟩
instance zi111:ZI prog 111 (.nilf):=⟨Dx,NR⟩
instance ti113:TI prog 113 (.func) 1 false:=⟨Kw,L5,PO⟩
instance zi113:ZI prog 113 (.nilf):=⟨Dw,NQ⟩
instance ti114:TI prog 114 (.func) 1 false:=⟨Kv,LZ,PN⟩
instance zi114:ZI prog 114 (.nilf):=⟨Dv,NP⟩
instance ti116:TI prog 116 (.func) 1 false:=⟨Ku,LY,PM⟩
instance zi116:ZI prog 116 (.nilf):=⟨Du,NO⟩
instance ti117:TI prog 117 (.ptr) 1 false:=⟨Ks,LX,PK⟩
instance zi117:ZI prog 117 (.nilp):=⟨Dt,NN⟩
instance ti118:TI prog 118 (.func) 1 false:=⟨Kr,LW,PJ⟩
instance zi118:ZI prog 118 (.nilf):=⟨Ds,NM⟩
instance ti119:TI prog 119 (.func) 1 false:=⟨Kq,LU,PI⟩
instance zi119:ZI prog 119 (.nilf):=⟨Dr,NL⟩
instance ti120:TI prog 120 (.func) 1 false:=⟨Kp,LS,PH⟩
instance zi120:ZI prog 120 (.nilf):=⟨Dq,NK⟩
instance ti121:TI prog 121 (.func) 1 false:=⟨Ko,LR,PG⟩
instance zi121:ZI prog 121 (.nilf):=⟨Dp,NJ⟩
instance ti122:TI prog 122 (.func) 1 false:=⟨Kn,LQ,PF⟩
instance zi122:ZI prog 122 (.nilf):=⟨Do,NI⟩
instance ti123:TI prog 123 (.struct [(0,3),(1,3),(2,3)]) 3 true:=⟨xv,LP,PE⟩
instance zi123:ZI prog 123 (.agg [.int .i64 (0),.int .i64 (0),.int .i64 (0)]):=⟨Dn,NH⟩
instance ti124:TI prog 124 (.struct [(0,3),(1,3),(2,3)]) 3 true:=⟨sS,oC,yN⟩
instance zi124:ZI prog 124 (.agg [.int .i64 (0),.int .i64 (0),.int .i64 (0)]):=⟨ni,vg⟩
instance ti125:TI prog 125 (.func) 1 false:=⟨Km,LO,PD⟩
instance zi125:ZI prog 125 (.nilf):=⟨Dm,NE⟩
instance ti126:TI prog 126 (.func) 1 false:=⟨Kl,LN,PC⟩
instance zi126:ZI prog 126 (.nilf):=⟨Dl,ND⟩
instance ti127:TI prog 127 (.func) 1 false:=⟨Kk,LM,PB⟩
instance zi127:ZI prog 127 (.nilf):=⟨Dk,NC⟩
instance ti128:TI prog 128 (.slice 41) 1 false:=⟨zX,LL,PA⟩
instance zi128:ZI prog 128 (.nil):=⟨Dj,NA⟩
instance ti129:TI prog 129 (.func) 1 false:=⟨Kj,LK,Pz⟩
instance zi129:ZI prog 129 (.nilf):=⟨Di,Nz⟩
instance ti130:TI prog 130 (.func) 1 false:=⟨Ki,LJ,Py⟩
instance zi130:ZI prog 130 (.nilf):=⟨Dh,Ny⟩
instance ti131:TI prog 131 (.func) 1 false:=⟨Kh,LI,Px⟩
instance zi131:ZI prog 131 (.nilf):=⟨Dg,Nx⟩
instance ti133:TI prog 133 (.func) 1 false:=⟨Kg,LH,Pw⟩
instance zi133:ZI prog 133 (.nilf):=⟨Df,Nw⟩
instance ti135:TI prog 135 (.func) 1 false:=⟨Kf,LG,Pv⟩
instance zi135:ZI prog 135 (.nilf):=⟨De,Nv⟩
instance ti137:TI prog 137 (.func) 1 false:=⟨Ke,LF,Pu⟩
instance zi137:ZI prog 137 (.nilf):=⟨Dd,Nu⟩
instance ti139:TI prog 139 (.func) 1 false:=⟨Kd,LD,Pt⟩
instance zi139:ZI prog 139 (.nilf):=⟨Dc,Nt⟩
instance ti140:TI prog 140 (.slice 9) 1 false:=⟨Kb,LC,Ps⟩
instance zi140:ZI prog 140 (.nil):=⟨Db,Ns⟩
instance ti142:TI prog 142 (.func) 1 false:=⟨Ka,LB,Pr⟩
instance zi142:ZI prog 142 (.nilf):=⟨Da,Nr⟩
instance ti143:TI prog 143 (.func) 1 false:=⟨J_,LA,Pp⟩
instance zi143:ZI prog 143 (.nilf):=⟨C_,Nq⟩
instance ti144:TI prog 144 (.ptr) 1 false:=⟨J',Af,Po⟩
instance zi144:ZI prog 144 (.nilp):=⟨C9,Np⟩
instance ti145:TI prog 145 (.slice 5) 1 false:=⟨J9,Ae,Pn⟩
instance zi145:ZI prog 145 (.nil):=⟨C8,Nn⟩
instance ti146:TI prog 146 (.struct [(0,144),(1,145)]) 2 true:=⟨zW,Lz,Pm⟩
instance zi146:ZI prog 146 (.agg [.nilp,.nil]):=⟨C7,Nm⟩
instance ti147:TI prog 147 (.struct [(0,144),(1,145)]) 2 true:=⟨zV,Ly,Pl⟩
instance zi147:ZI prog 147 (.agg [.nilp,.nil]):=⟨C6,Nl⟩
instance ti149:TI prog 149 (.func) 1 false:=⟨J8,Lx,Pk⟩
instance zi149:ZI prog 149 (.nilf):=⟨C5,Nk⟩
instance ti150:TI prog 150 (.func) 1 false:=⟨J7,Lw,Pj⟩
instance zi150:ZI prog 150 (.nilf):=⟨C4,Nj⟩
instance ti151:TI prog 151 (.func) 1 false:=⟨J6,Lv,Pi⟩
instance zi151:ZI prog 151 (.nilf):=⟨C3,Ni⟩
instance ti152:TI prog 152 (.func) 1 false:=⟨J5,Lu,Ph⟩
instance zi152:ZI prog 152 (.nilf):=⟨C2,Nh⟩
instance ti153:TI prog 153 (.int .u64) 1 false:=⟨J4,Lt,Pg⟩
instance zi153:ZI prog 153 (.int .u64 (0)):=⟨C1,Ng⟩
instance ti154:TI prog 154 (.func) 1 false:=⟨J3,Ls,Pf⟩
instance zi154:ZI prog 154 (.nilf):=⟨C0,Nf⟩
instance ti155:TI prog 155 (.int .u64) 1 false:=⟨J2,Lr,Pe⟩
instance zi155:ZI prog 155 (.int .u64 (0)):=⟨CZ,Nc⟩
instance ti157:TI prog 157 (.func) 1 false:=⟨J1,Lq,Pd⟩
instance zi157:ZI prog 157 (.nilf):=⟨CY,Nb⟩
instance ti158:TI prog 158 (.func) 1 false:=⟨J0,Lp,Pc⟩
instance zi158:ZI prog 158 (.nilf):=⟨CX,Na⟩
instance ti160:TI prog 160 (.func) 1 false:=⟨JZ,Lo,Pb⟩
instance zi160:ZI prog 160 (.nilf):=⟨CW,M_⟩
instance ti161:TI prog 161 (.func) 1 false:=⟨JY,Ln,Pa⟩
instance zi161:ZI prog 161 (.nilf):=⟨CV,M9⟩
instance ti162:TI prog 162 (.ptr) 1 false:=⟨JX,Lm,O_⟩
instance zi162:ZI prog 162 (.nilp):=⟨CU,M8⟩
instance ti163:TI prog 163 (.struct [(0,24),(3,71),(4,41)]) 5 true:=⟨xu,Ll,O'⟩
instance zi163:ZI prog 163 (.agg [.int .i64 (0),.nil,.int .i64 (0),.nil,.nil]):=⟨CT,M7⟩
instance ti164:TI prog 164 (.struct [(0,24),(3,71),(4,41)]) 5 true:=⟨uU,Eb,O9⟩
instance zi164:ZI prog 164 (.agg [.int .i64 (0),.nil,.int .i64 (0),.nil,.nil]):=⟨yR,M6⟩
instance ti165:TI prog 165 (.func) 1 false:=⟨JW,Lk,O8⟩
instance zi165:ZI prog 165 (.nilf):=⟨CS,M5⟩
instance ti166:TI prog 166 (.func) 1 false:=⟨JV,Lj,O7⟩
instance zi166:ZI prog 166 (.nilf):=⟨CQ,M4⟩
instance ti167:TI prog 167 (.map 124 3) 1 false:=⟨xt,Ad,O6⟩
instance zi167:ZI prog 167 (.nilmap):=⟨CP,M3⟩
instance ti168:TI prog 168 (.map 197 3) 1 false:=⟨xr,Ac,O5⟩
instance zi168:ZI prog 168 (.nilmap):=⟨CO,MZ⟩
instance ti169:TI prog 169 (.struct [(0,71),(1,71),(2,74),(3,167),(4,168)]) 5 true:=⟨sR,Li,O4⟩
instance zi169:ZI prog 169 (.agg [.nil,.nil,.nil,.nilmap,.nilmap]):=⟨CN,MY⟩
instance ti170:TI prog 170 (.struct [(0,71),(1,71),(2,74),(3,167),(4,168)]) 5 true:=⟨rq,Ea,O3⟩
instance zi170:ZI prog 170 (.agg [.nil,.nil,.nil,.nilmap,.nilmap]):=⟨yQ,MX⟩
instance ti171:TI prog 171 (.func) 1 false:=⟨JU,Lh,O2⟩
instance zi171:ZI prog 171 (.nilf):=⟨CM,MW⟩
instance ti172:TI prog 172 (.func) 1 false:=⟨JT,Lg,O1⟩
instance zi172:ZI prog 172 (.nilf):=⟨CL,MV⟩
instance ti173:TI prog 173 (.func) 1 false:=⟨JS,Lf,O0⟩
instance zi173:ZI prog 173 (.nilf):=⟨CK,MU⟩
instance ti174:TI prog 174 (.func) 1 false:=⟨JR,Le,OY⟩
instance zi174:ZI prog 174 (.nilf):=⟨CJ,MT⟩
instance ti175:TI prog 175 (.map 3 4) 1 false:=⟨sQ,Ld,OX⟩
instance zi175:ZI prog 175 (.nilmap):=⟨CI,MS⟩
instance ti176:TI prog 176 (.func) 1 false:=⟨JQ,Lc,OV⟩
instance zi176:ZI prog 176 (.nilf):=⟨CH,MQ⟩
instance ti177:TI prog 177 (.func) 1 false:=⟨JP,Lb,OU⟩
instance zi177:ZI prog 177 (.nilf):=⟨CG,MP⟩
instance ti178:TI prog 178 (.func) 1 false:=⟨JO,La,OT⟩
instance zi178:ZI prog 178 (.nilf):=⟨CF,MO⟩
instance ti179:TI prog 179 (.array 9 5) 9 true:=⟨JN,K_,OS⟩
instance zi179:ZI prog 179 (.agg [.int .u8 (0),.int .u8 (0),.int .u8 (0),.int .u8 (0),.int .u8 (0),.int .u8 (0),.int .u8 (0),.int .u8 (0),.int .u8 (0)]):=⟨CE,MN⟩
instance ti180:TI prog 180 (.func) 1 false:=⟨JM,K',OR⟩
instance zi180:ZI prog 180 (.nilf):=⟨CD,MM⟩
instance ti181:TI prog 181 (.array 256 4) 256 true:=⟨JL,K9,OQ⟩
instance ti182:TI prog 182 (.array 256 4) 256 true:=⟨JK,K8,OP⟩
instance ti184:TI prog 184 (.func) 1 false:=⟨JJ,K7,OO⟩
instance zi184:ZI prog 184 (.nilf):=⟨CC,ML⟩
instance ti185:TI prog 185 (.func) 1 false:=⟨JI,K6,ON⟩
instance zi185:ZI prog 185 (.nilf):=⟨CB,MK⟩
instance ti186:TI prog 186 (.ptr) 1 false:=⟨JH,K5,OM⟩
instance zi186:ZI prog 186 (.nilp):=⟨CA,MJ⟩
instance ti187:TI prog 187 (.ptr) 1 false:=⟨JG,Ab,OL⟩
instance zi187:ZI prog 187 (.nilp):=⟨Cz,MI⟩
instance ti188:TI prog 188 (.func) 1 false:=⟨JF,K4,OK⟩
instance zi188:ZI prog 188 (.nilf):=⟨Cy,MH⟩
instance ti189:TI prog 189 (.func) 1 false:=⟨JE,K3,OJ⟩
instance zi189:ZI prog 189 (.nilf):=⟨Cx,MG⟩
instance ti190:TI prog 190 (.func) 1 false:=⟨JD,K2,OI⟩
instance zi190:ZI prog 190 (.nilf):=⟨Cw,MF⟩
instance ti192:TI prog 192 (.func) 1 false:=⟨JC,K1,OH⟩
instance zi192:ZI prog 192 (.nilf):=⟨Cv,ME⟩
instance ti193:TI prog 193 (.func) 1 false:=⟨JB,K0,OG⟩
instance zi193:ZI prog 193 (.nilf):=⟨Cu,MD⟩
instance ti195:TI prog 195 (.func) 1 false:=⟨JA,KZ,OE⟩
instance zi195:ZI prog 195 (.nilf):=⟨Ct,MC⟩
instance ti196:TI prog 196 (.func) 1 false:=⟨Jz,KY,OD⟩
instance zi196:ZI prog 196 (.nilf):=⟨Cs,MB⟩
instance ti197:TI prog 197 (.array 3 3) 3 true:=⟨D7,xz,A_⟩
instance zi197:ZI prog 197 (.agg [.int .i64 (0),.int .i64 (0),.int .i64 (0)]):=⟨yP,ED⟩
instance ti199:TI prog 199 (.func) 1 false:=⟨Jy,KX,OC⟩
instance zi199:ZI prog 199 (.nilf):=⟨Cr,MA⟩
instance ti200:TI prog 200 (.func) 1 false:=⟨Jx,KW,OB⟩
instance zi200:ZI prog 200 (.nilf):=⟨Cq,Mz⟩
instance ti201:TI prog 201 (.array 256 5) 256 true:=⟨Jw,KV,OA⟩
instance ti202:TI prog 202 (.struct [(0,5),(1,5)]) 2 true:=⟨zU,KU,Oz⟩
instance zi202:ZI prog 202 (.agg [.int .u8 (0),.int .u8 (0)]):=⟨Cp,My⟩
instance ti203:TI prog 203 (.struct [(0,5),(1,5)]) 2 true:=⟨zT,KT,Oy⟩
instance zi203:ZI prog 203 (.agg [.int .u8 (0),.int .u8 (0)]):=⟨Co,Mx⟩
instance ti204:TI prog 204 (.array 16 203) 32 true:=⟨Jv,KS,Ox⟩
instance zi204:ZI prog 204 (.agg [.int .u8 (0),.int .u8 (0),.int .u8 (0),.int .u8 (0),.int .u8 (0),.int .u8 (0),.int .u8 (0),.int .u8 (0),.int .u8 (0),.int .u8 (0),.int .u8 (0),.int .u8 (0),.int .u8 (0),.int .u8 (0),.int .u8 (0),.int .u8 (0),.int .u8 (0),.int .u8 (0),.int .u8 (0),.int .u8 (0),.int .u8 (0),.int .u8 (0),.int .u8 (0),.int .u8 (0),.int .u8 (0),.int .u8 (0),.int .u8 (0),.int .u8 (0),.int .u8 (0),.int .u8 (0),.int .u8 (0),.int .u8 (0)]):=⟨Cn,Mw⟩
instance ti205:TI prog 205 (.func) 1 false:=⟨Ju,KR,Ow⟩
instance zi205:ZI prog 205 (.nilf):=⟨Cm,Mu⟩
instance ti206:TI prog 206 (.func) 1 false:=⟨Jt,KQ,Ov⟩
instance zi206:ZI prog 206 (.nilf):=⟨Cl,Mt⟩
instance ti207:TI prog 207 (.func) 1 false:=⟨Js,KP,Ou⟩
instance zi207:ZI prog 207 (.nilf):=⟨Ck,Ms⟩
instance ti208:TI prog 208 (.struct [(0,17),(1,17),(2,17),(3,9)]) 4 true:=⟨uT,KO,Ot⟩
instance ti209:TI prog 209 (.struct [(0,17),(1,17),(2,17),(3,9)]) 4 true:=⟨uS,KN,Oq⟩
instance ti213:TI prog 213 (.func) 1 false:=⟨Jr,KM,Oo⟩
instance zi213:ZI prog 213 (.nilf):=⟨Cj,Mr⟩
instance ti214:TI prog 214 (.int .u8) 1 false:=⟨Jq,Aa,On⟩
instance zi214:ZI prog 214 (.int .u8 (0)):=⟨Ci,Mq⟩
instance ti215:TI prog 215 (.int .u8) 1 false:=⟨Jp,z_,Om⟩
instance zi215:ZI prog 215 (.int .u8 (0)):=⟨Cg,Mp⟩
instance ti216:TI prog 216 (.func) 1 false:=⟨Jo,z8,Ol⟩
instance zi216:ZI prog 216 (.nilf):=⟨Cf,Mo⟩
instance ti217:TI prog 217 (.int .i32) 1 false:=⟨Jn,z7,Ok⟩
instance zi217:ZI prog 217 (.int .i32 (0)):=⟨Ce,Mn⟩
instance ti218:TI prog 218 (.int .i32) 1 false:=⟨Jm,z6,Oj⟩
instance zi218:ZI prog 218 (.int .i32 (0)):=⟨Cd,Mm⟩
instance ti219:TI prog 219 (.struct [(0,12),(1,12),(2,33),(3,214),(4,5),(5,5),(6,215),(7,216),(8,187),(9,217),(10,218)]) 11 true:=⟨lP,KK,Oi⟩
instance zi219:ZI prog 219 (.agg [.int .u64 (0),.int .u64 (0),.int .u32 (0),.int .u8 (0),.int .u8 (0),.int .u8 (0),.int .u8 (0),.nilf,.nilp,.int .i32 (0),.int .i32 (0)]):=⟨Cc,Ml⟩
instance ti220:TI prog 220 (.struct [(0,12),(1,12),(2,33),(3,214),(4,5),(5,5),(6,215),(7,216),(8,187),(9,217),(10,218)]) 11 true:=⟨lO,KJ,Oh⟩
instance zi220:ZI prog 220 (.agg [.int .u64 (0),.int .u64 (0),.int .u32 (0),.int .u8 (0),.int .u8 (0),.int .u8 (0),.int .u8 (0),.nilf,.nilp,.int .i32 (0),.int .i32 (0)]):=⟨Cb,Mk⟩
instance fi7_0:FI prog 7 0 0 2:=⟨XC⟩
instance fi7_1:FI prog 7 1 1 3:=⟨XB⟩
instance fi7_2:FI prog 7 2 2 4:=⟨XA⟩
instance fi7_3:FI prog 7 3 3 6:=⟨Xz⟩
instance fi8_0:FI prog 8 0 0 2:=⟨Xy⟩
instance fi8_1:FI prog 8 1 1 3:=⟨Xx⟩
instance fi8_2:FI prog 8 2 2 4:=⟨Xw⟩
instance fi8_3:FI prog 8 3 3 6:=⟨Xv⟩
instance fi13_0:FI prog 13 0 0 9:=⟨Rw⟩
instance fi13_1:FI prog 13 1 1 12:=⟨Rv⟩
instance fi14_0:FI prog 14 0 0 9:=⟨Ru⟩
instance fi14_1:FI prog 14 1 1 12:=⟨Rt⟩
instance fi18_0:FI prog 18 0 0 17:=⟨Rs⟩
instance fi19_0:FI prog 19 0 0 17:=⟨Rr⟩
instance fi23_0:FI prog 23 0 0 3:=⟨Rq⟩
instance fi23_1:FI prog 23 1 1 22:=⟨Ro⟩
instance fi23_2:FI prog 23 2 2 3:=⟨Rn⟩
instance fi24_0:FI prog 24 0 0 3:=⟨Rm⟩
instance fi24_1:FI prog 24 1 1 22:=⟨Rl⟩
instance fi24_2:FI prog 24 2 2 3:=⟨Rk⟩
instance fi29_0:FI prog 29 0 0 4:=⟨Rj⟩
instance fi29_1:FI prog 29 1 1 28:=⟨Ri⟩
instance fi29_2:FI prog 29 2 2 28:=⟨Rh⟩
instance fi30_0:FI prog 30 0 0 4:=⟨Rg⟩
instance fi30_1:FI prog 30 1 1 28:=⟨Rf⟩
instance fi30_2:FI prog 30 2 2 28:=⟨Re⟩
instance fi42_0:FI prog 42 0 0 3:=⟨Rc⟩
instance fi42_1:FI prog 42 1 1 3:=⟨Rb⟩
instance fi42_2:FI prog 42 2 2 40:=⟨Ra⟩
instance fi42_3:FI prog 42 3 3 41:=⟨Q_⟩
instance fi43_0:FI prog 43 0 0 3:=⟨Q9⟩
instance fi43_1:FI prog 43 1 1 3:=⟨Q8⟩
instance fi43_2:FI prog 43 2 2 40:=⟨Q7⟩
instance fi43_3:FI prog 43 3 3 41:=⟨Q6⟩
instance fi67_0:FI prog 67 0 0 3:=⟨Q5⟩
instance fi67_1:FI prog 67 1 1 3:=⟨Q4⟩
instance fi67_2:FI prog 67 2 2 30:=⟨Q3⟩
instance fi68_0:FI prog 68 0 0 3:=⟨Q2⟩
instance fi68_1:FI prog 68 1 1 3:=⟨Q1⟩
instance fi68_2:FI prog 68 2 2 30:=⟨qQ⟩
instance fi75_0:FI prog 75 0 0 71:=⟨Q0⟩
instance fi75_1:FI prog 75 1 1 74:=⟨QZ⟩
instance fi75_2:FI prog 75 2 2 3:=⟨QY⟩
instance fi76_0:FI prog 76 0 0 71:=⟨QX⟩
instance fi76_1:FI prog 76 1 1 74:=⟨QW⟩
instance fi76_2:FI prog 76 2 2 3:=⟨QV⟩
instance fi95_0:FI prog 95 0 0 3:=⟨QU⟩
instance fi95_1:FI prog 95 1 1 3:=⟨QT⟩
instance fi95_2:FI prog 95 2 2 71:=⟨QS⟩
instance fi96_0:FI prog 96 0 0 3:=⟨QR⟩
instance fi96_1:FI prog 96 1 1 3:=⟨QQ⟩
instance fi96_2:FI prog 96 2 2 71:=⟨QP⟩
instance fi123_0:FI prog 123 0 0 3:=⟨HP⟩
instance fi123_1:FI prog 123 1 1 3:=⟨HO⟩
instance fi123_2:FI prog 123 2 2 3:=⟨HN⟩
instance fi124_0:FI prog 124 0 0 3:=⟨HM⟩
instance fi124_1:FI prog 124 1 1 3:=⟨HL⟩
instance fi124_2:FI prog 124 2 2 3:=⟨HK⟩
instance fi146_0:FI prog 146 0 0 144:=⟨HJ⟩
instance fi146_1:FI prog 146 1 1 145:=⟨HI⟩
instance fi147_0:FI prog 147 0 0 144:=⟨HH⟩
instance fi147_1:FI prog 147 1 1 145:=⟨HG⟩
instance fi163_0:FI prog 163 0 0 24:=⟨HF⟩
instance fi163_1:FI prog 163 1 3 71:=⟨HE⟩
instance fi163_2:FI prog 163 2 4 41:=⟨HD⟩
instance fi164_0:FI prog 164 0 0 24:=⟨HC⟩
instance fi164_1:FI prog 164 1 3 71:=⟨HB⟩
instance fi164_2:FI prog 164 2 4 41:=⟨HA⟩
instance fi169_0:FI prog 169 0 0 71:=⟨Hz⟩
instance fi169_1:FI prog 169 1 1 71:=⟨Hy⟩
instance fi169_2:FI prog 169 2 2 74:=⟨Hx⟩
instance fi169_3:FI prog 169 3 3 167:=⟨Hw⟩
instance fi169_4:FI prog 169 4 4 168:=⟨Hv⟩
instance fi170_0:FI prog 170 0 0 71:=⟨Hu⟩
instance fi170_1:FI prog 170 1 1 71:=⟨Ht⟩
instance fi170_2:FI prog 170 2 2 74:=⟨Hs⟩
instance fi170_3:FI prog 170 3 3 167:=⟨Hr⟩
instance fi170_4:FI prog 170 4 4 168:=⟨Hq⟩
instance fi202_0:FI prog 202 0 0 5:=⟨Hp⟩
instance fi202_1:FI prog 202 1 1 5:=⟨Ho⟩
instance fi203_0:FI prog 203 0 0 5:=⟨Hn⟩
instance fi203_1:FI prog 203 1 1 5:=⟨Hm⟩
instance fi208_0:FI prog 208 0 0 17:=⟨Hl⟩
instance fi208_1:FI prog 208 1 1 17:=⟨Hk⟩
instance fi208_2:FI prog 208 2 2 17:=⟨Hi⟩
instance fi208_3:FI prog 208 3 3 9:=⟨Hh⟩
instance fi209_0:FI prog 209 0 0 17:=⟨Hg⟩
instance fi209_1:FI prog 209 1 1 17:=⟨Hf⟩
instance fi209_2:FI prog 209 2 2 17:=⟨He⟩
instance fi209_3:FI prog 209 3 3 9:=⟨Hd⟩
instance fi219_0:FI prog 219 0 0 12:=⟨Hc⟩
instance fi219_1:FI prog 219 1 1 12:=⟨Hb⟩
instance fi219_2:FI prog 219 2 2 33:=⟨Ha⟩
instance fi219_3:FI prog 219 3 3 214:=⟨G_⟩
instance fi219_4:FI prog 219 4 4 5:=⟨G9⟩
instance fi219_5:FI prog 219 5 5 5:=⟨G8⟩
instance fi219_6:FI prog 219 6 6 215:=⟨G7⟩
instance fi219_7:FI prog 219 7 7 216:=⟨G6⟩
instance fi219_8:FI prog 219 8 8 187:=⟨GZ⟩
instance fi219_9:FI prog 219 9 9 217:=⟨GY⟩
instance fi219_10:FI prog 219 10 10 218:=⟨Fe⟩
instance fi220_0:FI prog 220 0 0 12:=⟨GX⟩
instance fi220_1:FI prog 220 1 1 12:=⟨GW⟩
instance fi220_2:FI prog 220 2 2 33:=⟨GV⟩
instance fi220_3:FI prog 220 3 3 214:=⟨GU⟩
instance fi220_4:FI prog 220 4 4 5:=⟨GT⟩
instance fi220_5:FI prog 220 5 5 5:=⟨GS⟩
instance fi220_6:FI prog 220 6 6 215:=⟨GR⟩
instance fi220_7:FI prog 220 7 7 216:=⟨GQ⟩
instance fi220_8:FI prog 220 8 8 187:=⟨GP⟩
instance fi220_9:FI prog 220 9 9 217:=⟨GO⟩
instance fi220_10:FI prog 220 10 10 218:=⟨Fd⟩
instance ceeNode {r:GNode} {n:Nat} {v:AV} [h:CellI (.agg [.int .i64 r.F,.int .i64 r.K,eL (AV.int .i64) r.M]) n v]:CellI (cw r) n v:=⟨h.e⟩
instance steNode {r:GNode} {n:Nat} {w v:AV} [h:StI (.agg [.int .i64 r.F,.int .i64 r.K,eL (AV.int .i64) r.M]) n w v]:StI (cw r) n w v:=⟨h.e⟩
instance ceeFormula {r:GFormula} {n:Nat} {v:AV} [h:CellI (.agg [.int .i64 r.A,eL cw r.N,.int .i64 r.Z]) n v]:CellI (aI r) n v:=⟨h.e⟩
instance steFormula {r:GFormula} {n:Nat} {w v:AV} [h:StI (.agg [.int .i64 r.A,eL cw r.N,.int .i64 r.Z]) n w v]:StI (aI r) n w v:=⟨h.e⟩
instance ceeRat {r:GRat} {n:Nat} {v:AV} [h:CellI (.agg [.bool r.U,eL (AV.int .u32) r.L,eL (AV.int .u32) r.W]) n v]:CellI (af r) n v:=⟨h.e⟩
instance steRat {r:GRat} {n:Nat} {w v:AV} [h:StI (.agg [.bool r.U,eL (AV.int .u32) r.L,eL (AV.int .u32) r.W]) n w v]:StI (af r) n w v:=⟨h.e⟩
instance ceeMove {r:GMove} {n:Nat} {v:AV} [h:CellI (.agg [.int .i64 r.D,.int .i64 r.To,.bool r.X.U,eL (AV.int .u32) r.X.L,eL (AV.int .u32) r.X.W]) n v]:CellI (cU r) n v:=⟨h.e⟩
instance steMove {r:GMove} {n:Nat} {w v:AV} [h:StI (.agg [.int .i64 r.D,.int .i64 r.To,.bool r.X.U,eL (AV.int .u32) r.X.L,eL (AV.int .u32) r.X.W]) n w v]:StI (cU r) n w v:=⟨h.e⟩
instance ceeChain {r:GChain} {n:Nat} {v:AV} [h:CellI (.agg [.int .i64 r.H,.int .i64 r.O,eL cU r.V,eL AV.bool r.B]) n v]:CellI (bp r) n v:=⟨h.e⟩
instance steChain {r:GChain} {n:Nat} {w v:AV} [h:StI (.agg [.int .i64 r.H,.int .i64 r.O,eL cU r.V,eL AV.bool r.B]) n w v]:StI (bp r) n w v:=⟨h.e⟩
instance ceeDNode {r:GDNode} {n:Nat} {v:AV} [h:CellI (.agg [.int .i64 r.Y,.int .i64 r.E,.int .i64 r.I]) n v]:CellI (aG r) n v:=⟨h.e⟩
instance steDNode {r:GDNode} {n:Nat} {w v:AV} [h:StI (.agg [.int .i64 r.Y,.int .i64 r.E,.int .i64 r.I]) n w v]:StI (aG r) n w v:=⟨h.e⟩
instance ceeDiagram {r:GDiagram} {n:Nat} {v:AV} [h:CellI (.agg [eL (AV.int .i64) r.T,eL aG r.N,.int .i64 r.G]) n v]:CellI (kD r) n v:=⟨h.e⟩
instance steDiagram {r:GDiagram} {n:Nat} {w v:AV} [h:StI (.agg [eL (AV.int .i64) r.T,eL aG r.N,.int .i64 r.G]) n w v]:StI (kD r) n w v:=⟨h.e⟩
instance ceewalk {r:Gwalk} {n:Nat} {v:AV} [h:CellI (.agg [.int .i64 r.J.A,eL cw r.J.N,.int .i64 r.J.Z,eL (AV.int .i64) r.events,eL AV.bool r.seen]) n v]:CellI (Ob r) n v:=⟨h.e⟩
instance stewalk {r:Gwalk} {n:Nat} {w v:AV} [h:StI (.agg [.int .i64 r.J.A,eL cw r.J.N,.int .i64 r.J.Z,eL (AV.int .i64) r.events,eL AV.bool r.seen]) n w v]:StI (Ob r) n w v:=⟨h.e⟩
end Go.Proofs.YtcmagbhiioheeaaGreatDoor
