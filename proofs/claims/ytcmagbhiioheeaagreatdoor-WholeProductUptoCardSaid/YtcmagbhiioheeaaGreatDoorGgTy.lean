/- The types' table of this seat, as equations for the formulas. Conditions: none. -/
import Derived.Test.YtcmagbhiioheeaaGreatDoorGj
import Derived.Test.YtcmagbhiioheeaaGreatDoorWa
import Derived.Test.YtcmagbhiioheeaaGreatDoorProg
import Derived.KernelRfl
namespace Go.Proofs.YtcmagbhiioheeaaGreatDoor
open Go.Gg Tryz
theorem kR {P:Prop} (h:P:=by kernel_rfl):P:=h
theorem mixed:prog.follows .mixedOrders=true:=kR
theorem td1:td prog 1 = .func:=kR
theorem sz1:sz prog 1=1:=kR
theorem acr:bts prog 1=8:=kR
theorem ag1:ae prog 1=false:=kR
theorem U':zav prog 1 = .nilf:=kR
theorem ok1:aA prog 1=true:=kR
theorem td2:td prog 2 = .int .i64:=kR
theorem sz2:sz prog 2=1:=kR
theorem acq:bts prog 2=8:=kR
theorem ag2:ae prog 2=false:=kR
theorem U9:zav prog 2 = .int .i64 (0):=kR
theorem ok2:aA prog 2=true:=kR
theorem td3:td prog 3 = .int .i64:=kR
theorem sz3:sz prog 3=1:=kR
theorem oS:bts prog 3=8:=kR
theorem ag3:ae prog 3=false:=kR
theorem gC:zav prog 3 = .int .i64 (0):=kR
theorem ok3:aA prog 3=true:=kR
theorem td4:td prog 4 = .bool:=kR
theorem sz4:sz prog 4=1:=kR
theorem wC:bts prog 4=1:=kR
theorem ag4:ae prog 4=false:=kR
theorem pt:zav prog 4 = .bool false:=kR
theorem ok4:aA prog 4=true:=kR
theorem td5:td prog 5 = .int .u8:=kR
theorem sz5:sz prog 5=1:=kR
theorem acp:bts prog 5=1:=kR
theorem ag5:ae prog 5=false:=kR
theorem U8:zav prog 5 = .int .u8 (0):=kR
theorem ok5:aA prog 5=true:=kR
theorem td6:td prog 6 = .int .u8:=kR
theorem sz6:sz prog 6=1:=kR
theorem aco:bts prog 6=1:=kR
theorem ag6:ae prog 6=false:=kR
theorem U7:zav prog 6 = .int .u8 (0):=kR
theorem ok6:aA prog 6=true:=kR
theorem td7:td prog 7 = .struct [(0,2),(1,3),(2,4),(3,6)]:=kR
theorem sz7:sz prog 7=4:=kR
theorem acn:bts prog 7=24:=kR
theorem ag7:ae prog 7=true:=kR
theorem YU:FA prog 7 0 0 2:=⟨_,td7,rfl,rfl,by rw[sz2];decide⟩
theorem YT:FA prog 7 1 1 3:=⟨_,td7,rfl,rfl,by rw[sz3];decide⟩
theorem YS:FA prog 7 2 2 4:=⟨_,td7,rfl,rfl,by rw[sz4];decide⟩
theorem YR:FA prog 7 3 3 6:=⟨_,td7,rfl,rfl,by rw[sz6];decide⟩
theorem U6:zav prog 7 = .agg [.int .i64 (0),.int .i64 (0),.bool false,.int .u8 (0)]:=kR
theorem ok7:aA prog 7=true:=kR
theorem td8:td prog 8 = .struct [(0,2),(1,3),(2,4),(3,6)]:=kR
theorem sz8:sz prog 8=4:=kR
theorem acm:bts prog 8=24:=kR
theorem ag8:ae prog 8=true:=kR
theorem YQ:FA prog 8 0 0 2:=⟨_,td8,rfl,rfl,by rw[sz2];decide⟩
theorem YP:FA prog 8 1 1 3:=⟨_,td8,rfl,rfl,by rw[sz3];decide⟩
theorem YO:FA prog 8 2 2 4:=⟨_,td8,rfl,rfl,by rw[sz4];decide⟩
theorem YN:FA prog 8 3 3 6:=⟨_,td8,rfl,rfl,by rw[sz6];decide⟩
theorem U5:zav prog 8 = .agg [.int .i64 (0),.int .i64 (0),.bool false,.int .u8 (0)]:=kR
theorem ok8:aA prog 8=true:=kR
theorem td9:td prog 9 = .str:=kR
theorem sz9:sz prog 9=1:=kR
theorem acl:bts prog 9=16:=kR
theorem ag9:ae prog 9=false:=kR
theorem V':td prog 10 = .str:=kR
theorem Xh:sz prog 10=1:=kR
theorem aac:bts prog 10=16:=kR
theorem abr:ae prog 10=false:=kR
theorem V9:td prog 11 = .str:=kR
theorem Xg:sz prog 11=1:=kR
theorem aab:bts prog 11=16:=kR
theorem abq:ae prog 11=false:=kR
theorem V8:td prog 12 = .int .u64:=kR
theorem yV:sz prog 12=1:=kR
theorem aaa:bts prog 12=8:=kR
theorem abp:ae prog 12=false:=kR
theorem KD:zav prog 12 = .int .u64 (0):=kR
theorem Yz:aA prog 12=true:=kR
theorem Ho:td prog 13 = .struct [(0,9),(1,12)]:=kR
theorem Xf:sz prog 13=2:=kR
theorem Z_:bts prog 13=24:=kR
theorem abo:ae prog 13=true:=kR
theorem SX:FA prog 13 0 0 9:=⟨_,Ho,rfl,rfl,by rw[sz9];decide⟩
theorem SW:FA prog 13 1 1 12:=⟨_,Ho,rfl,rfl,by rw[yV];decide⟩
theorem Hn:td prog 14 = .struct [(0,9),(1,12)]:=kR
theorem Xe:sz prog 14=2:=kR
theorem Z':bts prog 14=24:=kR
theorem abn:ae prog 14=true:=kR
theorem SV:FA prog 14 0 0 9:=⟨_,Hn,rfl,rfl,by rw[sz9];decide⟩
theorem SU:FA prog 14 1 1 12:=⟨_,Hn,rfl,rfl,by rw[yV];decide⟩
theorem V7:td prog 15 = .ptr:=kR
theorem Xd:sz prog 15=1:=kR
theorem Z9:bts prog 15=8:=kR
theorem abm:ae prog 15=false:=kR
theorem KC:zav prog 15 = .nilp:=kR
theorem Yy:aA prog 15=true:=kR
theorem V6:td prog 16 = .ptr:=kR
theorem Xc:sz prog 16=1:=kR
theorem Z8:bts prog 16=8:=kR
theorem abl:ae prog 16=false:=kR
theorem KB:zav prog 16 = .nilp:=kR
theorem Yx:aA prog 16=true:=kR
theorem V5:td prog 17 = .ptr:=kR
theorem wh:sz prog 17=1:=kR
theorem Z7:bts prog 17=8:=kR
theorem abk:ae prog 17=false:=kR
theorem Kz:zav prog 17 = .nilp:=kR
theorem Yw:aA prog 17=true:=kR
theorem Rt:td prog 18 = .struct [(0,17)]:=kR
theorem Xb:sz prog 18=1:=kR
theorem Z6:bts prog 18=8:=kR
theorem abj:ae prog 18=true:=kR
theorem ST:FA prog 18 0 0 17:=⟨_,Rt,rfl,rfl,by rw[wh];decide⟩
theorem Ky:zav prog 18 = .agg [.nilp]:=kR
theorem Yv:aA prog 18=true:=kR
theorem Rs:td prog 19 = .struct [(0,17)]:=kR
theorem Xa:sz prog 19=1:=kR
theorem Z5:bts prog 19=8:=kR
theorem abh:ae prog 19=true:=kR
theorem SS:FA prog 19 0 0 17:=⟨_,Rs,rfl,rfl,by rw[wh];decide⟩
theorem Kx:zav prog 19 = .agg [.nilp]:=kR
theorem Yu:aA prog 19=true:=kR
theorem V4:td prog 20 = .iface:=kR
theorem W_:sz prog 20=1:=kR
theorem Z4:bts prog 20=16:=kR
theorem abg:ae prog 20=false:=kR
theorem Kw:zav prog 20 = .niface:=kR
theorem Yt:aA prog 20=true:=kR
theorem V3:td prog 21 = .int .i32:=kR
theorem W9:sz prog 21=1:=kR
theorem Z3:bts prog 21=4:=kR
theorem abf:ae prog 21=false:=kR
theorem Kv:zav prog 21 = .int .i32 (0):=kR
theorem Ys:aA prog 21=true:=kR
theorem Ft:td prog 22 = .slice 96:=kR
theorem Hr:sz prog 22=1:=kR
theorem Z2:bts prog 22=24:=kR
theorem abe:ae prog 22=false:=kR
theorem Ku:zav prog 22 = .nil:=kR
theorem Yr:aA prog 22=true:=kR
theorem Fs:td prog 23 = .struct [(0,3),(1,22),(2,3)]:=kR
theorem W8:sz prog 23=3:=kR
theorem Z1:bts prog 23=40:=kR
theorem abd:ae prog 23=true:=kR
theorem SR:FA prog 23 0 0 3:=⟨_,Fs,rfl,rfl,by rw[sz3];decide⟩
theorem SQ:FA prog 23 1 1 22:=⟨_,Fs,rfl,rfl,by rw[Hr];decide⟩
theorem SP:FA prog 23 2 2 3:=⟨_,Fs,rfl,rfl,by rw[sz3];decide⟩
theorem Ks:zav prog 23 = .agg [.int .i64 (0),.nil,.int .i64 (0)]:=kR
theorem Yq:aA prog 23=true:=kR
theorem Ax:td prog 24 = .struct [(0,3),(1,22),(2,3)]:=kR
theorem xH:sz prog 24=3:=kR
theorem Z0:bts prog 24=40:=kR
theorem G6:ae prog 24=true:=kR
theorem SO:FA prog 24 0 0 3:=⟨_,Ax,rfl,rfl,by rw[sz3];decide⟩
theorem SN:FA prog 24 1 1 22:=⟨_,Ax,rfl,rfl,by rw[Hr];decide⟩
theorem SL:FA prog 24 2 2 3:=⟨_,Ax,rfl,rfl,by rw[sz3];decide⟩
theorem Bh:zav prog 24 = .agg [.int .i64 (0),.nil,.int .i64 (0)]:=kR
theorem Yp:aA prog 24=true:=kR
theorem PD:(aA prog 24 && fA (zav prog 24) && List.all [(0,3),(1,22),(2,3)] (λf=>decide (0<sz prog f.2)))=true:=kR
theorem L8:List.map (λ(f:Nat×TypeId)=>sz prog f.2) [(0,3),(1,22),(2,3)]=[1,1,1]:=kR
theorem df:td prog 25 = .slice 30:=kR
theorem dh:sz prog 25=1:=kR
theorem Co:bts prog 25=24:=kR
theorem jR:ae prog 25=false:=kR
theorem yD:zav prog 25 = .nil:=kR
theorem F5:aA prog 25=true:=kR
theorem VZ:td prog 26 = .func:=kR
theorem W7:sz prog 26=1:=kR
theorem ZZ:bts prog 26=8:=kR
theorem abc:ae prog 26=false:=kR
theorem Kr:zav prog 26 = .nilf:=kR
theorem Yo:aA prog 26=true:=kR
theorem VY:td prog 27 = .func:=kR
theorem W6:sz prog 27=1:=kR
theorem ZY:bts prog 27=8:=kR
theorem abb:ae prog 27=false:=kR
theorem Kq:zav prog 27 = .nilf:=kR
theorem Yn:aA prog 27=true:=kR
theorem dz:td prog 28 = .slice 33:=kR
theorem CC:sz prog 28=1:=kR
theorem ZX:bts prog 28=24:=kR
theorem aba:ae prog 28=false:=kR
theorem Kp:zav prog 28 = .nil:=kR
theorem Ym:aA prog 28=true:=kR
theorem Fq:td prog 29 = .struct [(0,4),(1,28),(2,28)]:=kR
theorem W5:sz prog 29=3:=kR
theorem ZW:bts prog 29=56:=kR
theorem aa9:ae prog 29=true:=kR
theorem SK:FA prog 29 0 0 4:=⟨_,Fq,rfl,rfl,by rw[sz4];decide⟩
theorem SJ:FA prog 29 1 1 28:=⟨_,Fq,rfl,rfl,by rw[CC];decide⟩
theorem SI:FA prog 29 2 2 28:=⟨_,Fq,rfl,rfl,by rw[CC];decide⟩
theorem Ko:zav prog 29 = .agg [.bool false,.nil,.nil]:=kR
theorem Yl:aA prog 29=true:=kR
theorem mg:td prog 30 = .struct [(0,4),(1,28),(2,28)]:=kR
theorem bf:sz prog 30=3:=kR
theorem iM:bts prog 30=56:=kR
theorem dT:ae prog 30=true:=kR
theorem SH:FA prog 30 0 0 4:=⟨_,mg,rfl,rfl,by rw[sz4];decide⟩
theorem SG:FA prog 30 1 1 28:=⟨_,mg,rfl,rfl,by rw[CC];decide⟩
theorem SF:FA prog 30 2 2 28:=⟨_,mg,rfl,rfl,by rw[CC];decide⟩
theorem cx:zav prog 30 = .agg [.bool false,.nil,.nil]:=kR
theorem iT:aA prog 30=true:=kR
theorem kw:(aA prog 30 && fA (zav prog 30) && List.all [(0,4),(1,28),(2,28)] (λf=>decide (0<sz prog f.2)))=true:=kR
theorem kp:List.map (λ(f:Nat×TypeId)=>sz prog f.2) [(0,4),(1,28),(2,28)]=[1,1,1]:=kR
theorem VX:td prog 31 = .func:=kR
theorem W4:sz prog 31=1:=kR
theorem ZV:bts prog 31=8:=kR
theorem aa8:ae prog 31=false:=kR
theorem Kn:zav prog 31 = .nilf:=kR
theorem Yk:aA prog 31=true:=kR
theorem VV:td prog 32 = .func:=kR
theorem W3:sz prog 32=1:=kR
theorem ZU:bts prog 32=8:=kR
theorem aa7:ae prog 32=false:=kR
theorem Km:zav prog 32 = .nilf:=kR
theorem Yj:aA prog 32=true:=kR
theorem VU:td prog 33 = .int .u32:=kR
theorem kT:sz prog 33=1:=kR
theorem iL:bts prog 33=4:=kR
theorem aa6:ae prog 33=false:=kR
theorem dG:zav prog 33 = .int .u32 (0):=kR
theorem gN:aA prog 33=true:=kR
theorem VT:td prog 34 = .iface:=kR
theorem W2:sz prog 34=1:=kR
theorem ZT:bts prog 34=16:=kR
theorem aa5:ae prog 34=false:=kR
theorem Kl:zav prog 34 = .niface:=kR
theorem Yi:aA prog 34=true:=kR
theorem VS:td prog 35 = .iface:=kR
theorem W1:sz prog 35=1:=kR
theorem ZS:bts prog 35=16:=kR
theorem aa4:ae prog 35=false:=kR
theorem Kk:zav prog 35 = .niface:=kR
theorem Yh:aA prog 35=true:=kR
theorem VQ:td prog 37 = .func:=kR
theorem W0:sz prog 37=1:=kR
theorem ZR:bts prog 37=8:=kR
theorem aa3:ae prog 37=false:=kR
theorem Kj:zav prog 37 = .nilf:=kR
theorem Yg:aA prog 37=true:=kR
theorem VP:td prog 38 = .func:=kR
theorem WZ:sz prog 38=1:=kR
theorem ZQ:bts prog 38=8:=kR
theorem aa2:ae prog 38=false:=kR
theorem Ki:zav prog 38 = .nilf:=kR
theorem Yf:aA prog 38=true:=kR
theorem Rr:td prog 39 = .int .i64:=kR
theorem WY:sz prog 39=1:=kR
theorem ZP:bts prog 39=8:=kR
theorem aa1:ae prog 39=false:=kR
theorem Dt:zav prog 39 = .int .i64 (0):=kR
theorem RP:aA prog 39=true:=kR
theorem yL:td prog 40 = .slice 68:=kR
theorem Hq:sz prog 40=1:=kR
theorem ZO:bts prog 40=24:=kR
theorem aa0:ae prog 40=false:=kR
theorem Kh:zav prog 40 = .nil:=kR
theorem Ye:aA prog 40=true:=kR
theorem mf:td prog 41 = .slice 4:=kR
theorem CB:sz prog 41=1:=kR
theorem PC:bts prog 41=24:=kR
theorem aaZ:ae prog 41=false:=kR
theorem Bg:zav prog 41 = .nil:=kR
theorem HP:aA prog 41=true:=kR
theorem Cy:td prog 42 = .struct [(0,3),(1,3),(2,40),(3,41)]:=kR
theorem WX:sz prog 42=4:=kR
theorem ZN:bts prog 42=64:=kR
theorem aaY:ae prog 42=true:=kR
theorem SE:FA prog 42 0 0 3:=⟨_,Cy,rfl,rfl,by rw[sz3];decide⟩
theorem SD:FA prog 42 1 1 3:=⟨_,Cy,rfl,rfl,by rw[sz3];decide⟩
theorem SC:FA prog 42 2 2 40:=⟨_,Cy,rfl,rfl,by rw[Hq];decide⟩
theorem SB:FA prog 42 3 3 41:=⟨_,Cy,rfl,rfl,by rw[CB];decide⟩
theorem Kg:zav prog 42 = .agg [.int .i64 (0),.int .i64 (0),.nil,.nil]:=kR
theorem Yd:aA prog 42=true:=kR
theorem tf:td prog 43 = .struct [(0,3),(1,3),(2,40),(3,41)]:=kR
theorem pX:sz prog 43=4:=kR
theorem ZM:bts prog 43=64:=kR
theorem yu:ae prog 43=true:=kR
theorem SA:FA prog 43 0 0 3:=⟨_,tf,rfl,rfl,by rw[sz3];decide⟩
theorem Sz:FA prog 43 1 1 3:=⟨_,tf,rfl,rfl,by rw[sz3];decide⟩
theorem Sy:FA prog 43 2 2 40:=⟨_,tf,rfl,rfl,by rw[Hq];decide⟩
theorem Sx:FA prog 43 3 3 41:=⟨_,tf,rfl,rfl,by rw[CB];decide⟩
theorem sG:zav prog 43 = .agg [.int .i64 (0),.int .i64 (0),.nil,.nil]:=kR
theorem Yc:aA prog 43=true:=kR
theorem xo:(aA prog 43 && fA (zav prog 43) && List.all [(0,3),(1,3),(2,40),(3,41)] (λf=>decide (0<sz prog f.2)))=true:=kR
theorem wJ:List.map (λ(f:Nat×TypeId)=>sz prog f.2) [(0,3),(1,3),(2,40),(3,41)]=[1,1,1,1]:=kR
theorem VO:td prog 45 = .func:=kR
theorem WW:sz prog 45=1:=kR
theorem ZL:bts prog 45=8:=kR
theorem aaX:ae prog 45=false:=kR
theorem Kf:zav prog 45 = .nilf:=kR
theorem Yb:aA prog 45=true:=kR
theorem VN:td prog 47 = .func:=kR
theorem WV:sz prog 47=1:=kR
theorem ZK:bts prog 47=8:=kR
theorem aaW:ae prog 47=false:=kR
theorem Ke:zav prog 47 = .nilf:=kR
theorem Ya:aA prog 47=true:=kR
theorem VM:td prog 48 = .func:=kR
theorem WU:sz prog 48=1:=kR
theorem ZJ:bts prog 48=8:=kR
theorem aaV:ae prog 48=false:=kR
theorem Kd:zav prog 48 = .nilf:=kR
theorem X_:aA prog 48=true:=kR
theorem VL:td prog 49 = .func:=kR
theorem WS:sz prog 49=1:=kR
theorem ZH:bts prog 49=8:=kR
theorem aaU:ae prog 49=false:=kR
theorem Kb:zav prog 49 = .nilf:=kR
theorem X9:aA prog 49=true:=kR
theorem VK:td prog 51 = .func:=kR
theorem WR:sz prog 51=1:=kR
theorem ZG:bts prog 51=8:=kR
theorem aaT:ae prog 51=false:=kR
theorem Ka:zav prog 51 = .nilf:=kR
theorem X8:aA prog 51=true:=kR
theorem VJ:td prog 52 = .func:=kR
theorem WQ:sz prog 52=1:=kR
theorem ZF:bts prog 52=8:=kR
theorem aaS:ae prog 52=false:=kR
theorem J_:zav prog 52 = .nilf:=kR
theorem X7:aA prog 52=true:=kR
theorem VH:td prog 53 = .func:=kR
theorem WP:sz prog 53=1:=kR
theorem ZE:bts prog 53=8:=kR
theorem aaR:ae prog 53=false:=kR
theorem J':zav prog 53 = .nilf:=kR
theorem X6:aA prog 53=true:=kR
theorem VG:td prog 54 = .func:=kR
theorem WO:sz prog 54=1:=kR
theorem ZD:bts prog 54=8:=kR
theorem aaQ:ae prog 54=false:=kR
theorem J9:zav prog 54 = .nilf:=kR
theorem X5:aA prog 54=true:=kR
theorem VF:td prog 55 = .func:=kR
theorem WN:sz prog 55=1:=kR
theorem ZC:bts prog 55=8:=kR
theorem aaP:ae prog 55=false:=kR
theorem J8:zav prog 55 = .nilf:=kR
theorem X4:aA prog 55=true:=kR
theorem VE:td prog 56 = .func:=kR
theorem WM:sz prog 56=1:=kR
theorem ZB:bts prog 56=8:=kR
theorem aaO:ae prog 56=false:=kR
theorem J7:zav prog 56 = .nilf:=kR
theorem X3:aA prog 56=true:=kR
theorem VC:td prog 57 = .func:=kR
theorem WL:sz prog 57=1:=kR
theorem ZA:bts prog 57=8:=kR
theorem aaN:ae prog 57=false:=kR
theorem J6:zav prog 57 = .nilf:=kR
theorem X2:aA prog 57=true:=kR
theorem VB:td prog 58 = .func:=kR
theorem WK:sz prog 58=1:=kR
theorem Zz:bts prog 58=8:=kR
theorem aaM:ae prog 58=false:=kR
theorem J5:zav prog 58 = .nilf:=kR
theorem X1:aA prog 58=true:=kR
theorem VA:td prog 59 = .func:=kR
theorem WJ:sz prog 59=1:=kR
theorem Zy:bts prog 59=8:=kR
theorem aaL:ae prog 59=false:=kR
theorem J4:zav prog 59 = .nilf:=kR
theorem X0:aA prog 59=true:=kR
theorem Vz:td prog 61 = .func:=kR
theorem WI:sz prog 61=1:=kR
theorem Zx:bts prog 61=8:=kR
theorem aaK:ae prog 61=false:=kR
theorem J3:zav prog 61 = .nilf:=kR
theorem XZ:aA prog 61=true:=kR
theorem Vy:td prog 62 = .func:=kR
theorem WH:sz prog 62=1:=kR
theorem Zw:bts prog 62=8:=kR
theorem aaJ:ae prog 62=false:=kR
theorem J2:zav prog 62 = .nilf:=kR
theorem XY:aA prog 62=true:=kR
theorem Vx:td prog 64 = .func:=kR
theorem WG:sz prog 64=1:=kR
theorem Zv:bts prog 64=8:=kR
theorem aaI:ae prog 64=false:=kR
theorem J1:zav prog 64 = .nilf:=kR
theorem XX:aA prog 64=true:=kR
theorem Vw:td prog 65 = .func:=kR
theorem WF:sz prog 65=1:=kR
theorem Zu:bts prog 65=8:=kR
theorem aaH:ae prog 65=false:=kR
theorem J0:zav prog 65 = .nilf:=kR
theorem XW:aA prog 65=true:=kR
theorem Vv:td prog 66 = .func:=kR
theorem WD:sz prog 66=1:=kR
theorem Zt:bts prog 66=8:=kR
theorem aaG:ae prog 66=false:=kR
theorem JZ:zav prog 66 = .nilf:=kR
theorem XV:aA prog 66=true:=kR
theorem Fp:td prog 67 = .struct [(0,3),(1,3),(2,30)]:=kR
theorem WC:sz prog 67=5:=kR
theorem Zs:bts prog 67=72:=kR
theorem aaF:ae prog 67=true:=kR
theorem Sw:FA prog 67 0 0 3:=⟨_,Fp,rfl,rfl,by rw[sz3];decide⟩
theorem Sv:FA prog 67 1 1 3:=⟨_,Fp,rfl,rfl,by rw[sz3];decide⟩
theorem Su:FA prog 67 2 2 30:=⟨_,Fp,rfl,rfl,by rw[bf];decide⟩
theorem JY:zav prog 67 = .agg [.int .i64 (0),.int .i64 (0),.bool false,.nil,.nil]:=kR
theorem XU:aA prog 67=true:=kR
theorem xE:td prog 68 = .struct [(0,3),(1,3),(2,30)]:=kR
theorem Ay:sz prog 68=5:=kR
theorem GS:bts prog 68=72:=kR
theorem aaE:ae prog 68=true:=kR
theorem Ss:FA prog 68 0 0 3:=⟨_,xE,rfl,rfl,by rw[sz3];decide⟩
theorem Sr:FA prog 68 1 1 3:=⟨_,xE,rfl,rfl,by rw[sz3];decide⟩
theorem so:FA prog 68 2 2 30:=⟨_,xE,rfl,rfl,by rw[bf];decide⟩
theorem oh:zav prog 68 = .agg [.int .i64 (0),.int .i64 (0),.bool false,.nil,.nil]:=kR
theorem AN:aA prog 68=true:=kR
theorem Cq:(aA prog 68 && fA (zav prog 68) && List.all [(0,3),(1,3),(2,30)] (λf=>decide (0<sz prog f.2)))=true:=kR
theorem Bu:List.map (λ(f:Nat×TypeId)=>sz prog f.2) [(0,3),(1,3),(2,30)]=[1,1,3]:=kR
theorem Vu:td prog 69 = .func:=kR
theorem WB:sz prog 69=1:=kR
theorem Zr:bts prog 69=8:=kR
theorem aaD:ae prog 69=false:=kR
theorem JX:zav prog 69 = .nilf:=kR
theorem XT:aA prog 69=true:=kR
theorem Vt:td prog 70 = .func:=kR
theorem WA:sz prog 70=1:=kR
theorem Zq:bts prog 70=8:=kR
theorem aaC:ae prog 70=false:=kR
theorem JW:zav prog 70 = .nilf:=kR
theorem XS:aA prog 70=true:=kR
theorem ge:td prog 71 = .slice 3:=kR
theorem ov:sz prog 71=1:=kR
theorem GR:bts prog 71=24:=kR
theorem Jr:ae prog 71=false:=kR
theorem yC:zav prog 71 = .nil:=kR
theorem F4:aA prog 71=true:=kR
theorem Vs:td prog 73 = .func:=kR
theorem Wz:sz prog 73=1:=kR
theorem Zp:bts prog 73=8:=kR
theorem aaB:ae prog 73=false:=kR
theorem JV:zav prog 73 = .nilf:=kR
theorem XR:aA prog 73=true:=kR
theorem xD:td prog 74 = .slice 124:=kR
theorem CA:sz prog 74=1:=kR
theorem Zo:bts prog 74=24:=kR
theorem aaA:ae prog 74=false:=kR
theorem JU:zav prog 74 = .nil:=kR
theorem XQ:aA prog 74=true:=kR
theorem Fo:td prog 75 = .struct [(0,71),(1,74),(2,3)]:=kR
theorem Wy:sz prog 75=3:=kR
theorem Zn:bts prog 75=56:=kR
theorem aaz:ae prog 75=true:=kR
theorem Sq:FA prog 75 0 0 71:=⟨_,Fo,rfl,rfl,by rw[ov];decide⟩
theorem Sp:FA prog 75 1 1 74:=⟨_,Fo,rfl,rfl,by rw[CA];decide⟩
theorem So:FA prog 75 2 2 3:=⟨_,Fo,rfl,rfl,by rw[sz3];decide⟩
theorem JT:zav prog 75 = .agg [.nil,.nil,.int .i64 (0)]:=kR
theorem XP:aA prog 75=true:=kR
theorem wg:td prog 76 = .struct [(0,71),(1,74),(2,3)]:=kR
theorem qH:sz prog 76=3:=kR
theorem Zm:bts prog 76=56:=kR
theorem yt:ae prog 76=true:=kR
theorem Sn:FA prog 76 0 0 71:=⟨_,wg,rfl,rfl,by rw[ov];decide⟩
theorem Sm:FA prog 76 1 1 74:=⟨_,wg,rfl,rfl,by rw[CA];decide⟩
theorem Sl:FA prog 76 2 2 3:=⟨_,wg,rfl,rfl,by rw[sz3];decide⟩
theorem tX:zav prog 76 = .agg [.nil,.nil,.int .i64 (0)]:=kR
theorem XO:aA prog 76=true:=kR
theorem Ad:(aA prog 76 && fA (zav prog 76) && List.all [(0,71),(1,74),(2,3)] (λf=>decide (0<sz prog f.2)))=true:=kR
theorem yQ:List.map (λ(f:Nat×TypeId)=>sz prog f.2) [(0,71),(1,74),(2,3)]=[1,1,1]:=kR
theorem Vq:td prog 78 = .func:=kR
theorem Wx:sz prog 78=1:=kR
theorem Zl:bts prog 78=8:=kR
theorem aay:ae prog 78=false:=kR
theorem JS:zav prog 78 = .nilf:=kR
theorem XN:aA prog 78=true:=kR
theorem Vp:td prog 79 = .func:=kR
theorem Ww:sz prog 79=1:=kR
theorem Zk:bts prog 79=8:=kR
theorem aax:ae prog 79=false:=kR
theorem JR:zav prog 79 = .nilf:=kR
theorem XM:aA prog 79=true:=kR
theorem Vo:td prog 80 = .func:=kR
theorem Wv:sz prog 80=1:=kR
theorem Zj:bts prog 80=8:=kR
theorem aaw:ae prog 80=false:=kR
theorem JQ:zav prog 80 = .nilf:=kR
theorem XL:aA prog 80=true:=kR
theorem Vn:td prog 81 = .func:=kR
theorem Wu:sz prog 81=1:=kR
theorem Zi:bts prog 81=8:=kR
theorem aav:ae prog 81=false:=kR
theorem JP:zav prog 81 = .nilf:=kR
theorem XK:aA prog 81=true:=kR
theorem Aw:td prog 82 = .slice 71:=kR
theorem Wt:sz prog 82=1:=kR
theorem Zh:bts prog 82=24:=kR
theorem aau:ae prog 82=false:=kR
theorem JO:zav prog 82 = .nil:=kR
theorem XJ:aA prog 82=true:=kR
theorem Vm:td prog 83 = .func:=kR
theorem Ws:sz prog 83=1:=kR
theorem Zg:bts prog 83=8:=kR
theorem aat:ae prog 83=false:=kR
theorem JN:zav prog 83 = .nilf:=kR
theorem XI:aA prog 83=true:=kR
theorem te:td prog 84 = .map 3 3:=kR
theorem Wp:sz prog 84=1:=kR
theorem Zf:bts prog 84=8:=kR
theorem aas:ae prog 84=false:=kR
theorem JM:zav prog 84 = .nilmap:=kR
theorem XH:aA prog 84=true:=kR
theorem iR:td prog 85 = .slice 25:=kR
theorem Wo:sz prog 85=1:=kR
theorem Ze:bts prog 85=24:=kR
theorem aar:ae prog 85=false:=kR
theorem JL:zav prog 85 = .nil:=kR
theorem XG:aA prog 85=true:=kR
theorem Vl:td prog 87 = .func:=kR
theorem Wn:sz prog 87=1:=kR
theorem Zd:bts prog 87=8:=kR
theorem aaq:ae prog 87=false:=kR
theorem JK:zav prog 87 = .nilf:=kR
theorem XF:aA prog 87=true:=kR
theorem Vk:td prog 88 = .func:=kR
theorem Wj:sz prog 88=1:=kR
theorem Zc:bts prog 88=8:=kR
theorem aap:ae prog 88=false:=kR
theorem JJ:zav prog 88 = .nilf:=kR
theorem XE:aA prog 88=true:=kR
theorem Vj:td prog 89 = .func:=kR
theorem Wi:sz prog 89=1:=kR
theorem Zb:bts prog 89=8:=kR
theorem aao:ae prog 89=false:=kR
theorem JI:zav prog 89 = .nilf:=kR
theorem XD:aA prog 89=true:=kR
theorem Vi:td prog 91 = .func:=kR
theorem Wh:sz prog 91=1:=kR
theorem Za:bts prog 91=8:=kR
theorem aan:ae prog 91=false:=kR
theorem JH:zav prog 91 = .nilf:=kR
theorem XC:aA prog 91=true:=kR
theorem Vh:td prog 92 = .func:=kR
theorem Wg:sz prog 92=1:=kR
theorem Y_:bts prog 92=8:=kR
theorem aam:ae prog 92=false:=kR
theorem JG:zav prog 92 = .nilf:=kR
theorem XB:aA prog 92=true:=kR
theorem Vg:td prog 93 = .func:=kR
theorem Wf:sz prog 93=1:=kR
theorem Y':bts prog 93=8:=kR
theorem aal:ae prog 93=false:=kR
theorem JF:zav prog 93 = .nilf:=kR
theorem XA:aA prog 93=true:=kR
theorem Vf:td prog 94 = .func:=kR
theorem We:sz prog 94=1:=kR
theorem Y9:bts prog 94=8:=kR
theorem aak:ae prog 94=false:=kR
theorem JE:zav prog 94 = .nilf:=kR
theorem Xz:aA prog 94=true:=kR
theorem Fm:td prog 95 = .struct [(0,3),(1,3),(2,71)]:=kR
theorem Wd:sz prog 95=3:=kR
theorem Y8:bts prog 95=40:=kR
theorem aaj:ae prog 95=true:=kR
theorem Sk:FA prog 95 0 0 3:=⟨_,Fm,rfl,rfl,by rw[sz3];decide⟩
theorem Sj:FA prog 95 1 1 3:=⟨_,Fm,rfl,rfl,by rw[sz3];decide⟩
theorem Si:FA prog 95 2 2 71:=⟨_,Fm,rfl,rfl,by rw[ov];decide⟩
theorem JD:zav prog 95 = .agg [.int .i64 (0),.int .i64 (0),.nil]:=kR
theorem Xy:aA prog 95=true:=kR
theorem Cx:td prog 96 = .struct [(0,3),(1,3),(2,71)]:=kR
theorem Fz:sz prog 96=3:=kR
theorem PB:bts prog 96=40:=kR
theorem UZ:ae prog 96=true:=kR
theorem Sh:FA prog 96 0 0 3:=⟨_,Cx,rfl,rfl,by rw[sz3];decide⟩
theorem Sg:FA prog 96 1 1 3:=⟨_,Cx,rfl,rfl,by rw[sz3];decide⟩
theorem Sf:FA prog 96 2 2 71:=⟨_,Cx,rfl,rfl,by rw[ov];decide⟩
theorem yB:zav prog 96 = .agg [.int .i64 (0),.int .i64 (0),.nil]:=kR
theorem HO:aA prog 96=true:=kR
theorem aad:(aA prog 96 && fA (zav prog 96) && List.all [(0,3),(1,3),(2,71)] (λf=>decide (0<sz prog f.2)))=true:=kR
theorem V_:List.map (λ(f:Nat×TypeId)=>sz prog f.2) [(0,3),(1,3),(2,71)]=[1,1,1]:=kR
theorem Ve:td prog 97 = .func:=kR
theorem Wc:sz prog 97=1:=kR
theorem Y7:bts prog 97=8:=kR
theorem aai:ae prog 97=false:=kR
theorem JC:zav prog 97 = .nilf:=kR
theorem Xx:aA prog 97=true:=kR
theorem Vb:td prog 98 = .func:=kR
theorem Wb:sz prog 98=1:=kR
theorem Y6:bts prog 98=8:=kR
theorem aah:ae prog 98=false:=kR
theorem JB:zav prog 98 = .nilf:=kR
theorem Xw:aA prog 98=true:=kR
theorem Va:td prog 99 = .func:=kR
theorem Wa:sz prog 99=1:=kR
theorem Y5:bts prog 99=8:=kR
theorem aag:ae prog 99=false:=kR
theorem JA:zav prog 99 = .nilf:=kR
theorem Xv:aA prog 99=true:=kR
theorem L7:td prog 101 = .func:=kR
theorem NE:sz prog 101=1:=kR
theorem US:bts prog 101=8:=kR
theorem Ri:ae prog 101=false:=kR
theorem E4:zav prog 101 = .nilf:=kR
theorem Pn:aA prog 101=true:=kR
theorem L6:td prog 102 = .func:=kR
theorem ND:sz prog 102=1:=kR
theorem UR:bts prog 102=8:=kR
theorem Rh:ae prog 102=false:=kR
theorem E3:zav prog 102 = .nilf:=kR
theorem Pm:aA prog 102=true:=kR
theorem L5:td prog 104 = .func:=kR
theorem NC:sz prog 104=1:=kR
theorem UQ:bts prog 104=8:=kR
theorem Rg:ae prog 104=false:=kR
theorem E0:zav prog 104 = .nilf:=kR
theorem Pl:aA prog 104=true:=kR
theorem LZ:td prog 105 = .func:=kR
theorem NA:sz prog 105=1:=kR
theorem UP:bts prog 105=8:=kR
theorem Rf:ae prog 105=false:=kR
theorem EZ:zav prog 105 = .nilf:=kR
theorem Pk:aA prog 105=true:=kR
theorem LY:td prog 106 = .func:=kR
theorem Nz:sz prog 106=1:=kR
theorem UO:bts prog 106=8:=kR
theorem Re:ae prog 106=false:=kR
theorem EY:zav prog 106 = .nilf:=kR
theorem Pj:aA prog 106=true:=kR
theorem LX:td prog 107 = .func:=kR
theorem Ny:sz prog 107=1:=kR
theorem UN:bts prog 107=8:=kR
theorem Rc:ae prog 107=false:=kR
theorem EW:zav prog 107 = .nilf:=kR
theorem Pi:aA prog 107=true:=kR
theorem LW:td prog 108 = .func:=kR
theorem Nx:sz prog 108=1:=kR
theorem UM:bts prog 108=8:=kR
theorem Rb:ae prog 108=false:=kR
theorem EV:zav prog 108 = .nilf:=kR
theorem Ph:aA prog 108=true:=kR
theorem LU:td prog 109 = .func:=kR
theorem Nw:sz prog 109=1:=kR
theorem UL:bts prog 109=8:=kR
theorem Ra:ae prog 109=false:=kR
theorem EU:zav prog 109 = .nilf:=kR
theorem Pg:aA prog 109=true:=kR
theorem LS:td prog 111 = .func:=kR
theorem Nv:sz prog 111=1:=kR
theorem UK:bts prog 111=8:=kR
theorem Q_:ae prog 111=false:=kR
theorem ET:zav prog 111 = .nilf:=kR
theorem Pf:aA prog 111=true:=kR
theorem LR:td prog 113 = .func:=kR
theorem Nu:sz prog 113=1:=kR
theorem UJ:bts prog 113=8:=kR
theorem Q9:ae prog 113=false:=kR
theorem ES:zav prog 113 = .nilf:=kR
theorem Pe:aA prog 113=true:=kR
theorem LQ:td prog 114 = .func:=kR
theorem Nt:sz prog 114=1:=kR
theorem UI:bts prog 114=8:=kR
theorem Q8:ae prog 114=false:=kR
theorem ER:zav prog 114 = .nilf:=kR
theorem Pd:aA prog 114=true:=kR
theorem LP:td prog 116 = .func:=kR
theorem Ns:sz prog 116=1:=kR
theorem UH:bts prog 116=8:=kR
theorem Q7:ae prog 116=false:=kR
theorem EQ:zav prog 116 = .nilf:=kR
theorem Pc:aA prog 116=true:=kR
theorem LO:td prog 117 = .ptr:=kR
theorem Nr:sz prog 117=1:=kR
theorem UG:bts prog 117=8:=kR
theorem Q6:ae prog 117=false:=kR
theorem EP:zav prog 117 = .nilp:=kR
theorem Pb:aA prog 117=true:=kR
theorem LN:td prog 118 = .func:=kR
theorem Nq:sz prog 118=1:=kR
theorem UF:bts prog 118=8:=kR
theorem Q5:ae prog 118=false:=kR
theorem EO:zav prog 118 = .nilf:=kR
theorem Pa:aA prog 118=true:=kR
theorem LM:td prog 119 = .func:=kR
theorem Np:sz prog 119=1:=kR
theorem UE:bts prog 119=8:=kR
theorem Q4:ae prog 119=false:=kR
theorem EN:zav prog 119 = .nilf:=kR
theorem O_:aA prog 119=true:=kR
theorem LL:td prog 120 = .func:=kR
theorem Nn:sz prog 120=1:=kR
theorem UD:bts prog 120=8:=kR
theorem Q3:ae prog 120=false:=kR
theorem EM:zav prog 120 = .nilf:=kR
theorem O':aA prog 120=true:=kR
theorem LK:td prog 121 = .func:=kR
theorem Nm:sz prog 121=1:=kR
theorem UB:bts prog 121=8:=kR
theorem Q2:ae prog 121=false:=kR
theorem EK:zav prog 121 = .nilf:=kR
theorem O9:aA prog 121=true:=kR
theorem LJ:td prog 122 = .func:=kR
theorem Nl:sz prog 122=1:=kR
theorem UA:bts prog 122=8:=kR
theorem Q1:ae prog 122=false:=kR
theorem EJ:zav prog 122 = .nilf:=kR
theorem O8:aA prog 122=true:=kR
theorem yP:td prog 123 = .struct [(0,3),(1,3),(2,3)]:=kR
theorem Nk:sz prog 123=3:=kR
theorem Uz:bts prog 123=24:=kR
theorem Q0:ae prog 123=true:=kR
theorem Jb:FA prog 123 0 0 3:=⟨_,yP,rfl,rfl,by rw[sz3];decide⟩
theorem Ja:FA prog 123 1 1 3:=⟨_,yP,rfl,rfl,by rw[sz3];decide⟩
theorem I_:FA prog 123 2 2 3:=⟨_,yP,rfl,rfl,by rw[sz3];decide⟩
theorem EI:zav prog 123 = .agg [.int .i64 (0),.int .i64 (0),.int .i64 (0)]:=kR
theorem O7:aA prog 123=true:=kR
theorem ue:td prog 124 = .struct [(0,3),(1,3),(2,3)]:=kR
theorem pE:sz prog 124=3:=kR
theorem Ba:bts prog 124=24:=kR
theorem Aj:ae prog 124=true:=kR
theorem I':FA prog 124 0 0 3:=⟨_,ue,rfl,rfl,by rw[sz3];decide⟩
theorem I9:FA prog 124 1 1 3:=⟨_,ue,rfl,rfl,by rw[sz3];decide⟩
theorem I8:FA prog 124 2 2 3:=⟨_,ue,rfl,rfl,by rw[sz3];decide⟩
theorem ol:zav prog 124 = .agg [.int .i64 (0),.int .i64 (0),.int .i64 (0)]:=kR
theorem wV:aA prog 124=true:=kR
theorem GT:(aA prog 124 && fA (zav prog 124) && List.all [(0,3),(1,3),(2,3)] (λf=>decide (0<sz prog f.2)))=true:=kR
theorem Fx:List.map (λ(f:Nat×TypeId)=>sz prog f.2) [(0,3),(1,3),(2,3)]=[1,1,1]:=kR
theorem LI:td prog 125 = .func:=kR
theorem Nj:sz prog 125=1:=kR
theorem Uy:bts prog 125=8:=kR
theorem QZ:ae prog 125=false:=kR
theorem EH:zav prog 125 = .nilf:=kR
theorem O6:aA prog 125=true:=kR
theorem LH:td prog 126 = .func:=kR
theorem Ni:sz prog 126=1:=kR
theorem Ux:bts prog 126=8:=kR
theorem QY:ae prog 126=false:=kR
theorem EG:zav prog 126 = .nilf:=kR
theorem O5:aA prog 126=true:=kR
theorem LG:td prog 127 = .func:=kR
theorem Nh:sz prog 127=1:=kR
theorem Uw:bts prog 127=8:=kR
theorem QX:ae prog 127=false:=kR
theorem EF:zav prog 127 = .nilf:=kR
theorem O4:aA prog 127=true:=kR
theorem Bt:td prog 128 = .slice 41:=kR
theorem Ng:sz prog 128=1:=kR
theorem Uv:bts prog 128=24:=kR
theorem QW:ae prog 128=false:=kR
theorem EE:zav prog 128 = .nil:=kR
theorem O3:aA prog 128=true:=kR
theorem LF:td prog 129 = .func:=kR
theorem Nf:sz prog 129=1:=kR
theorem Uu:bts prog 129=8:=kR
theorem QV:ae prog 129=false:=kR
theorem ED:zav prog 129 = .nilf:=kR
theorem O2:aA prog 129=true:=kR
theorem LD:td prog 130 = .func:=kR
theorem Nc:sz prog 130=1:=kR
theorem Ut:bts prog 130=8:=kR
theorem QU:ae prog 130=false:=kR
theorem EC:zav prog 130 = .nilf:=kR
theorem O1:aA prog 130=true:=kR
theorem LC:td prog 131 = .func:=kR
theorem Nb:sz prog 131=1:=kR
theorem Us:bts prog 131=8:=kR
theorem QT:ae prog 131=false:=kR
theorem EB:zav prog 131 = .nilf:=kR
theorem O0:aA prog 131=true:=kR
theorem LB:td prog 133 = .func:=kR
theorem Na:sz prog 133=1:=kR
theorem Ur:bts prog 133=8:=kR
theorem QS:ae prog 133=false:=kR
theorem EA:zav prog 133 = .nilf:=kR
theorem OY:aA prog 133=true:=kR
theorem LA:td prog 135 = .func:=kR
theorem M_:sz prog 135=1:=kR
theorem Uq:bts prog 135=8:=kR
theorem QR:ae prog 135=false:=kR
theorem Ez:zav prog 135 = .nilf:=kR
theorem OX:aA prog 135=true:=kR
theorem Lz:td prog 137 = .func:=kR
theorem M9:sz prog 137=1:=kR
theorem Up:bts prog 137=8:=kR
theorem QQ:ae prog 137=false:=kR
theorem Ey:zav prog 137 = .nilf:=kR
theorem OV:aA prog 137=true:=kR
theorem Ly:td prog 139 = .func:=kR
theorem M8:sz prog 139=1:=kR
theorem Uo:bts prog 139=8:=kR
theorem QP:ae prog 139=false:=kR
theorem Ex:zav prog 139 = .nilf:=kR
theorem OU:aA prog 139=true:=kR
theorem Lx:td prog 140 = .slice 9:=kR
theorem M7:sz prog 140=1:=kR
theorem Un:bts prog 140=24:=kR
theorem QO:ae prog 140=false:=kR
theorem Ew:zav prog 140 = .nil:=kR
theorem OT:aA prog 140=true:=kR
theorem Lw:td prog 142 = .func:=kR
theorem M6:sz prog 142=1:=kR
theorem Um:bts prog 142=8:=kR
theorem QN:ae prog 142=false:=kR
theorem Ev:zav prog 142 = .nilf:=kR
theorem OS:aA prog 142=true:=kR
theorem Lv:td prog 143 = .func:=kR
theorem M5:sz prog 143=1:=kR
theorem Ul:bts prog 143=8:=kR
theorem QM:ae prog 143=false:=kR
theorem Eu:zav prog 143 = .nilf:=kR
theorem OR:aA prog 143=true:=kR
theorem Lu:td prog 144 = .ptr:=kR
theorem BG:sz prog 144=1:=kR
theorem Uk:bts prog 144=8:=kR
theorem QL:ae prog 144=false:=kR
theorem Et:zav prog 144 = .nilp:=kR
theorem OQ:aA prog 144=true:=kR
theorem Lt:td prog 145 = .slice 5:=kR
theorem BF:sz prog 145=1:=kR
theorem Uj:bts prog 145=24:=kR
theorem QK:ae prog 145=false:=kR
theorem Es:zav prog 145 = .nil:=kR
theorem OP:aA prog 145=true:=kR
theorem Bs:td prog 146 = .struct [(0,144),(1,145)]:=kR
theorem M4:sz prog 146=2:=kR
theorem Ui:bts prog 146=32:=kR
theorem QJ:ae prog 146=true:=kR
theorem I7:FA prog 146 0 0 144:=⟨_,Bs,rfl,rfl,by rw[BG];decide⟩
theorem I6:FA prog 146 1 1 145:=⟨_,Bs,rfl,rfl,by rw[BF];decide⟩
theorem Er:zav prog 146 = .agg [.nilp,.nil]:=kR
theorem OO:aA prog 146=true:=kR
theorem Br:td prog 147 = .struct [(0,144),(1,145)]:=kR
theorem M3:sz prog 147=2:=kR
theorem Uh:bts prog 147=32:=kR
theorem QI:ae prog 147=true:=kR
theorem I5:FA prog 147 0 0 144:=⟨_,Br,rfl,rfl,by rw[BG];decide⟩
theorem I4:FA prog 147 1 1 145:=⟨_,Br,rfl,rfl,by rw[BF];decide⟩
theorem Ep:zav prog 147 = .agg [.nilp,.nil]:=kR
theorem ON:aA prog 147=true:=kR
theorem Ls:td prog 149 = .func:=kR
theorem MZ:sz prog 149=1:=kR
theorem Ug:bts prog 149=8:=kR
theorem QH:ae prog 149=false:=kR
theorem Eo:zav prog 149 = .nilf:=kR
theorem OM:aA prog 149=true:=kR
theorem Lr:td prog 150 = .func:=kR
theorem MY:sz prog 150=1:=kR
theorem Uf:bts prog 150=8:=kR
theorem QG:ae prog 150=false:=kR
theorem Em:zav prog 150 = .nilf:=kR
theorem OL:aA prog 150=true:=kR
theorem Lq:td prog 151 = .func:=kR
theorem MX:sz prog 151=1:=kR
theorem Ue:bts prog 151=8:=kR
theorem QF:ae prog 151=false:=kR
theorem El:zav prog 151 = .nilf:=kR
theorem OK:aA prog 151=true:=kR
theorem Lp:td prog 152 = .func:=kR
theorem MW:sz prog 152=1:=kR
theorem Ud:bts prog 152=8:=kR
theorem QE:ae prog 152=false:=kR
theorem Ek:zav prog 152 = .nilf:=kR
theorem OJ:aA prog 152=true:=kR
theorem Lo:td prog 153 = .int .u64:=kR
theorem MV:sz prog 153=1:=kR
theorem Uc:bts prog 153=8:=kR
theorem QD:ae prog 153=false:=kR
theorem Ej:zav prog 153 = .int .u64 (0):=kR
theorem OI:aA prog 153=true:=kR
theorem Ln:td prog 154 = .func:=kR
theorem MU:sz prog 154=1:=kR
theorem Ub:bts prog 154=8:=kR
theorem QC:ae prog 154=false:=kR
theorem Ei:zav prog 154 = .nilf:=kR
theorem OH:aA prog 154=true:=kR
theorem Lm:td prog 155 = .int .u64:=kR
theorem MT:sz prog 155=1:=kR
theorem Ua:bts prog 155=8:=kR
theorem QB:ae prog 155=false:=kR
theorem Eh:zav prog 155 = .int .u64 (0):=kR
theorem OG:aA prog 155=true:=kR
theorem Ll:td prog 157 = .func:=kR
theorem MS:sz prog 157=1:=kR
theorem T_:bts prog 157=8:=kR
theorem QA:ae prog 157=false:=kR
theorem Eg:zav prog 157 = .nilf:=kR
theorem OE:aA prog 157=true:=kR
theorem Lk:td prog 158 = .func:=kR
theorem MQ:sz prog 158=1:=kR
theorem T9:bts prog 158=8:=kR
theorem Qz:ae prog 158=false:=kR
theorem Ef:zav prog 158 = .nilf:=kR
theorem OD:aA prog 158=true:=kR
theorem Lj:td prog 160 = .func:=kR
theorem MP:sz prog 160=1:=kR
theorem T8:bts prog 160=8:=kR
theorem Qy:ae prog 160=false:=kR
theorem Ee:zav prog 160 = .nilf:=kR
theorem OC:aA prog 160=true:=kR
theorem Li:td prog 161 = .func:=kR
theorem MO:sz prog 161=1:=kR
theorem T7:bts prog 161=8:=kR
theorem Qx:ae prog 161=false:=kR
theorem Ed:zav prog 161 = .nilf:=kR
theorem OB:aA prog 161=true:=kR
theorem Lh:td prog 162 = .ptr:=kR
theorem MN:sz prog 162=1:=kR
theorem T6:bts prog 162=8:=kR
theorem Qw:ae prog 162=false:=kR
theorem Ec:zav prog 162 = .nilp:=kR
theorem OA:aA prog 162=true:=kR
theorem yO:td prog 163 = .struct [(0,24),(3,71),(4,41)]:=kR
theorem MM:sz prog 163=5:=kR
theorem T5:bts prog 163=88:=kR
theorem Qv:ae prog 163=true:=kR
theorem I3:FA prog 163 0 0 24:=⟨_,yO,rfl,rfl,by rw[xH];decide⟩
theorem I2:FA prog 163 1 3 71:=⟨_,yO,rfl,rfl,by rw[ov];decide⟩
theorem I1:FA prog 163 2 4 41:=⟨_,yO,rfl,rfl,by rw[CB];decide⟩
theorem Eb:zav prog 163 = .agg [.int .i64 (0),.nil,.int .i64 (0),.nil,.nil]:=kR
theorem Oz:aA prog 163=true:=kR
theorem wI:td prog 164 = .struct [(0,24),(3,71),(4,41)]:=kR
theorem FC:sz prog 164=5:=kR
theorem T4:bts prog 164=88:=kR
theorem Qu:ae prog 164=true:=kR
theorem I0:FA prog 164 0 0 24:=⟨_,wI,rfl,rfl,by rw[xH];decide⟩
theorem IZ:FA prog 164 1 3 71:=⟨_,wI,rfl,rfl,by rw[ov];decide⟩
theorem IY:FA prog 164 2 4 41:=⟨_,wI,rfl,rfl,by rw[CB];decide⟩
theorem Ao:zav prog 164 = .agg [.int .i64 (0),.nil,.int .i64 (0),.nil,.nil]:=kR
theorem Oy:aA prog 164=true:=kR
theorem UU:(aA prog 164 && fA (zav prog 164) && List.all [(0,24),(3,71),(4,41)] (λf=>decide (0<sz prog f.2)))=true:=kR
theorem Rw:List.map (λ(f:Nat×TypeId)=>sz prog f.2) [(0,24),(3,71),(4,41)]=[3,1,1]:=kR
theorem Lg:td prog 165 = .func:=kR
theorem ML:sz prog 165=1:=kR
theorem T3:bts prog 165=8:=kR
theorem Qt:ae prog 165=false:=kR
theorem Ea:zav prog 165 = .nilf:=kR
theorem Ox:aA prog 165=true:=kR
theorem Lf:td prog 166 = .func:=kR
theorem MK:sz prog 166=1:=kR
theorem T2:bts prog 166=8:=kR
theorem Qr:ae prog 166=false:=kR
theorem D_:zav prog 166 = .nilf:=kR
theorem Ow:aA prog 166=true:=kR
theorem yN:td prog 167 = .map 124 3:=kR
theorem BE:sz prog 167=1:=kR
theorem T1:bts prog 167=8:=kR
theorem Qq:ae prog 167=false:=kR
theorem D':zav prog 167 = .nilmap:=kR
theorem Ov:aA prog 167=true:=kR
theorem yM:td prog 168 = .map 197 3:=kR
theorem BD:sz prog 168=1:=kR
theorem T0:bts prog 168=8:=kR
theorem Qp:ae prog 168=false:=kR
theorem D9:zav prog 168 = .nilmap:=kR
theorem Ou:aA prog 168=true:=kR
theorem ud:td prog 169 = .struct [(0,71),(1,71),(2,74),(3,167),(4,168)]:=kR
theorem MJ:sz prog 169=5:=kR
theorem TZ:bts prog 169=88:=kR
theorem Qo:ae prog 169=true:=kR
theorem IX:FA prog 169 0 0 71:=⟨_,ud,rfl,rfl,by rw[ov];decide⟩
theorem IW:FA prog 169 1 1 71:=⟨_,ud,rfl,rfl,by rw[ov];decide⟩
theorem IV:FA prog 169 2 2 74:=⟨_,ud,rfl,rfl,by rw[CA];decide⟩
theorem IU:FA prog 169 3 3 167:=⟨_,ud,rfl,rfl,by rw[BE];decide⟩
theorem IR:FA prog 169 4 4 168:=⟨_,ud,rfl,rfl,by rw[BD];decide⟩
theorem D8:zav prog 169 = .agg [.nil,.nil,.nil,.nilmap,.nilmap]:=kR
theorem Ot:aA prog 169=true:=kR
theorem sK:td prog 170 = .struct [(0,71),(1,71),(2,74),(3,167),(4,168)]:=kR
theorem FB:sz prog 170=5:=kR
theorem TY:bts prog 170=88:=kR
theorem Qn:ae prog 170=true:=kR
theorem IQ:FA prog 170 0 0 71:=⟨_,sK,rfl,rfl,by rw[ov];decide⟩
theorem IP:FA prog 170 1 1 71:=⟨_,sK,rfl,rfl,by rw[ov];decide⟩
theorem IM:FA prog 170 2 2 74:=⟨_,sK,rfl,rfl,by rw[CA];decide⟩
theorem IL:FA prog 170 3 3 167:=⟨_,sK,rfl,rfl,by rw[BE];decide⟩
theorem IK:FA prog 170 4 4 168:=⟨_,sK,rfl,rfl,by rw[BD];decide⟩
theorem Am:zav prog 170 = .agg [.nil,.nil,.nil,.nilmap,.nilmap]:=kR
theorem Oq:aA prog 170=true:=kR
theorem UT:(aA prog 170 && fA (zav prog 170) && List.all [(0,71),(1,71),(2,74),(3,167),(4,168)] (λf=>decide (0<sz prog f.2)))=true:=kR
theorem Rv:List.map (λ(f:Nat×TypeId)=>sz prog f.2) [(0,71),(1,71),(2,74),(3,167),(4,168)]=[1,1,1,1,1]:=kR
theorem Le:td prog 171 = .func:=kR
theorem MI:sz prog 171=1:=kR
theorem TX:bts prog 171=8:=kR
theorem Qm:ae prog 171=false:=kR
theorem D7:zav prog 171 = .nilf:=kR
theorem Oo:aA prog 171=true:=kR
theorem Ld:td prog 172 = .func:=kR
theorem MH:sz prog 172=1:=kR
theorem TW:bts prog 172=8:=kR
theorem Ql:ae prog 172=false:=kR
theorem D6:zav prog 172 = .nilf:=kR
theorem On:aA prog 172=true:=kR
theorem Lc:td prog 173 = .func:=kR
theorem MG:sz prog 173=1:=kR
theorem TV:bts prog 173=8:=kR
theorem Qk:ae prog 173=false:=kR
theorem D5:zav prog 173 = .nilf:=kR
theorem Om:aA prog 173=true:=kR
theorem Lb:td prog 174 = .func:=kR
theorem MF:sz prog 174=1:=kR
theorem TU:bts prog 174=8:=kR
theorem Qj:ae prog 174=false:=kR
theorem D4:zav prog 174 = .nilf:=kR
theorem Ol:aA prog 174=true:=kR
theorem uc:td prog 175 = .map 3 4:=kR
theorem ME:sz prog 175=1:=kR
theorem TT:bts prog 175=8:=kR
theorem Qi:ae prog 175=false:=kR
theorem D3:zav prog 175 = .nilmap:=kR
theorem Ok:aA prog 175=true:=kR
theorem La:td prog 176 = .func:=kR
theorem MD:sz prog 176=1:=kR
theorem TQ:bts prog 176=8:=kR
theorem Qh:ae prog 176=false:=kR
theorem D2:zav prog 176 = .nilf:=kR
theorem Oj:aA prog 176=true:=kR
theorem K_:td prog 177 = .func:=kR
theorem MC:sz prog 177=1:=kR
theorem TP:bts prog 177=8:=kR
theorem Qg:ae prog 177=false:=kR
theorem D1:zav prog 177 = .nilf:=kR
theorem Oi:aA prog 177=true:=kR
theorem K':td prog 178 = .func:=kR
theorem MB:sz prog 178=1:=kR
theorem TO:bts prog 178=8:=kR
theorem Qf:ae prog 178=false:=kR
theorem D0:zav prog 178 = .nilf:=kR
theorem Oh:aA prog 178=true:=kR
theorem K9:td prog 179 = .array 9 5:=kR
theorem MA:sz prog 179=9:=kR
theorem TN:bts prog 179=9:=kR
theorem Qe:ae prog 179=true:=kR
theorem DZ:zav prog 179 = .agg [.int .u8 (0),.int .u8 (0),.int .u8 (0),.int .u8 (0),.int .u8 (0),.int .u8 (0),.int .u8 (0),.int .u8 (0),.int .u8 (0)]:=kR
theorem Og:aA prog 179=true:=kR
theorem K8:td prog 180 = .func:=kR
theorem Mz:sz prog 180=1:=kR
theorem TM:bts prog 180=8:=kR
theorem Qd:ae prog 180=false:=kR
theorem DY:zav prog 180 = .nilf:=kR
theorem Of:aA prog 180=true:=kR
theorem K7:td prog 181 = .array 256 4:=kR
theorem My:sz prog 181=256:=kR
theorem TL:bts prog 181=256:=kR
theorem Qc:ae prog 181=true:=kR
theorem K6:td prog 182 = .array 256 4:=kR
theorem Mx:sz prog 182=256:=kR
theorem TK:bts prog 182=256:=kR
theorem Qb:ae prog 182=true:=kR
theorem K5:td prog 184 = .func:=kR
theorem Mw:sz prog 184=1:=kR
theorem TJ:bts prog 184=8:=kR
theorem Qa:ae prog 184=false:=kR
theorem DW:zav prog 184 = .nilf:=kR
theorem Oe:aA prog 184=true:=kR
theorem K4:td prog 185 = .func:=kR
theorem Mu:sz prog 185=1:=kR
theorem TH:bts prog 185=8:=kR
theorem P_:ae prog 185=false:=kR
theorem DV:zav prog 185 = .nilf:=kR
theorem Od:aA prog 185=true:=kR
theorem K3:td prog 186 = .ptr:=kR
theorem Mt:sz prog 186=1:=kR
theorem TG:bts prog 186=8:=kR
theorem P':ae prog 186=false:=kR
theorem DU:zav prog 186 = .nilp:=kR
theorem Oc:aA prog 186=true:=kR
theorem K2:td prog 187 = .ptr:=kR
theorem BC:sz prog 187=1:=kR
theorem TF:bts prog 187=8:=kR
theorem P9:ae prog 187=false:=kR
theorem DT:zav prog 187 = .nilp:=kR
theorem Ob:aA prog 187=true:=kR
theorem K1:td prog 188 = .func:=kR
theorem Ms:sz prog 188=1:=kR
theorem TE:bts prog 188=8:=kR
theorem P8:ae prog 188=false:=kR
theorem DS:zav prog 188 = .nilf:=kR
theorem Oa:aA prog 188=true:=kR
theorem K0:td prog 189 = .func:=kR
theorem Mr:sz prog 189=1:=kR
theorem TC:bts prog 189=8:=kR
theorem P7:ae prog 189=false:=kR
theorem DR:zav prog 189 = .nilf:=kR
theorem N_:aA prog 189=true:=kR
theorem KZ:td prog 190 = .func:=kR
theorem Mq:sz prog 190=1:=kR
theorem TA:bts prog 190=8:=kR
theorem P6:ae prog 190=false:=kR
theorem DQ:zav prog 190 = .nilf:=kR
theorem N9:aA prog 190=true:=kR
theorem KY:td prog 192 = .func:=kR
theorem Mp:sz prog 192=1:=kR
theorem Tz:bts prog 192=8:=kR
theorem P5:ae prog 192=false:=kR
theorem DP:zav prog 192 = .nilf:=kR
theorem N8:aA prog 192=true:=kR
theorem KX:td prog 193 = .func:=kR
theorem Mo:sz prog 193=1:=kR
theorem Tx:bts prog 193=8:=kR
theorem P4:ae prog 193=false:=kR
theorem DO:zav prog 193 = .nilf:=kR
theorem N7:aA prog 193=true:=kR
theorem KW:td prog 195 = .func:=kR
theorem Mn:sz prog 195=1:=kR
theorem Tw:bts prog 195=8:=kR
theorem P3:ae prog 195=false:=kR
theorem DN:zav prog 195 = .nilf:=kR
theorem N6:aA prog 195=true:=kR
theorem KV:td prog 196 = .func:=kR
theorem Mm:sz prog 196=1:=kR
theorem Tv:bts prog 196=8:=kR
theorem P0:ae prog 196=false:=kR
theorem DM:zav prog 196 = .nilf:=kR
theorem N5:aA prog 196=true:=kR
theorem Fv:td prog 197 = .array 3 3:=kR
theorem yU:sz prog 197=3:=kR
theorem Tu:bts prog 197=24:=kR
theorem Cv:ae prog 197=true:=kR
theorem Al:zav prog 197 = .agg [.int .i64 (0),.int .i64 (0),.int .i64 (0)]:=kR
theorem F6:aA prog 197=true:=kR
theorem KU:td prog 199 = .func:=kR
theorem Ml:sz prog 199=1:=kR
theorem Tt:bts prog 199=8:=kR
theorem PZ:ae prog 199=false:=kR
theorem DL:zav prog 199 = .nilf:=kR
theorem N4:aA prog 199=true:=kR
theorem KT:td prog 200 = .func:=kR
theorem Mk:sz prog 200=1:=kR
theorem Ts:bts prog 200=8:=kR
theorem PY:ae prog 200=false:=kR
theorem DJ:zav prog 200 = .nilf:=kR
theorem N3:aA prog 200=true:=kR
theorem KS:td prog 201 = .array 256 5:=kR
theorem Mj:sz prog 201=256:=kR
theorem Tr:bts prog 201=256:=kR
theorem PW:ae prog 201=true:=kR
theorem Bq:td prog 202 = .struct [(0,5),(1,5)]:=kR
theorem Mi:sz prog 202=2:=kR
theorem Tq:bts prog 202=2:=kR
theorem PV:ae prog 202=true:=kR
theorem IJ:FA prog 202 0 0 5:=⟨_,Bq,rfl,rfl,by rw[sz5];decide⟩
theorem II:FA prog 202 1 1 5:=⟨_,Bq,rfl,rfl,by rw[sz5];decide⟩
theorem DI:zav prog 202 = .agg [.int .u8 (0),.int .u8 (0)]:=kR
theorem N0:aA prog 202=true:=kR
theorem Bp:td prog 203 = .struct [(0,5),(1,5)]:=kR
theorem Mh:sz prog 203=2:=kR
theorem Tp:bts prog 203=2:=kR
theorem PU:ae prog 203=true:=kR
theorem IH:FA prog 203 0 0 5:=⟨_,Bp,rfl,rfl,by rw[sz5];decide⟩
theorem IG:FA prog 203 1 1 5:=⟨_,Bp,rfl,rfl,by rw[sz5];decide⟩
theorem DH:zav prog 203 = .agg [.int .u8 (0),.int .u8 (0)]:=kR
theorem NZ:aA prog 203=true:=kR
theorem KR:td prog 204 = .array 16 203:=kR
theorem Mg:sz prog 204=32:=kR
theorem Tn:bts prog 204=32:=kR
theorem PT:ae prog 204=true:=kR
theorem DG:zav prog 204 = .agg [.int .u8 (0),.int .u8 (0),.int .u8 (0),.int .u8 (0),.int .u8 (0),.int .u8 (0),.int .u8 (0),.int .u8 (0),.int .u8 (0),.int .u8 (0),.int .u8 (0),.int .u8 (0),.int .u8 (0),.int .u8 (0),.int .u8 (0),.int .u8 (0),.int .u8 (0),.int .u8 (0),.int .u8 (0),.int .u8 (0),.int .u8 (0),.int .u8 (0),.int .u8 (0),.int .u8 (0),.int .u8 (0),.int .u8 (0),.int .u8 (0),.int .u8 (0),.int .u8 (0),.int .u8 (0),.int .u8 (0),.int .u8 (0)]:=kR
theorem NY:aA prog 204=true:=kR
theorem KQ:td prog 205 = .func:=kR
theorem Mf:sz prog 205=1:=kR
theorem Tm:bts prog 205=8:=kR
theorem PS:ae prog 205=false:=kR
theorem DF:zav prog 205 = .nilf:=kR
theorem NX:aA prog 205=true:=kR
theorem KP:td prog 206 = .func:=kR
theorem Me:sz prog 206=1:=kR
theorem Tl:bts prog 206=8:=kR
theorem PR:ae prog 206=false:=kR
theorem DE:zav prog 206 = .nilf:=kR
theorem NW:aA prog 206=true:=kR
theorem KO:td prog 207 = .func:=kR
theorem Md:sz prog 207=1:=kR
theorem Tk:bts prog 207=8:=kR
theorem PQ:ae prog 207=false:=kR
theorem DD:zav prog 207 = .nilf:=kR
theorem NV:aA prog 207=true:=kR
theorem wH:td prog 208 = .struct [(0,17),(1,17),(2,17),(3,9)]:=kR
theorem Mc:sz prog 208=4:=kR
theorem Tj:bts prog 208=40:=kR
theorem PP:ae prog 208=true:=kR
theorem IF:FA prog 208 0 0 17:=⟨_,wH,rfl,rfl,by rw[wh];decide⟩
theorem IE:FA prog 208 1 1 17:=⟨_,wH,rfl,rfl,by rw[wh];decide⟩
theorem ID:FA prog 208 2 2 17:=⟨_,wH,rfl,rfl,by rw[wh];decide⟩
theorem IC:FA prog 208 3 3 9:=⟨_,wH,rfl,rfl,by rw[sz9];decide⟩
theorem wG:td prog 209 = .struct [(0,17),(1,17),(2,17),(3,9)]:=kR
theorem Mb:sz prog 209=4:=kR
theorem Ti:bts prog 209=40:=kR
theorem PO:ae prog 209=true:=kR
theorem IB:FA prog 209 0 0 17:=⟨_,wG,rfl,rfl,by rw[wh];decide⟩
theorem IA:FA prog 209 1 1 17:=⟨_,wG,rfl,rfl,by rw[wh];decide⟩
theorem Iz:FA prog 209 2 2 17:=⟨_,wG,rfl,rfl,by rw[wh];decide⟩
theorem Iy:FA prog 209 3 3 9:=⟨_,wG,rfl,rfl,by rw[sz9];decide⟩
theorem V2:td prog 210 = .array 0 16:=kR
theorem V1:td prog 211 = .struct [(0,210)]:=kR
theorem V0:td prog 212 = .struct [(0,210)]:=kR
theorem KN:td prog 213 = .func:=kR
theorem Ma:sz prog 213=1:=kR
theorem Th:bts prog 213=8:=kR
theorem PN:ae prog 213=false:=kR
theorem DB:zav prog 213 = .nilf:=kR
theorem NU:aA prog 213=true:=kR
theorem KM:td prog 214 = .int .u8:=kR
theorem BB:sz prog 214=1:=kR
theorem Tg:bts prog 214=1:=kR
theorem PM:ae prog 214=false:=kR
theorem DA:zav prog 214 = .int .u8 (0):=kR
theorem NT:aA prog 214=true:=kR
theorem KK:td prog 215 = .int .u8:=kR
theorem BA:sz prog 215=1:=kR
theorem Tf:bts prog 215=1:=kR
theorem PK:ae prog 215=false:=kR
theorem Dz:zav prog 215 = .int .u8 (0):=kR
theorem NS:aA prog 215=true:=kR
theorem KJ:td prog 216 = .func:=kR
theorem Bz:sz prog 216=1:=kR
theorem Te:bts prog 216=8:=kR
theorem PJ:ae prog 216=false:=kR
theorem Dy:zav prog 216 = .nilf:=kR
theorem NR:aA prog 216=true:=kR
theorem KI:td prog 217 = .int .i32:=kR
theorem Bx:sz prog 217=1:=kR
theorem Td:bts prog 217=4:=kR
theorem PI:ae prog 217=false:=kR
theorem Dx:zav prog 217 = .int .i32 (0):=kR
theorem NQ:aA prog 217=true:=kR
theorem KH:td prog 218 = .int .i32:=kR
theorem Bw:sz prog 218=1:=kR
theorem Tc:bts prog 218=4:=kR
theorem PH:ae prog 218=false:=kR
theorem Dw:zav prog 218 = .int .i32 (0):=kR
theorem NP:aA prog 218=true:=kR
theorem mK:td prog 219 = .struct [(0,12),(1,12),(2,33),(3,214),(4,5),(5,5),(6,215),(7,216),(8,187),(9,217),(10,218)]:=kR
theorem L_:sz prog 219=11:=kR
theorem Tb:bts prog 219=48:=kR
theorem PG:ae prog 219=true:=kR
theorem Ix:FA prog 219 0 0 12:=⟨_,mK,rfl,rfl,by rw[yV];decide⟩
theorem Iw:FA prog 219 1 1 12:=⟨_,mK,rfl,rfl,by rw[yV];decide⟩
theorem Iv:FA prog 219 2 2 33:=⟨_,mK,rfl,rfl,by rw[kT];decide⟩
theorem Iu:FA prog 219 3 3 214:=⟨_,mK,rfl,rfl,by rw[BB];decide⟩
theorem It:FA prog 219 4 4 5:=⟨_,mK,rfl,rfl,by rw[sz5];decide⟩
theorem Is:FA prog 219 5 5 5:=⟨_,mK,rfl,rfl,by rw[sz5];decide⟩
theorem Ir:FA prog 219 6 6 215:=⟨_,mK,rfl,rfl,by rw[BA];decide⟩
theorem Iq:FA prog 219 7 7 216:=⟨_,mK,rfl,rfl,by rw[Bz];decide⟩
theorem Ip:FA prog 219 8 8 187:=⟨_,mK,rfl,rfl,by rw[BC];decide⟩
theorem Io:FA prog 219 9 9 217:=⟨_,mK,rfl,rfl,by rw[Bx];decide⟩
theorem GF:FA prog 219 10 10 218:=⟨_,mK,rfl,rfl,by rw[Bw];decide⟩
theorem Dv:zav prog 219 = .agg [.int .u64 (0),.int .u64 (0),.int .u32 (0),.int .u8 (0),.int .u8 (0),.int .u8 (0),.int .u8 (0),.nilf,.nilp,.int .i32 (0),.int .i32 (0)]:=kR
theorem NO:aA prog 219=true:=kR
theorem mJ:td prog 220 = .struct [(0,12),(1,12),(2,33),(3,214),(4,5),(5,5),(6,215),(7,216),(8,187),(9,217),(10,218)]:=kR
theorem L9:sz prog 220=11:=kR
theorem Ta:bts prog 220=48:=kR
theorem PF:ae prog 220=true:=kR
theorem Im:FA prog 220 0 0 12:=⟨_,mJ,rfl,rfl,by rw[yV];decide⟩
theorem Il:FA prog 220 1 1 12:=⟨_,mJ,rfl,rfl,by rw[yV];decide⟩
theorem Ik:FA prog 220 2 2 33:=⟨_,mJ,rfl,rfl,by rw[kT];decide⟩
theorem Ij:FA prog 220 3 3 214:=⟨_,mJ,rfl,rfl,by rw[BB];decide⟩
theorem Ii:FA prog 220 4 4 5:=⟨_,mJ,rfl,rfl,by rw[sz5];decide⟩
theorem Ih:FA prog 220 5 5 5:=⟨_,mJ,rfl,rfl,by rw[sz5];decide⟩
theorem Ig:FA prog 220 6 6 215:=⟨_,mJ,rfl,rfl,by rw[BA];decide⟩
theorem Ie:FA prog 220 7 7 216:=⟨_,mJ,rfl,rfl,by rw[Bz];decide⟩
theorem Ic:FA prog 220 8 8 187:=⟨_,mJ,rfl,rfl,by rw[BC];decide⟩
theorem Ib:FA prog 220 9 9 217:=⟨_,mJ,rfl,rfl,by rw[Bx];decide⟩
theorem GE:FA prog 220 10 10 218:=⟨_,mJ,rfl,rfl,by rw[Bw];decide⟩
theorem Du:zav prog 220 = .agg [.int .u64 (0),.int .u64 (0),.int .u32 (0),.int .u8 (0),.int .u8 (0),.int .u8 (0),.int .u8 (0),.nilf,.nilp,.int .i32 (0),.int .i32 (0)]:=kR
theorem NN:aA prog 220=true:=kR
theorem sd:dW prog 3=some (.one .i64):=kR
theorem AX:dW prog 124=some zKt:=kR
theorem AW:dW prog 197=some zKt:=kR
attribute [go_sem] td1 sz1 acr ag1 U' ok1 td2 sz2 acq ag2 U9 ok2
attribute [go_sem] td3 sz3 oS ag3 gC ok3 td4 sz4 wC ag4 pt ok4
attribute [go_sem] td5 sz5 acp ag5 U8 ok5 td6 sz6 aco ag6 U7 ok6
attribute [go_sem] td7 sz7 acn ag7 U6 ok7 td8 sz8 acm ag8 U5 ok8
attribute [go_sem] td9 sz9 acl ag9 V' Xh aac abr V9 Xg aab abq
attribute [go_sem] V8 yV aaa abp KD Yz Ho Xf Z_ abo Hn Xe
attribute [go_sem] Z' abn V7 Xd Z9 abm KC Yy V6 Xc Z8 abl
attribute [go_sem] KB Yx V5 wh Z7 abk Kz Yw Rt Xb Z6 abj
attribute [go_sem] Ky Yv Rs Xa Z5 abh Kx Yu V4 W_ Z4 abg
attribute [go_sem] Kw Yt V3 W9 Z3 abf Kv Ys Ft Hr Z2 abe
attribute [go_sem] Ku Yr Fs W8 Z1 abd Ks Yq Ax xH Z0 G6
attribute [go_sem] Bh Yp df dh Co jR yD F5 VZ W7 ZZ abc
attribute [go_sem] Kr Yo VY W6 ZY abb Kq Yn dz CC ZX aba
attribute [go_sem] Kp Ym Fq W5 ZW aa9 Ko Yl mg bf iM dT
attribute [go_sem] cx iT VX W4 ZV aa8 Kn Yk VV W3 ZU aa7
attribute [go_sem] Km Yj VU kT iL aa6 dG gN VT W2 ZT aa5
attribute [go_sem] Kl Yi VS W1 ZS aa4 Kk Yh VQ W0 ZR aa3
attribute [go_sem] Kj Yg VP WZ ZQ aa2 Ki Yf Rr WY ZP aa1
attribute [go_sem] Dt RP yL Hq ZO aa0 Kh Ye mf CB PC aaZ
attribute [go_sem] Bg HP Cy WX ZN aaY Kg Yd tf pX ZM yu
attribute [go_sem] sG Yc VO WW ZL aaX Kf Yb VN WV ZK aaW
attribute [go_sem] Ke Ya VM WU ZJ aaV Kd X_ VL WS ZH aaU
attribute [go_sem] Kb X9 VK WR ZG aaT Ka X8 VJ WQ ZF aaS
attribute [go_sem] J_ X7 VH WP ZE aaR J' X6 VG WO ZD aaQ
attribute [go_sem] J9 X5 VF WN ZC aaP J8 X4 VE WM ZB aaO
attribute [go_sem] J7 X3 VC WL ZA aaN J6 X2 VB WK Zz aaM
attribute [go_sem] J5 X1 VA WJ Zy aaL J4 X0 Vz WI Zx aaK
attribute [go_sem] J3 XZ Vy WH Zw aaJ J2 XY Vx WG Zv aaI
attribute [go_sem] J1 XX Vw WF Zu aaH J0 XW Vv WD Zt aaG
attribute [go_sem] JZ XV Fp WC Zs aaF JY XU xE Ay GS aaE
attribute [go_sem] oh AN Vu WB Zr aaD JX XT Vt WA Zq aaC
attribute [go_sem] JW XS ge ov GR Jr yC F4 Vs Wz Zp aaB
attribute [go_sem] JV XR xD CA Zo aaA JU XQ Fo Wy Zn aaz
attribute [go_sem] JT XP wg qH Zm yt tX XO Vq Wx Zl aay
attribute [go_sem] JS XN Vp Ww Zk aax JR XM Vo Wv Zj aaw
attribute [go_sem] JQ XL Vn Wu Zi aav JP XK Aw Wt Zh aau
attribute [go_sem] JO XJ Vm Ws Zg aat JN XI te Wp Zf aas
attribute [go_sem] JM XH iR Wo Ze aar JL XG Vl Wn Zd aaq
attribute [go_sem] JK XF Vk Wj Zc aap JJ XE Vj Wi Zb aao
attribute [go_sem] JI XD Vi Wh Za aan JH XC Vh Wg Y_ aam
attribute [go_sem] JG XB Vg Wf Y' aal JF XA Vf We Y9 aak
attribute [go_sem] JE Xz Fm Wd Y8 aaj JD Xy Cx Fz PB UZ
attribute [go_sem] yB HO Ve Wc Y7 aai JC Xx Vb Wb Y6 aah
attribute [go_sem] JB Xw Va Wa Y5 aag JA Xv L7 NE US Ri
attribute [go_sem] E4 Pn L6 ND UR Rh E3 Pm L5 NC UQ Rg
attribute [go_sem] E0 Pl LZ NA UP Rf EZ Pk LY Nz UO Re
attribute [go_sem] EY Pj LX Ny UN Rc EW Pi LW Nx UM Rb
attribute [go_sem] EV Ph LU Nw UL Ra EU Pg LS Nv UK Q_
attribute [go_sem] ET Pf LR Nu UJ Q9 ES Pe LQ Nt UI Q8
attribute [go_sem] ER Pd LP Ns UH Q7 EQ Pc LO Nr UG Q6
attribute [go_sem] EP Pb LN Nq UF Q5 EO Pa LM Np UE Q4
attribute [go_sem] EN O_ LL Nn UD Q3 EM O' LK Nm UB Q2
attribute [go_sem] EK O9 LJ Nl UA Q1 EJ O8 yP Nk Uz Q0
attribute [go_sem] EI O7 ue pE Ba Aj ol wV LI Nj Uy QZ
attribute [go_sem] EH O6 LH Ni Ux QY EG O5 LG Nh Uw QX
attribute [go_sem] EF O4 Bt Ng Uv QW EE O3 LF Nf Uu QV
attribute [go_sem] ED O2 LD Nc Ut QU EC O1 LC Nb Us QT
attribute [go_sem] EB O0 LB Na Ur QS EA OY LA M_ Uq QR
attribute [go_sem] Ez OX Lz M9 Up QQ Ey OV Ly M8 Uo QP
attribute [go_sem] Ex OU Lx M7 Un QO Ew OT Lw M6 Um QN
attribute [go_sem] Ev OS Lv M5 Ul QM Eu OR Lu BG Uk QL
attribute [go_sem] Et OQ Lt BF Uj QK Es OP Bs M4 Ui QJ
attribute [go_sem] Er OO Br M3 Uh QI Ep ON Ls MZ Ug QH
attribute [go_sem] Eo OM Lr MY Uf QG Em OL Lq MX Ue QF
attribute [go_sem] El OK Lp MW Ud QE Ek OJ Lo MV Uc QD
attribute [go_sem] Ej OI Ln MU Ub QC Ei OH Lm MT Ua QB
attribute [go_sem] Eh OG Ll MS T_ QA Eg OE Lk MQ T9 Qz
attribute [go_sem] Ef OD Lj MP T8 Qy Ee OC Li MO T7 Qx
attribute [go_sem] Ed OB Lh MN T6 Qw Ec OA yO MM T5 Qv
attribute [go_sem] Eb Oz wI FC T4 Qu Ao Oy Lg ML T3 Qt
attribute [go_sem] Ea Ox Lf MK T2 Qr D_ Ow yN BE T1 Qq
attribute [go_sem] D' Ov yM BD T0 Qp D9 Ou ud MJ TZ Qo
attribute [go_sem] D8 Ot sK FB TY Qn Am Oq Le MI TX Qm
attribute [go_sem] D7 Oo Ld MH TW Ql D6 On Lc MG TV Qk
attribute [go_sem] D5 Om Lb MF TU Qj D4 Ol uc ME TT Qi
attribute [go_sem] D3 Ok La MD TQ Qh D2 Oj K_ MC TP Qg
attribute [go_sem] D1 Oi K' MB TO Qf D0 Oh K9 MA TN Qe
attribute [go_sem] DZ Og K8 Mz TM Qd DY Of K7 My TL Qc
attribute [go_sem] K6 Mx TK Qb K5 Mw TJ Qa DW Oe K4 Mu
attribute [go_sem] TH P_ DV Od K3 Mt TG P' DU Oc K2 BC
attribute [go_sem] TF P9 DT Ob K1 Ms TE P8 DS Oa K0 Mr
attribute [go_sem] TC P7 DR N_ KZ Mq TA P6 DQ N9 KY Mp
attribute [go_sem] Tz P5 DP N8 KX Mo Tx P4 DO N7 KW Mn
attribute [go_sem] Tw P3 DN N6 KV Mm Tv P0 DM N5 Fv yU
attribute [go_sem] Tu Cv Al F6 KU Ml Tt PZ DL N4 KT Mk
attribute [go_sem] Ts PY DJ N3 KS Mj Tr PW Bq Mi Tq PV
attribute [go_sem] DI N0 Bp Mh Tp PU DH NZ KR Mg Tn PT
attribute [go_sem] DG NY KQ Mf Tm PS DF NX KP Me Tl PR
attribute [go_sem] DE NW KO Md Tk PQ DD NV wH Mc Tj PP
attribute [go_sem] wG Mb Ti PO V2 V1 V0 KN Ma Th PN DB
attribute [go_sem] NU KM BB Tg PM DA NT KK BA Tf PK Dz
attribute [go_sem] NS KJ Bz Te PJ Dy NR KI Bx Td PI Dx
attribute [go_sem] NQ KH Bw Tc PH Dw NP mK L_ Tb PG Dv
attribute [go_sem] NO mJ L9 Ta PF Du NN
instance ti1:TI prog 1 (.func) 1 false:=⟨td1,sz1,ag1⟩
instance zi1:ZI prog 1 (.nilf):=⟨U',ok1⟩
instance ti2:TI prog 2 (.int .i64) 1 false:=⟨td2,sz2,ag2⟩
instance zi2:ZI prog 2 (.int .i64 (0)):=⟨U9,ok2⟩
instance ti3:TI prog 3 (.int .i64) 1 false:=⟨td3,sz3,ag3⟩
instance zi3:ZI prog 3 (.int .i64 (0)):=⟨gC,ok3⟩
instance ti4:TI prog 4 (.bool) 1 false:=⟨td4,sz4,ag4⟩
instance zi4:ZI prog 4 (.bool false):=⟨pt,ok4⟩
instance ti5:TI prog 5 (.int .u8) 1 false:=⟨td5,sz5,ag5⟩
instance zi5:ZI prog 5 (.int .u8 (0)):=⟨U8,ok5⟩
instance ti6:TI prog 6 (.int .u8) 1 false:=⟨td6,sz6,ag6⟩
instance zi6:ZI prog 6 (.int .u8 (0)):=⟨U7,ok6⟩
instance ti7:TI prog 7 (.struct [(0,2),(1,3),(2,4),(3,6)]) 4 true:=⟨td7,sz7,ag7⟩
instance zi7:ZI prog 7 (.agg [.int .i64 (0),.int .i64 (0),.bool false,.int .u8 (0)]):=⟨U6,ok7⟩
instance ti8:TI prog 8 (.struct [(0,2),(1,3),(2,4),(3,6)]) 4 true:=⟨td8,sz8,ag8⟩
instance zi8:ZI prog 8 (.agg [.int .i64 (0),.int .i64 (0),.bool false,.int .u8 (0)]):=⟨U5,ok8⟩
instance ti9:TI prog 9 (.str) 1 false:=⟨td9,sz9,ag9⟩
instance ti10:TI prog 10 (.str) 1 false:=⟨V',Xh,abr⟩
instance ti11:TI prog 11 (.str) 1 false:=⟨V9,Xg,abq⟩
instance ti12:TI prog 12 (.int .u64) 1 false:=⟨V8,yV,abp⟩
instance zi12:ZI prog 12 (.int .u64 (0)):=⟨KD,Yz⟩
instance ti13:TI prog 13 (.struct [(0,9),(1,12)]) 2 true:=⟨Ho,Xf,abo⟩
instance ti14:TI prog 14 (.struct [(0,9),(1,12)]) 2 true:=⟨Hn,Xe,abn⟩
instance ti15:TI prog 15 (.ptr) 1 false:=⟨V7,Xd,abm⟩
instance zi15:ZI prog 15 (.nilp):=⟨KC,Yy⟩
instance ti16:TI prog 16 (.ptr) 1 false:=⟨V6,Xc,abl⟩
instance zi16:ZI prog 16 (.nilp):=⟨KB,Yx⟩
instance ti17:TI prog 17 (.ptr) 1 false:=⟨V5,wh,abk⟩
instance zi17:ZI prog 17 (.nilp):=⟨Kz,Yw⟩
instance ti18:TI prog 18 (.struct [(0,17)]) 1 true:=⟨Rt,Xb,abj⟩
instance zi18:ZI prog 18 (.agg [.nilp]):=⟨Ky,Yv⟩
instance ti19:TI prog 19 (.struct [(0,17)]) 1 true:=⟨Rs,Xa,abh⟩
instance zi19:ZI prog 19 (.agg [.nilp]):=⟨Kx,Yu⟩
instance ti20:TI prog 20 (.iface) 1 false:=⟨V4,W_,abg⟩
instance zi20:ZI prog 20 (.niface):=⟨Kw,Yt⟩
instance ti21:TI prog 21 (.int .i32) 1 false:=⟨V3,W9,abf⟩
instance zi21:ZI prog 21 (.int .i32 (0)):=⟨Kv,Ys⟩
instance ti22:TI prog 22 (.slice 96) 1 false:=⟨Ft,Hr,abe⟩
instance zi22:ZI prog 22 (.nil):=⟨Ku,Yr⟩
instance ti23:TI prog 23 (.struct [(0,3),(1,22),(2,3)]) 3 true:=⟨Fs,W8,abd⟩
instance zi23:ZI prog 23 (.agg [.int .i64 (0),.nil,.int .i64 (0)]):=⟨Ks,Yq⟩
instance ti24:TI prog 24 (.struct [(0,3),(1,22),(2,3)]) 3 true:=⟨Ax,xH,G6⟩
instance zi24:ZI prog 24 (.agg [.int .i64 (0),.nil,.int .i64 (0)]):=⟨Bh,Yp⟩
instance ti25:TI prog 25 (.slice 30) 1 false:=⟨df,dh,jR⟩
instance zi25:ZI prog 25 (.nil):=⟨yD,F5⟩
instance ti26:TI prog 26 (.func) 1 false:=⟨VZ,W7,abc⟩
instance zi26:ZI prog 26 (.nilf):=⟨Kr,Yo⟩
instance ti27:TI prog 27 (.func) 1 false:=⟨VY,W6,abb⟩
instance zi27:ZI prog 27 (.nilf):=⟨Kq,Yn⟩
instance ti28:TI prog 28 (.slice 33) 1 false:=⟨dz,CC,aba⟩
instance zi28:ZI prog 28 (.nil):=⟨Kp,Ym⟩
instance ti29:TI prog 29 (.struct [(0,4),(1,28),(2,28)]) 3 true:=⟨Fq,W5,aa9⟩
instance zi29:ZI prog 29 (.agg [.bool false,.nil,.nil]):=⟨Ko,Yl⟩
instance ti30:TI prog 30 (.struct [(0,4),(1,28),(2,28)]) 3 true:=⟨mg,bf,dT⟩
instance zi30:ZI prog 30 (.agg [.bool false,.nil,.nil]):=⟨cx,iT⟩
instance ti31:TI prog 31 (.func) 1 false:=⟨VX,W4,aa8⟩
instance zi31:ZI prog 31 (.nilf):=⟨Kn,Yk⟩
instance ti32:TI prog 32 (.func) 1 false:=⟨VV,W3,aa7⟩
instance zi32:ZI prog 32 (.nilf):=⟨Km,Yj⟩
instance ti33:TI prog 33 (.int .u32) 1 false:=⟨VU,kT,aa6⟩
instance zi33:ZI prog 33 (.int .u32 (0)):=⟨dG,gN⟩
instance ti34:TI prog 34 (.iface) 1 false:=⟨VT,W2,aa5⟩
instance zi34:ZI prog 34 (.niface):=⟨Kl,Yi⟩
instance ti35:TI prog 35 (.iface) 1 false:=⟨VS,W1,aa4⟩
instance zi35:ZI prog 35 (.niface):=⟨Kk,Yh⟩
instance ti37:TI prog 37 (.func) 1 false:=⟨VQ,W0,aa3⟩
instance zi37:ZI prog 37 (.nilf):=⟨Kj,Yg⟩
instance ti38:TI prog 38 (.func) 1 false:=⟨VP,WZ,aa2⟩
instance zi38:ZI prog 38 (.nilf):=⟨Ki,Yf⟩
instance ti39:TI prog 39 (.int .i64) 1 false:=⟨Rr,WY,aa1⟩
instance zi39:ZI prog 39 (.int .i64 (0)):=⟨Dt,RP⟩
instance ti40:TI prog 40 (.slice 68) 1 false:=⟨yL,Hq,aa0⟩
instance zi40:ZI prog 40 (.nil):=⟨Kh,Ye⟩
instance ti41:TI prog 41 (.slice 4) 1 false:=⟨mf,CB,aaZ⟩
instance zi41:ZI prog 41 (.nil):=⟨Bg,HP⟩
instance ti42:TI prog 42 (.struct [(0,3),(1,3),(2,40),(3,41)]) 4 true:=⟨Cy,WX,aaY⟩
instance zi42:ZI prog 42 (.agg [.int .i64 (0),.int .i64 (0),.nil,.nil]):=⟨Kg,Yd⟩
instance ti43:TI prog 43 (.struct [(0,3),(1,3),(2,40),(3,41)]) 4 true:=⟨tf,pX,yu⟩
instance zi43:ZI prog 43 (.agg [.int .i64 (0),.int .i64 (0),.nil,.nil]):=⟨sG,Yc⟩
instance ti45:TI prog 45 (.func) 1 false:=⟨VO,WW,aaX⟩
instance zi45:ZI prog 45 (.nilf):=⟨Kf,Yb⟩
instance ti47:TI prog 47 (.func) 1 false:=⟨VN,WV,aaW⟩
instance zi47:ZI prog 47 (.nilf):=⟨Ke,Ya⟩
instance ti48:TI prog 48 (.func) 1 false:=⟨VM,WU,aaV⟩
instance zi48:ZI prog 48 (.nilf):=⟨Kd,X_⟩
instance ti49:TI prog 49 (.func) 1 false:=⟨VL,WS,aaU⟩
instance zi49:ZI prog 49 (.nilf):=⟨Kb,X9⟩
instance ti51:TI prog 51 (.func) 1 false:=⟨VK,WR,aaT⟩
instance zi51:ZI prog 51 (.nilf):=⟨Ka,X8⟩
instance ti52:TI prog 52 (.func) 1 false:=⟨VJ,WQ,aaS⟩
instance zi52:ZI prog 52 (.nilf):=⟨J_,X7⟩
instance ti53:TI prog 53 (.func) 1 false:=⟨VH,WP,aaR⟩
instance zi53:ZI prog 53 (.nilf):=⟨J',X6⟩
instance ti54:TI prog 54 (.func) 1 false:=⟨VG,WO,aaQ⟩
instance zi54:ZI prog 54 (.nilf):=⟨J9,X5⟩
instance ti55:TI prog 55 (.func) 1 false:=⟨VF,WN,aaP⟩
instance zi55:ZI prog 55 (.nilf):=⟨J8,X4⟩
instance ti56:TI prog 56 (.func) 1 false:=⟨VE,WM,aaO⟩
instance zi56:ZI prog 56 (.nilf):=⟨J7,X3⟩
instance ti57:TI prog 57 (.func) 1 false:=⟨VC,WL,aaN⟩
instance zi57:ZI prog 57 (.nilf):=⟨J6,X2⟩
instance ti58:TI prog 58 (.func) 1 false:=⟨VB,WK,aaM⟩
instance zi58:ZI prog 58 (.nilf):=⟨J5,X1⟩
instance ti59:TI prog 59 (.func) 1 false:=⟨VA,WJ,aaL⟩
instance zi59:ZI prog 59 (.nilf):=⟨J4,X0⟩
instance ti61:TI prog 61 (.func) 1 false:=⟨Vz,WI,aaK⟩
instance zi61:ZI prog 61 (.nilf):=⟨J3,XZ⟩
instance ti62:TI prog 62 (.func) 1 false:=⟨Vy,WH,aaJ⟩
instance zi62:ZI prog 62 (.nilf):=⟨J2,XY⟩
instance ti64:TI prog 64 (.func) 1 false:=⟨Vx,WG,aaI⟩
instance zi64:ZI prog 64 (.nilf):=⟨J1,XX⟩
instance ti65:TI prog 65 (.func) 1 false:=⟨Vw,WF,aaH⟩
instance zi65:ZI prog 65 (.nilf):=⟨J0,XW⟩
instance ti66:TI prog 66 (.func) 1 false:=⟨Vv,WD,aaG⟩
instance zi66:ZI prog 66 (.nilf):=⟨JZ,XV⟩
instance ti67:TI prog 67 (.struct [(0,3),(1,3),(2,30)]) 5 true:=⟨Fp,WC,aaF⟩
instance zi67:ZI prog 67 (.agg [.int .i64 (0),.int .i64 (0),.bool false,.nil,.nil]):=⟨JY,XU⟩
instance ti68:TI prog 68 (.struct [(0,3),(1,3),(2,30)]) 5 true:=⟨xE,Ay,aaE⟩
instance zi68:ZI prog 68 (.agg [.int .i64 (0),.int .i64 (0),.bool false,.nil,.nil]):=⟨oh,AN⟩
instance ti69:TI prog 69 (.func) 1 false:=⟨Vu,WB,aaD⟩
instance zi69:ZI prog 69 (.nilf):=⟨JX,XT⟩
instance ti70:TI prog 70 (.func) 1 false:=⟨Vt,WA,aaC⟩
instance zi70:ZI prog 70 (.nilf):=⟨JW,XS⟩
instance ti71:TI prog 71 (.slice 3) 1 false:=⟨ge,ov,Jr⟩
instance zi71:ZI prog 71 (.nil):=⟨yC,F4⟩
instance ti73:TI prog 73 (.func) 1 false:=⟨Vs,Wz,aaB⟩
instance zi73:ZI prog 73 (.nilf):=⟨JV,XR⟩
instance ti74:TI prog 74 (.slice 124) 1 false:=⟨xD,CA,aaA⟩
instance zi74:ZI prog 74 (.nil):=⟨JU,XQ⟩
instance ti75:TI prog 75 (.struct [(0,71),(1,74),(2,3)]) 3 true:=⟨Fo,Wy,aaz⟩
instance zi75:ZI prog 75 (.agg [.nil,.nil,.int .i64 (0)]):=⟨JT,XP⟩
instance ti76:TI prog 76 (.struct [(0,71),(1,74),(2,3)]) 3 true:=⟨wg,qH,yt⟩
instance zi76:ZI prog 76 (.agg [.nil,.nil,.int .i64 (0)]):=⟨tX,XO⟩
instance ti78:TI prog 78 (.func) 1 false:=⟨Vq,Wx,aay⟩
instance zi78:ZI prog 78 (.nilf):=⟨JS,XN⟩
instance ti79:TI prog 79 (.func) 1 false:=⟨Vp,Ww,aax⟩
instance zi79:ZI prog 79 (.nilf):=⟨JR,XM⟩
instance ti80:TI prog 80 (.func) 1 false:=⟨Vo,Wv,aaw⟩
instance zi80:ZI prog 80 (.nilf):=⟨JQ,XL⟩
instance ti81:TI prog 81 (.func) 1 false:=⟨Vn,Wu,aav⟩
instance zi81:ZI prog 81 (.nilf):=⟨JP,XK⟩
instance ti82:TI prog 82 (.slice 71) 1 false:=⟨Aw,Wt,aau⟩
instance zi82:ZI prog 82 (.nil):=⟨JO,XJ⟩
instance ti83:TI prog 83 (.func) 1 false:=⟨Vm,Ws,aat⟩
instance zi83:ZI prog 83 (.nilf):=⟨JN,XI⟩
instance ti84:TI prog 84 (.map 3 3) 1 false:=⟨te,Wp,aas⟩
instance zi84:ZI prog 84 (.nilmap):=⟨JM,XH⟩
instance ti85:TI prog 85 (.slice 25) 1 false:=⟨iR,Wo,aar⟩
instance zi85:ZI prog 85 (.nil):=⟨JL,XG⟩
instance ti87:TI prog 87 (.func) 1 false:=⟨Vl,Wn,aaq⟩
instance zi87:ZI prog 87 (.nilf):=⟨JK,XF⟩
instance ti88:TI prog 88 (.func) 1 false:=⟨Vk,Wj,aap⟩
instance zi88:ZI prog 88 (.nilf):=⟨JJ,XE⟩
instance ti89:TI prog 89 (.func) 1 false:=⟨Vj,Wi,aao⟩
instance zi89:ZI prog 89 (.nilf):=⟨JI,XD⟩
instance ti91:TI prog 91 (.func) 1 false:=⟨Vi,Wh,aan⟩
instance zi91:ZI prog 91 (.nilf):=⟨JH,XC⟩
instance ti92:TI prog 92 (.func) 1 false:=⟨Vh,Wg,aam⟩
instance zi92:ZI prog 92 (.nilf):=⟨JG,XB⟩
instance ti93:TI prog 93 (.func) 1 false:=⟨Vg,Wf,aal⟩
instance zi93:ZI prog 93 (.nilf):=⟨JF,XA⟩
instance ti94:TI prog 94 (.func) 1 false:=⟨Vf,We,aak⟩
instance zi94:ZI prog 94 (.nilf):=⟨JE,Xz⟩
instance ti95:TI prog 95 (.struct [(0,3),(1,3),(2,71)]) 3 true:=⟨Fm,Wd,aaj⟩
instance zi95:ZI prog 95 (.agg [.int .i64 (0),.int .i64 (0),.nil]):=⟨JD,Xy⟩
instance ti96:TI prog 96 (.struct [(0,3),(1,3),(2,71)]) 3 true:=⟨Cx,Fz,UZ⟩
instance zi96:ZI prog 96 (.agg [.int .i64 (0),.int .i64 (0),.nil]):=⟨yB,HO⟩
instance ti97:TI prog 97 (.func) 1 false:=⟨Ve,Wc,aai⟩
instance zi97:ZI prog 97 (.nilf):=⟨JC,Xx⟩
instance ti98:TI prog 98 (.func) 1 false:=⟨Vb,Wb,aah⟩
instance zi98:ZI prog 98 (.nilf):=⟨JB,Xw⟩
instance ti99:TI prog 99 (.func) 1 false:=⟨Va,Wa,aag⟩
instance zi99:ZI prog 99 (.nilf):=⟨JA,Xv⟩
instance ti101:TI prog 101 (.func) 1 false:=⟨L7,NE,Ri⟩
instance zi101:ZI prog 101 (.nilf):=⟨E4,Pn⟩
instance ti102:TI prog 102 (.func) 1 false:=⟨L6,ND,Rh⟩
instance zi102:ZI prog 102 (.nilf):=⟨E3,Pm⟩
instance ti104:TI prog 104 (.func) 1 false:=⟨L5,NC,Rg⟩
instance zi104:ZI prog 104 (.nilf):=⟨E0,Pl⟩
instance ti105:TI prog 105 (.func) 1 false:=⟨LZ,NA,Rf⟩
instance zi105:ZI prog 105 (.nilf):=⟨EZ,Pk⟩
instance ti106:TI prog 106 (.func) 1 false:=⟨LY,Nz,Re⟩
instance zi106:ZI prog 106 (.nilf):=⟨EY,Pj⟩
instance ti107:TI prog 107 (.func) 1 false:=⟨LX,Ny,Rc⟩
instance zi107:ZI prog 107 (.nilf):=⟨EW,Pi⟩
instance ti108:TI prog 108 (.func) 1 false:=⟨LW,Nx,Rb⟩
instance zi108:ZI prog 108 (.nilf):=⟨EV,Ph⟩
instance ti109:TI prog 109 (.func) 1 false:=⟨LU,Nw,Ra⟩
instance zi109:ZI prog 109 (.nilf):=⟨EU,Pg⟩
instance ti111:TI prog 111 (.func) 1 false:=⟨LS,Nv,Q_⟩
instance zi111:ZI prog 111 (.nilf):=⟨ET,Pf⟩
instance ti113:TI prog 113 (.func) 1 false:=⟨LR,Nu,Q9⟩
instance zi113:ZI prog 113 (.nilf):=⟨ES,Pe⟩
instance ti114:TI prog 114 (.func) 1 false:=⟨LQ,Nt,Q8⟩
instance zi114:ZI prog 114 (.nilf):=⟨ER,Pd⟩
instance ti116:TI prog 116 (.func) 1 false:=⟨LP,Ns,Q7⟩
instance zi116:ZI prog 116 (.nilf):=⟨EQ,Pc⟩
instance ti117:TI prog 117 (.ptr) 1 false:=⟨LO,Nr,Q6⟩
instance zi117:ZI prog 117 (.nilp):=⟨EP,Pb⟩
instance ti118:TI prog 118 (.func) 1 false:=⟨LN,Nq,Q5⟩
instance zi118:ZI prog 118 (.nilf):=⟨EO,Pa⟩
instance ti119:TI prog 119 (.func) 1 false:=⟨LM,Np,Q4⟩
instance zi119:ZI prog 119 (.nilf):=⟨EN,O_⟩
instance ti120:TI prog 120 (.func) 1 false:=⟨LL,Nn,Q3⟩
instance zi120:ZI prog 120 (.nilf):=⟨EM,O'⟩
instance ti121:TI prog 121 (.func) 1 false:=⟨LK,Nm,Q2⟩
instance zi121:ZI prog 121 (.nilf):=⟨EK,O9⟩
instance ti122:TI prog 122 (.func) 1 false:=⟨LJ,Nl,Q1⟩
instance zi122:ZI prog 122 (.nilf):=⟨EJ,O8⟩
instance ti123:TI prog 123 (.struct [(0,3),(1,3),(2,3)]) 3 true:=⟨yP,Nk,Q0⟩
instance zi123:ZI prog 123 (.agg [.int .i64 (0),.int .i64 (0),.int .i64 (0)]):=⟨EI,O7⟩
instance ti124:TI prog 124 (.struct [(0,3),(1,3),(2,3)]) 3 true:=⟨ue,pE,Aj⟩
instance zi124:ZI prog 124 (.agg [.int .i64 (0),.int .i64 (0),.int .i64 (0)]):=⟨ol,wV⟩
instance ti125:TI prog 125 (.func) 1 false:=⟨LI,Nj,QZ⟩
instance zi125:ZI prog 125 (.nilf):=⟨EH,O6⟩
instance ti126:TI prog 126 (.func) 1 false:=⟨LH,Ni,QY⟩
instance zi126:ZI prog 126 (.nilf):=⟨EG,O5⟩
instance ti127:TI prog 127 (.func) 1 false:=⟨LG,Nh,QX⟩
instance zi127:ZI prog 127 (.nilf):=⟨EF,O4⟩
instance ti128:TI prog 128 (.slice 41) 1 false:=⟨Bt,Ng,QW⟩
instance zi128:ZI prog 128 (.nil):=⟨EE,O3⟩
instance ti129:TI prog 129 (.func) 1 false:=⟨LF,Nf,QV⟩
instance zi129:ZI prog 129 (.nilf):=⟨ED,O2⟩
instance ti130:TI prog 130 (.func) 1 false:=⟨LD,Nc,QU⟩
instance zi130:ZI prog 130 (.nilf):=⟨EC,O1⟩
instance ti131:TI prog 131 (.func) 1 false:=⟨LC,Nb,QT⟩
instance zi131:ZI prog 131 (.nilf):=⟨EB,O0⟩
instance ti133:TI prog 133 (.func) 1 false:=⟨LB,Na,QS⟩
instance zi133:ZI prog 133 (.nilf):=⟨EA,OY⟩
instance ti135:TI prog 135 (.func) 1 false:=⟨LA,M_,QR⟩
instance zi135:ZI prog 135 (.nilf):=⟨Ez,OX⟩
instance ti137:TI prog 137 (.func) 1 false:=⟨Lz,M9,QQ⟩
instance zi137:ZI prog 137 (.nilf):=⟨Ey,OV⟩
instance ti139:TI prog 139 (.func) 1 false:=⟨Ly,M8,QP⟩
instance zi139:ZI prog 139 (.nilf):=⟨Ex,OU⟩
instance ti140:TI prog 140 (.slice 9) 1 false:=⟨Lx,M7,QO⟩
instance zi140:ZI prog 140 (.nil):=⟨Ew,OT⟩
instance ti142:TI prog 142 (.func) 1 false:=⟨Lw,M6,QN⟩
instance zi142:ZI prog 142 (.nilf):=⟨Ev,OS⟩
instance ti143:TI prog 143 (.func) 1 false:=⟨Lv,M5,QM⟩
instance zi143:ZI prog 143 (.nilf):=⟨Eu,OR⟩
instance ti144:TI prog 144 (.ptr) 1 false:=⟨Lu,BG,QL⟩
instance zi144:ZI prog 144 (.nilp):=⟨Et,OQ⟩
instance ti145:TI prog 145 (.slice 5) 1 false:=⟨Lt,BF,QK⟩
instance zi145:ZI prog 145 (.nil):=⟨Es,OP⟩
instance ti146:TI prog 146 (.struct [(0,144),(1,145)]) 2 true:=⟨Bs,M4,QJ⟩
instance zi146:ZI prog 146 (.agg [.nilp,.nil]):=⟨Er,OO⟩
instance ti147:TI prog 147 (.struct [(0,144),(1,145)]) 2 true:=⟨Br,M3,QI⟩
instance zi147:ZI prog 147 (.agg [.nilp,.nil]):=⟨Ep,ON⟩
instance ti149:TI prog 149 (.func) 1 false:=⟨Ls,MZ,QH⟩
instance zi149:ZI prog 149 (.nilf):=⟨Eo,OM⟩
instance ti150:TI prog 150 (.func) 1 false:=⟨Lr,MY,QG⟩
instance zi150:ZI prog 150 (.nilf):=⟨Em,OL⟩
instance ti151:TI prog 151 (.func) 1 false:=⟨Lq,MX,QF⟩
instance zi151:ZI prog 151 (.nilf):=⟨El,OK⟩
instance ti152:TI prog 152 (.func) 1 false:=⟨Lp,MW,QE⟩
instance zi152:ZI prog 152 (.nilf):=⟨Ek,OJ⟩
instance ti153:TI prog 153 (.int .u64) 1 false:=⟨Lo,MV,QD⟩
instance zi153:ZI prog 153 (.int .u64 (0)):=⟨Ej,OI⟩
instance ti154:TI prog 154 (.func) 1 false:=⟨Ln,MU,QC⟩
instance zi154:ZI prog 154 (.nilf):=⟨Ei,OH⟩
instance ti155:TI prog 155 (.int .u64) 1 false:=⟨Lm,MT,QB⟩
instance zi155:ZI prog 155 (.int .u64 (0)):=⟨Eh,OG⟩
instance ti157:TI prog 157 (.func) 1 false:=⟨Ll,MS,QA⟩
instance zi157:ZI prog 157 (.nilf):=⟨Eg,OE⟩
instance ti158:TI prog 158 (.func) 1 false:=⟨Lk,MQ,Qz⟩
instance zi158:ZI prog 158 (.nilf):=⟨Ef,OD⟩
instance ti160:TI prog 160 (.func) 1 false:=⟨Lj,MP,Qy⟩
instance zi160:ZI prog 160 (.nilf):=⟨Ee,OC⟩
instance ti161:TI prog 161 (.func) 1 false:=⟨Li,MO,Qx⟩
instance zi161:ZI prog 161 (.nilf):=⟨Ed,OB⟩
instance ti162:TI prog 162 (.ptr) 1 false:=⟨Lh,MN,Qw⟩
instance zi162:ZI prog 162 (.nilp):=⟨Ec,OA⟩
instance ti163:TI prog 163 (.struct [(0,24),(3,71),(4,41)]) 5 true:=⟨yO,MM,Qv⟩
instance zi163:ZI prog 163 (.agg [.int .i64 (0),.nil,.int .i64 (0),.nil,.nil]):=⟨Eb,Oz⟩
instance ti164:TI prog 164 (.struct [(0,24),(3,71),(4,41)]) 5 true:=⟨wI,FC,Qu⟩
instance zi164:ZI prog 164 (.agg [.int .i64 (0),.nil,.int .i64 (0),.nil,.nil]):=⟨Ao,Oy⟩
instance ti165:TI prog 165 (.func) 1 false:=⟨Lg,ML,Qt⟩
instance zi165:ZI prog 165 (.nilf):=⟨Ea,Ox⟩
instance ti166:TI prog 166 (.func) 1 false:=⟨Lf,MK,Qr⟩
instance zi166:ZI prog 166 (.nilf):=⟨D_,Ow⟩
instance ti167:TI prog 167 (.map 124 3) 1 false:=⟨yN,BE,Qq⟩
instance zi167:ZI prog 167 (.nilmap):=⟨D',Ov⟩
instance ti168:TI prog 168 (.map 197 3) 1 false:=⟨yM,BD,Qp⟩
instance zi168:ZI prog 168 (.nilmap):=⟨D9,Ou⟩
instance ti169:TI prog 169 (.struct [(0,71),(1,71),(2,74),(3,167),(4,168)]) 5 true:=⟨ud,MJ,Qo⟩
instance zi169:ZI prog 169 (.agg [.nil,.nil,.nil,.nilmap,.nilmap]):=⟨D8,Ot⟩
instance ti170:TI prog 170 (.struct [(0,71),(1,71),(2,74),(3,167),(4,168)]) 5 true:=⟨sK,FB,Qn⟩
instance zi170:ZI prog 170 (.agg [.nil,.nil,.nil,.nilmap,.nilmap]):=⟨Am,Oq⟩
instance ti171:TI prog 171 (.func) 1 false:=⟨Le,MI,Qm⟩
instance zi171:ZI prog 171 (.nilf):=⟨D7,Oo⟩
instance ti172:TI prog 172 (.func) 1 false:=⟨Ld,MH,Ql⟩
instance zi172:ZI prog 172 (.nilf):=⟨D6,On⟩
instance ti173:TI prog 173 (.func) 1 false:=⟨Lc,MG,Qk⟩
instance zi173:ZI prog 173 (.nilf):=⟨D5,Om⟩
instance ti174:TI prog 174 (.func) 1 false:=⟨Lb,MF,Qj⟩
instance zi174:ZI prog 174 (.nilf):=⟨D4,Ol⟩
instance ti175:TI prog 175 (.map 3 4) 1 false:=⟨uc,ME,Qi⟩
instance zi175:ZI prog 175 (.nilmap):=⟨D3,Ok⟩
instance ti176:TI prog 176 (.func) 1 false:=⟨La,MD,Qh⟩
instance zi176:ZI prog 176 (.nilf):=⟨D2,Oj⟩
instance ti177:TI prog 177 (.func) 1 false:=⟨K_,MC,Qg⟩
instance zi177:ZI prog 177 (.nilf):=⟨D1,Oi⟩
instance ti178:TI prog 178 (.func) 1 false:=⟨K',MB,Qf⟩
instance zi178:ZI prog 178 (.nilf):=⟨D0,Oh⟩
instance ti179:TI prog 179 (.array 9 5) 9 true:=⟨K9,MA,Qe⟩
instance zi179:ZI prog 179 (.agg [.int .u8 (0),.int .u8 (0),.int .u8 (0),.int .u8 (0),.int .u8 (0),.int .u8 (0),.int .u8 (0),.int .u8 (0),.int .u8 (0)]):=⟨DZ,Og⟩
instance ti180:TI prog 180 (.func) 1 false:=⟨K8,Mz,Qd⟩
instance zi180:ZI prog 180 (.nilf):=⟨DY,Of⟩
instance ti181:TI prog 181 (.array 256 4) 256 true:=⟨K7,My,Qc⟩
instance ti182:TI prog 182 (.array 256 4) 256 true:=⟨K6,Mx,Qb⟩
instance ti184:TI prog 184 (.func) 1 false:=⟨K5,Mw,Qa⟩
instance zi184:ZI prog 184 (.nilf):=⟨DW,Oe⟩
instance ti185:TI prog 185 (.func) 1 false:=⟨K4,Mu,P_⟩
instance zi185:ZI prog 185 (.nilf):=⟨DV,Od⟩
instance ti186:TI prog 186 (.ptr) 1 false:=⟨K3,Mt,P'⟩
instance zi186:ZI prog 186 (.nilp):=⟨DU,Oc⟩
instance ti187:TI prog 187 (.ptr) 1 false:=⟨K2,BC,P9⟩
instance zi187:ZI prog 187 (.nilp):=⟨DT,Ob⟩
instance ti188:TI prog 188 (.func) 1 false:=⟨K1,Ms,P8⟩
instance zi188:ZI prog 188 (.nilf):=⟨DS,Oa⟩
instance ti189:TI prog 189 (.func) 1 false:=⟨K0,Mr,P7⟩
instance zi189:ZI prog 189 (.nilf):=⟨DR,N_⟩
instance ti190:TI prog 190 (.func) 1 false:=⟨KZ,Mq,P6⟩
instance zi190:ZI prog 190 (.nilf):=⟨DQ,N9⟩
instance ti192:TI prog 192 (.func) 1 false:=⟨KY,Mp,P5⟩
instance zi192:ZI prog 192 (.nilf):=⟨DP,N8⟩
instance ti193:TI prog 193 (.func) 1 false:=⟨KX,Mo,P4⟩
instance zi193:ZI prog 193 (.nilf):=⟨DO,N7⟩
instance ti195:TI prog 195 (.func) 1 false:=⟨KW,Mn,P3⟩
instance zi195:ZI prog 195 (.nilf):=⟨DN,N6⟩
instance ti196:TI prog 196 (.func) 1 false:=⟨KV,Mm,P0⟩
instance zi196:ZI prog 196 (.nilf):=⟨DM,N5⟩
instance ti197:TI prog 197 (.array 3 3) 3 true:=⟨Fv,yU,Cv⟩
instance zi197:ZI prog 197 (.agg [.int .i64 (0),.int .i64 (0),.int .i64 (0)]):=⟨Al,F6⟩
instance ti199:TI prog 199 (.func) 1 false:=⟨KU,Ml,PZ⟩
instance zi199:ZI prog 199 (.nilf):=⟨DL,N4⟩
instance ti200:TI prog 200 (.func) 1 false:=⟨KT,Mk,PY⟩
instance zi200:ZI prog 200 (.nilf):=⟨DJ,N3⟩
instance ti201:TI prog 201 (.array 256 5) 256 true:=⟨KS,Mj,PW⟩
instance ti202:TI prog 202 (.struct [(0,5),(1,5)]) 2 true:=⟨Bq,Mi,PV⟩
instance zi202:ZI prog 202 (.agg [.int .u8 (0),.int .u8 (0)]):=⟨DI,N0⟩
instance ti203:TI prog 203 (.struct [(0,5),(1,5)]) 2 true:=⟨Bp,Mh,PU⟩
instance zi203:ZI prog 203 (.agg [.int .u8 (0),.int .u8 (0)]):=⟨DH,NZ⟩
instance ti204:TI prog 204 (.array 16 203) 32 true:=⟨KR,Mg,PT⟩
instance zi204:ZI prog 204 (.agg [.int .u8 (0),.int .u8 (0),.int .u8 (0),.int .u8 (0),.int .u8 (0),.int .u8 (0),.int .u8 (0),.int .u8 (0),.int .u8 (0),.int .u8 (0),.int .u8 (0),.int .u8 (0),.int .u8 (0),.int .u8 (0),.int .u8 (0),.int .u8 (0),.int .u8 (0),.int .u8 (0),.int .u8 (0),.int .u8 (0),.int .u8 (0),.int .u8 (0),.int .u8 (0),.int .u8 (0),.int .u8 (0),.int .u8 (0),.int .u8 (0),.int .u8 (0),.int .u8 (0),.int .u8 (0),.int .u8 (0),.int .u8 (0)]):=⟨DG,NY⟩
instance ti205:TI prog 205 (.func) 1 false:=⟨KQ,Mf,PS⟩
instance zi205:ZI prog 205 (.nilf):=⟨DF,NX⟩
instance ti206:TI prog 206 (.func) 1 false:=⟨KP,Me,PR⟩
instance zi206:ZI prog 206 (.nilf):=⟨DE,NW⟩
instance ti207:TI prog 207 (.func) 1 false:=⟨KO,Md,PQ⟩
instance zi207:ZI prog 207 (.nilf):=⟨DD,NV⟩
instance ti208:TI prog 208 (.struct [(0,17),(1,17),(2,17),(3,9)]) 4 true:=⟨wH,Mc,PP⟩
instance ti209:TI prog 209 (.struct [(0,17),(1,17),(2,17),(3,9)]) 4 true:=⟨wG,Mb,PO⟩
instance ti213:TI prog 213 (.func) 1 false:=⟨KN,Ma,PN⟩
instance zi213:ZI prog 213 (.nilf):=⟨DB,NU⟩
instance ti214:TI prog 214 (.int .u8) 1 false:=⟨KM,BB,PM⟩
instance zi214:ZI prog 214 (.int .u8 (0)):=⟨DA,NT⟩
instance ti215:TI prog 215 (.int .u8) 1 false:=⟨KK,BA,PK⟩
instance zi215:ZI prog 215 (.int .u8 (0)):=⟨Dz,NS⟩
instance ti216:TI prog 216 (.func) 1 false:=⟨KJ,Bz,PJ⟩
instance zi216:ZI prog 216 (.nilf):=⟨Dy,NR⟩
instance ti217:TI prog 217 (.int .i32) 1 false:=⟨KI,Bx,PI⟩
instance zi217:ZI prog 217 (.int .i32 (0)):=⟨Dx,NQ⟩
instance ti218:TI prog 218 (.int .i32) 1 false:=⟨KH,Bw,PH⟩
instance zi218:ZI prog 218 (.int .i32 (0)):=⟨Dw,NP⟩
instance ti219:TI prog 219 (.struct [(0,12),(1,12),(2,33),(3,214),(4,5),(5,5),(6,215),(7,216),(8,187),(9,217),(10,218)]) 11 true:=⟨mK,L_,PG⟩
instance zi219:ZI prog 219 (.agg [.int .u64 (0),.int .u64 (0),.int .u32 (0),.int .u8 (0),.int .u8 (0),.int .u8 (0),.int .u8 (0),.nilf,.nilp,.int .i32 (0),.int .i32 (0)]):=⟨Dv,NO⟩
instance ti220:TI prog 220 (.struct [(0,12),(1,12),(2,33),(3,214),(4,5),(5,5),(6,215),(7,216),(8,187),(9,217),(10,218)]) 11 true:=⟨mJ,L9,PF⟩
instance zi220:ZI prog 220 (.agg [.int .u64 (0),.int .u64 (0),.int .u32 (0),.int .u8 (0),.int .u8 (0),.int .u8 (0),.int .u8 (0),.nilf,.nilp,.int .i32 (0),.int .i32 (0)]):=⟨Du,NN⟩
instance fi7_0:FI prog 7 0 0 2:=⟨YU⟩
instance fi7_1:FI prog 7 1 1 3:=⟨YT⟩
instance fi7_2:FI prog 7 2 2 4:=⟨YS⟩
instance fi7_3:FI prog 7 3 3 6:=⟨YR⟩
instance fi8_0:FI prog 8 0 0 2:=⟨YQ⟩
instance fi8_1:FI prog 8 1 1 3:=⟨YP⟩
instance fi8_2:FI prog 8 2 2 4:=⟨YO⟩
instance fi8_3:FI prog 8 3 3 6:=⟨YN⟩
instance fi13_0:FI prog 13 0 0 9:=⟨SX⟩
instance fi13_1:FI prog 13 1 1 12:=⟨SW⟩
instance fi14_0:FI prog 14 0 0 9:=⟨SV⟩
instance fi14_1:FI prog 14 1 1 12:=⟨SU⟩
instance fi18_0:FI prog 18 0 0 17:=⟨ST⟩
instance fi19_0:FI prog 19 0 0 17:=⟨SS⟩
instance fi23_0:FI prog 23 0 0 3:=⟨SR⟩
instance fi23_1:FI prog 23 1 1 22:=⟨SQ⟩
instance fi23_2:FI prog 23 2 2 3:=⟨SP⟩
instance fi24_0:FI prog 24 0 0 3:=⟨SO⟩
instance fi24_1:FI prog 24 1 1 22:=⟨SN⟩
instance fi24_2:FI prog 24 2 2 3:=⟨SL⟩
instance fi29_0:FI prog 29 0 0 4:=⟨SK⟩
instance fi29_1:FI prog 29 1 1 28:=⟨SJ⟩
instance fi29_2:FI prog 29 2 2 28:=⟨SI⟩
instance fi30_0:FI prog 30 0 0 4:=⟨SH⟩
instance fi30_1:FI prog 30 1 1 28:=⟨SG⟩
instance fi30_2:FI prog 30 2 2 28:=⟨SF⟩
instance fi42_0:FI prog 42 0 0 3:=⟨SE⟩
instance fi42_1:FI prog 42 1 1 3:=⟨SD⟩
instance fi42_2:FI prog 42 2 2 40:=⟨SC⟩
instance fi42_3:FI prog 42 3 3 41:=⟨SB⟩
instance fi43_0:FI prog 43 0 0 3:=⟨SA⟩
instance fi43_1:FI prog 43 1 1 3:=⟨Sz⟩
instance fi43_2:FI prog 43 2 2 40:=⟨Sy⟩
instance fi43_3:FI prog 43 3 3 41:=⟨Sx⟩
instance fi67_0:FI prog 67 0 0 3:=⟨Sw⟩
instance fi67_1:FI prog 67 1 1 3:=⟨Sv⟩
instance fi67_2:FI prog 67 2 2 30:=⟨Su⟩
instance fi68_0:FI prog 68 0 0 3:=⟨Ss⟩
instance fi68_1:FI prog 68 1 1 3:=⟨Sr⟩
instance fi68_2:FI prog 68 2 2 30:=⟨so⟩
instance fi75_0:FI prog 75 0 0 71:=⟨Sq⟩
instance fi75_1:FI prog 75 1 1 74:=⟨Sp⟩
instance fi75_2:FI prog 75 2 2 3:=⟨So⟩
instance fi76_0:FI prog 76 0 0 71:=⟨Sn⟩
instance fi76_1:FI prog 76 1 1 74:=⟨Sm⟩
instance fi76_2:FI prog 76 2 2 3:=⟨Sl⟩
instance fi95_0:FI prog 95 0 0 3:=⟨Sk⟩
instance fi95_1:FI prog 95 1 1 3:=⟨Sj⟩
instance fi95_2:FI prog 95 2 2 71:=⟨Si⟩
instance fi96_0:FI prog 96 0 0 3:=⟨Sh⟩
instance fi96_1:FI prog 96 1 1 3:=⟨Sg⟩
instance fi96_2:FI prog 96 2 2 71:=⟨Sf⟩
instance fi123_0:FI prog 123 0 0 3:=⟨Jb⟩
instance fi123_1:FI prog 123 1 1 3:=⟨Ja⟩
instance fi123_2:FI prog 123 2 2 3:=⟨I_⟩
instance fi124_0:FI prog 124 0 0 3:=⟨I'⟩
instance fi124_1:FI prog 124 1 1 3:=⟨I9⟩
instance fi124_2:FI prog 124 2 2 3:=⟨I8⟩
instance fi146_0:FI prog 146 0 0 144:=⟨I7⟩
instance fi146_1:FI prog 146 1 1 145:=⟨I6⟩
instance fi147_0:FI prog 147 0 0 144:=⟨I5⟩
instance fi147_1:FI prog 147 1 1 145:=⟨I4⟩
instance fi163_0:FI prog 163 0 0 24:=⟨I3⟩
instance fi163_1:FI prog 163 1 3 71:=⟨I2⟩
instance fi163_2:FI prog 163 2 4 41:=⟨I1⟩
instance fi164_0:FI prog 164 0 0 24:=⟨I0⟩
instance fi164_1:FI prog 164 1 3 71:=⟨IZ⟩
instance fi164_2:FI prog 164 2 4 41:=⟨IY⟩
instance fi169_0:FI prog 169 0 0 71:=⟨IX⟩
instance fi169_1:FI prog 169 1 1 71:=⟨IW⟩
instance fi169_2:FI prog 169 2 2 74:=⟨IV⟩
instance fi169_3:FI prog 169 3 3 167:=⟨IU⟩
instance fi169_4:FI prog 169 4 4 168:=⟨IR⟩
instance fi170_0:FI prog 170 0 0 71:=⟨IQ⟩
instance fi170_1:FI prog 170 1 1 71:=⟨IP⟩
instance fi170_2:FI prog 170 2 2 74:=⟨IM⟩
instance fi170_3:FI prog 170 3 3 167:=⟨IL⟩
instance fi170_4:FI prog 170 4 4 168:=⟨IK⟩
instance fi202_0:FI prog 202 0 0 5:=⟨IJ⟩
instance fi202_1:FI prog 202 1 1 5:=⟨II⟩
instance fi203_0:FI prog 203 0 0 5:=⟨IH⟩
instance fi203_1:FI prog 203 1 1 5:=⟨IG⟩
instance fi208_0:FI prog 208 0 0 17:=⟨IF⟩
instance fi208_1:FI prog 208 1 1 17:=⟨IE⟩
instance fi208_2:FI prog 208 2 2 17:=⟨ID⟩
instance fi208_3:FI prog 208 3 3 9:=⟨IC⟩
instance fi209_0:FI prog 209 0 0 17:=⟨IB⟩
instance fi209_1:FI prog 209 1 1 17:=⟨IA⟩
instance fi209_2:FI prog 209 2 2 17:=⟨Iz⟩
instance fi209_3:FI prog 209 3 3 9:=⟨Iy⟩
instance fi219_0:FI prog 219 0 0 12:=⟨Ix⟩
instance fi219_1:FI prog 219 1 1 12:=⟨Iw⟩
instance fi219_2:FI prog 219 2 2 33:=⟨Iv⟩
instance fi219_3:FI prog 219 3 3 214:=⟨Iu⟩
instance fi219_4:FI prog 219 4 4 5:=⟨It⟩
instance fi219_5:FI prog 219 5 5 5:=⟨Is⟩
instance fi219_6:FI prog 219 6 6 215:=⟨Ir⟩
instance fi219_7:FI prog 219 7 7 216:=⟨Iq⟩
instance fi219_8:FI prog 219 8 8 187:=⟨Ip⟩
instance fi219_9:FI prog 219 9 9 217:=⟨Io⟩
instance fi219_10:FI prog 219 10 10 218:=⟨GF⟩
instance fi220_0:FI prog 220 0 0 12:=⟨Im⟩
instance fi220_1:FI prog 220 1 1 12:=⟨Il⟩
instance fi220_2:FI prog 220 2 2 33:=⟨Ik⟩
instance fi220_3:FI prog 220 3 3 214:=⟨Ij⟩
instance fi220_4:FI prog 220 4 4 5:=⟨Ii⟩
instance fi220_5:FI prog 220 5 5 5:=⟨Ih⟩
instance fi220_6:FI prog 220 6 6 215:=⟨Ig⟩
instance fi220_7:FI prog 220 7 7 216:=⟨Ie⟩
instance fi220_8:FI prog 220 8 8 187:=⟨Ic⟩
instance fi220_9:FI prog 220 9 9 217:=⟨Ib⟩
instance fi220_10:FI prog 220 10 10 218:=⟨GE⟩
instance ceeNode {r:GNode} {n:Nat} {v:AV} [h:CellI (.agg [.int .i64 r.F,.int .i64 r.K,eL (AV.int .i64) r.M]) n v]:CellI (cz r) n v:=⟨h.e⟩
instance steNode {r:GNode} {n:Nat} {w v:AV} [h:StI (.agg [.int .i64 r.F,.int .i64 r.K,eL (AV.int .i64) r.M]) n w v]:StI (cz r) n w v:=⟨h.e⟩
instance ceeFormula {r:GFormula} {n:Nat} {v:AV} [h:CellI (.agg [.int .i64 r.A,eL cz r.N,.int .i64 r.Z]) n v]:CellI (aI r) n v:=⟨h.e⟩
instance steFormula {r:GFormula} {n:Nat} {w v:AV} [h:StI (.agg [.int .i64 r.A,eL cz r.N,.int .i64 r.Z]) n w v]:StI (aI r) n w v:=⟨h.e⟩
instance ceeRat {r:GRat} {n:Nat} {v:AV} [h:CellI (.agg [.bool r.U,eL (AV.int .u32) r.L,eL (AV.int .u32) r.W]) n v]:CellI (af r) n v:=⟨h.e⟩
instance steRat {r:GRat} {n:Nat} {w v:AV} [h:StI (.agg [.bool r.U,eL (AV.int .u32) r.L,eL (AV.int .u32) r.W]) n w v]:StI (af r) n w v:=⟨h.e⟩
instance ceeMove {r:GMove} {n:Nat} {v:AV} [h:CellI (.agg [.int .i64 r.D,.int .i64 r.To,.bool r.X.U,eL (AV.int .u32) r.X.L,eL (AV.int .u32) r.X.W]) n v]:CellI (cX r) n v:=⟨h.e⟩
instance steMove {r:GMove} {n:Nat} {w v:AV} [h:StI (.agg [.int .i64 r.D,.int .i64 r.To,.bool r.X.U,eL (AV.int .u32) r.X.L,eL (AV.int .u32) r.X.W]) n w v]:StI (cX r) n w v:=⟨h.e⟩
instance ceeChain {r:GChain} {n:Nat} {v:AV} [h:CellI (.agg [.int .i64 r.H,.int .i64 r.O,eL cX r.V,eL AV.bool r.B]) n v]:CellI (bq r) n v:=⟨h.e⟩
instance steChain {r:GChain} {n:Nat} {w v:AV} [h:StI (.agg [.int .i64 r.H,.int .i64 r.O,eL cX r.V,eL AV.bool r.B]) n w v]:StI (bq r) n w v:=⟨h.e⟩
instance ceeDNode {r:GDNode} {n:Nat} {v:AV} [h:CellI (.agg [.int .i64 r.Y,.int .i64 r.E,.int .i64 r.I]) n v]:CellI (aG r) n v:=⟨h.e⟩
instance steDNode {r:GDNode} {n:Nat} {w v:AV} [h:StI (.agg [.int .i64 r.Y,.int .i64 r.E,.int .i64 r.I]) n w v]:StI (aG r) n w v:=⟨h.e⟩
instance ceeDiagram {r:GDiagram} {n:Nat} {v:AV} [h:CellI (.agg [eL (AV.int .i64) r.T,eL aG r.N,.int .i64 r.G]) n v]:CellI (lE r) n v:=⟨h.e⟩
instance steDiagram {r:GDiagram} {n:Nat} {w v:AV} [h:StI (.agg [eL (AV.int .i64) r.T,eL aG r.N,.int .i64 r.G]) n w v]:StI (lE r) n w v:=⟨h.e⟩
instance ceewalk {r:Gwalk} {n:Nat} {v:AV} [h:CellI (.agg [.int .i64 r.J.A,eL cz r.J.N,.int .i64 r.J.Z,eL (AV.int .i64) r.events,eL AV.bool r.seen]) n v]:CellI (Pz r) n v:=⟨h.e⟩
instance stewalk {r:Gwalk} {n:Nat} {w v:AV} [h:StI (.agg [.int .i64 r.J.A,eL cz r.J.N,.int .i64 r.J.Z,eL (AV.int .i64) r.events,eL AV.bool r.seen]) n w v]:StI (Pz r) n w v:=⟨h.e⟩
end Go.Proofs.YtcmagbhiioheeaaGreatDoor
