/- The types' table of this seat, as equations for the formulas. Conditions: none. -/
import Derived.Test.YtbnjpdocceckeaaGreatGj
import Derived.Test.YtbnjpdocceckeaaGreatWa
import Derived.Test.YtbnjpdocceckeaaGreatProg
import Derived.KernelRfl
set_option linter.all false
namespace Go.Proofs.YtbnjpdocceckeaaGreat
open Go.Gg Tryz
theorem kR{P:Prop}(h:P:=by kernel_rfl):P:=h
theorem mixed:prog.follows .mixedOrders=true:=kR
theorem ok1:di prog 1=true:=kR
theorem ok2:di prog 2=true:=kR
theorem td3:td prog 3 = .int .i64:=kR
theorem Se:sz prog 3=1:=kR
theorem nC:UQ prog 3=8:=kR
theorem ag3:bF prog 3=false:=kR
theorem dg:QM prog 3 = .int .i64 (0):=kR
theorem Rz:di prog 3=true:=kR
theorem sz4:sz prog 4=1:=kR
theorem Dq:UQ prog 4=1:=kR
theorem tA:QM prog 4 = .bool false:=kR
theorem Ww:di prog 4=true:=kR
theorem td9:td prog 9 = .str:=kR
theorem HD:td prog 22 = .slice 58:=kR
theorem N9:sz prog 22=1:=kR
theorem Pa:bF prog 22=false:=kR
theorem My:td prog 24 = .struct [(0,3),(1,22),(2,3)]:=kR
theorem DU:sz prog 24=3:=kR
theorem Le:bF prog 24=true:=kR
theorem Hk:QM prog 24 = .agg [.int .i64 (0),.nil,.int .i64 (0)]:=kR
theorem Jg:(di prog 24&&fR (QM prog 24)&&List.all [(0,3),(1,22),(2,3)] (λf=>decide (0<sz prog f.2)))=true:=kR
theorem HI:List.map (λ(f:Nat×TypeId)=>sz prog f.2) [(0,3),(1,22),(2,3)]=[1,1,1]:=kR
theorem bW:td prog 27 = .slice 3:=kR
theorem JW:sz prog 27=1:=kR
theorem sP:UQ prog 27=24:=kR
theorem O_:bF prog 27=false:=kR
theorem jd:QM prog 27 = .nil:=kR
theorem po:di prog 27=true:=kR
theorem HM:sz prog 29=1:=kR
theorem NA:bF prog 29=false:=kR
theorem NR:QM prog 29 = .Qg:=kR
theorem Pw:di prog 29=true:=kR
theorem Pj:td prog 36 = .int .i64:=kR
theorem NQ:QM prog 36 = .int .i64 (0):=kR
theorem Pv:di prog 36=true:=kR
theorem Pi:td prog 37 = .slice 29:=kR
theorem NX:td prog 41 = .slice 45:=kR
theorem O6:UQ prog 45=16:=kR
theorem Lx:QM prog 45 = .agg [.int .i64 (0),.int .i64 (0)]:=kR
theorem Ok:di prog 45=true:=kR
theorem Gf:td prog 49 = .slice 52:=kR
theorem jZ:td prog 50 = .slice 147:=kR
theorem Mx:td prog 52 = .struct [(0,4),(1,50),(2,50)]:=kR
theorem pB:sz prog 52=3:=kR
theorem O5:UQ prog 52=56:=kR
theorem z_:bF prog 52=true:=kR
theorem ET:QM prog 52 = .agg [.bool false,.nil,.nil]:=kR
theorem Pu:di prog 52=true:=kR
theorem Jf:(di prog 52&&fR (QM prog 52)&&List.all [(0,4),(1,50),(2,50)] (λf=>decide (0<sz prog f.2)))=true:=kR
theorem HH:List.map (λ(f:Nat×TypeId)=>sz prog f.2) [(0,4),(1,50),(2,50)]=[1,1,1]:=kR
theorem NW:td prog 58 = .struct [(0,3),(1,3),(2,27)]:=kR
theorem HL:sz prog 58=3:=kR
theorem O4:UQ prog 58=40:=kR
theorem O':bF prog 58=true:=kR
theorem Cm:QM prog 58 = .agg [.int .i64 (0),.int .i64 (0),.nil]:=kR
theorem MT:di prog 58=true:=kR
theorem L_:(di prog 58&&fR (QM prog 58)&&List.all [(0,3),(1,3),(2,27)] (λf=>decide (0<sz prog f.2)))=true:=kR
theorem LF:List.map (λ(f:Nat×TypeId)=>sz prog f.2) [(0,3),(1,3),(2,27)]=[1,1,1]:=kR
theorem JS:td prog 64 = .func:=kR
theorem jV:td prog 67 = .slice 73:=kR
theorem pA:sz prog 70=1:=kR
theorem px:td prog 71 = .array 2 70:=kR
theorem Pk:sz prog 71=2:=kR
theorem NV:td prog 73 = .struct [(0,3),(1,71)]:=kR
theorem db:sz prog 73=3:=kR
theorem Jd:UQ prog 73=24:=kR
theorem jJ:bF prog 73=true:=kR
theorem tk:FA prog 73 1 1 71:=⟨_,NV,rfl,rfl,by rw[Pk];decide⟩
theorem vN:QM prog 73 = .agg [.int .i64 (0),.int .u64 (0),.int .u64 (0)]:=kR
theorem Ea:di prog 73=true:=kR
theorem O7:(di prog 73&&fR (QM prog 73)&&List.all [(0,3),(1,71)] (λf=>decide (0<sz prog f.2)))=true:=kR
theorem N8:List.map (λ(f:Nat×TypeId)=>sz prog f.2) [(0,3),(1,71)]=[1,2]:=kR
theorem nN:td prog 74 = .slice 27:=kR
theorem nk:td prog 77 = .slice 188:=kR
theorem Bn:td prog 79 = .struct [(0,77),(1,3)]:=kR
theorem oD:sz prog 79=2:=kR
theorem vM:bF prog 79=true:=kR
theorem sD:QM prog 79 = .agg [.nil,.int .i64 (0)]:=kR
theorem Pt:di prog 79=true:=kR
theorem uE:(di prog 79&&fR (QM prog 79)&&List.all [(0,77),(1,3)] (λf=>decide (0<sz prog f.2)))=true:=kR
theorem tJ:List.map (λ(f:Nat×TypeId)=>sz prog f.2) [(0,77),(1,3)]=[1,1]:=kR
theorem LD:td prog 110 = .slice 73:=kR
theorem N7:td prog 117 = .int .u64:=kR
theorem LG:sz prog 118=1:=kR
theorem Mc:bF prog 118=false:=kR
theorem oP:td prog 119 = .slice 4:=kR
theorem Cy:td prog 123 = .struct [(0,27),(1,77),(2,3)]:=kR
theorem qC:sz prog 123=3:=kR
theorem zh:bF prog 123=true:=kR
theorem xy:QM prog 123 = .agg [.nil,.nil,.int .i64 (0)]:=kR
theorem yY:(di prog 123&&fR (QM prog 123)&&List.all [(0,27),(1,77),(2,3)] (λf=>decide (0<sz prog f.2)))=true:=kR
theorem xE:List.map (λ(f:Nat×TypeId)=>sz prog f.2) [(0,27),(1,77),(2,3)]=[1,1,1]:=kR
theorem HO:sz prog 127=1:=kR
theorem Jo:bF prog 127=false:=kR
theorem py:td prog 136 = .map 3 4:=kR
theorem N6:td prog 140 = .struct [(0,27),(1,119)]:=kR
theorem Ob:sz prog 140=2:=kR
theorem Mk:QM prog 140 = .agg [.nil,.nil]:=kR
theorem Nx:(di prog 140&&fR (QM prog 140)&&List.all [(0,27),(1,119)] (λf=>decide (0<sz prog f.2)))=true:=kR
theorem MD:List.map (λ(f:Nat×TypeId)=>sz prog f.2) [(0,27),(1,119)]=[1,1]:=kR
theorem m_:sz prog 147=1:=kR
theorem qx:UQ prog 147=4:=kR
theorem li:QM prog 147 = .int .u32 (0):=kR
theorem pL:di prog 147=true:=kR
theorem N5:td prog 183 = .slice 79:=kR
theorem Ak:td prog 188 = .struct [(0,3),(1,3),(2,3)]:=kR
theorem gq:sz prog 188=3:=kR
theorem BZ:UQ prog 188=24:=kR
theorem zg:bF prog 188=true:=kR
theorem K3:FA prog 188 1 1 3:=⟨_,Ak,rfl,rfl,by rw[Se];decide⟩
theorem FT:FA prog 188 2 2 3:=⟨_,Ak,rfl,rfl,by rw[Se];decide⟩
theorem lh:QM prog 188 = .agg [.int .i64 (0),.int .i64 (0),.int .i64 (0)]:=kR
theorem tS:di prog 188=true:=kR
theorem B_:(di prog 188&&fR (QM prog 188)&&List.all [(0,3),(1,3),(2,3)] (λf=>decide (0<sz prog f.2)))=true:=kR
theorem Bp:List.map (λ(f:Nat×TypeId)=>sz prog f.2) [(0,3),(1,3),(2,3)]=[1,1,1]:=kR
theorem Aj:td prog 189 = .map 188 3:=kR
theorem Cx:td prog 190 = .map 226 3:=kR
theorem N0:td prog 192 = .struct [(0,77),(1,189),(2,190)]:=kR
theorem Oa:sz prog 192=3:=kR
theorem Mj:QM prog 192 = .agg [.nil,.Rn,.Rn]:=kR
theorem Nw:(di prog 192&&fR (QM prog 192)&&List.all [(0,77),(1,189),(2,190)] (λf=>decide (0<sz prog f.2)))=true:=kR
theorem MC:List.map (λ(f:Nat×TypeId)=>sz prog f.2) [(0,77),(1,189),(2,190)]=[1,1,1]:=kR
theorem HE:td prog 212 = .map 241 3:=kR
theorem NZ:td prog 214 = .struct [(0,27),(1,27),(2,77),(3,189),(4,212)]:=kR
theorem N_:sz prog 214=5:=kR
theorem Mi:QM prog 214 = .agg [.nil,.nil,.nil,.Rn,.Rn]:=kR
theorem Nv:(di prog 214&&fR (QM prog 214)&&List.all [(0,27),(1,27),(2,77),(3,189),(4,212)] (λf=>decide (0<sz prog f.2)))=true:=kR
theorem MB:List.map (λ(f:Nat×TypeId)=>sz prog f.2) [(0,27),(1,27),(2,77),(3,189),(4,212)]=[1,1,1,1,1]:=kR
theorem jM:td prog 218 = .map 3 3:=kR
theorem Ai:td prog 223 = .map 188 4:=kR
theorem LC:td prog 226 = .struct [(0,5),(1,3),(2,3)]:=kR
theorem Al:sz prog 226=3:=kR
theorem F6:bF prog 226=true:=kR
theorem Hl:QM prog 226 = .agg [.int .u8 (0),.int .i64 (0),.int .i64 (0)]:=kR
theorem Jh:(di prog 226&&fR (QM prog 226)&&List.all [(0,5),(1,3),(2,3)] (λf=>decide (0<sz prog f.2)))=true:=kR
theorem HJ:List.map (λ(f:Nat×TypeId)=>sz prog f.2) [(0,5),(1,3),(2,3)]=[1,1,1]:=kR
theorem NY:td prog 241 = .array 3 3:=kR
theorem HN:sz prog 241=3:=kR
theorem Mb:bF prog 241=true:=kR
theorem Mh:QM prog 241 = .agg [.int .i64 (0),.int .i64 (0),.int .i64 (0)]:=kR
theorem Ol:di prog 241=true:=kR
theorem kx:eK prog 3=some (.one .i64):=kR
theorem lF:eK prog 188=some Qu:=kR
theorem yG:eK prog 226=some (.many [.u8,.i64,.i64]):=kR
theorem Em:eK prog 241=some Qu:=kR
theorem Tm{P:Program}{T f off et:Nat}{fs:List (Nat×TypeId)}{s s':Nat}{a a':Bool}{y:TD}(h:TI P T (.struct fs) s a)(h2:TI P et y s' a')(h3:fs.getD f (0,0)=(off,et):=by rfl)(h4:Nat.ble (f+1) fs.length=true:=by rfl)(h5:0<s':=by decide):FI P T f off et:=⟨fs,h.td,h3,h4,h2.sz.symm▸h5⟩
instance Xc:TI prog 3 (.int .i64) 1 false:=⟨kR,kR,kR⟩
instance zi3:ZI prog 3 (.int .i64 (0)):=⟨kR,kR⟩
instance ti4:TI prog 4 (.bool) 1 false:=⟨kR,kR,kR⟩
instance zi4:ZI prog 4 (.bool false):=⟨kR,kR⟩
instance ti5:TI prog 5 (.int .u8) 1 false:=⟨kR,kR,kR⟩
instance ti9:TI prog 9 (.str) 1 false:=⟨kR,kR,kR⟩
instance af8:TI prog 22 (.slice 58) 1 false:=⟨kR,kR,kR⟩
instance aau:TI prog 24 (.struct [(0,3),(1,22),(2,3)]) 3 true:=⟨kR,kR,kR⟩
instance akS:ZI prog 24 (.agg [.int .i64 (0),.nil,.int .i64 (0)]):=⟨kR,kR⟩
instance Xy:TI prog 27 (.slice 3) 1 false:=⟨kR,kR,kR⟩
instance akR:ZI prog 27 (.nil):=⟨kR,kR⟩
instance ak6:TI prog 29 (.iface) 1 false:=⟨kR,kR,kR⟩
instance akQ:ZI prog 29 (.Qg):=⟨kR,kR⟩
instance ak5:TI prog 36 (.int .i64) 1 false:=⟨kR,kR,kR⟩
instance ak4:TI prog 37 (.slice 29) 1 false:=⟨kR,kR,kR⟩
instance ak2:TI prog 41 (.slice 45) 1 false:=⟨kR,kR,kR⟩
instance acH:TI prog 45 (.struct [(0,3),(1,3)]) 2 true:=⟨kR,kR,kR⟩
instance akP:ZI prog 45 (.agg [.int .i64 (0),.int .i64 (0)]):=⟨kR,kR⟩
instance ak1:TI prog 49 (.slice 52) 1 false:=⟨kR,kR,kR⟩
instance akO:ZI prog 49 (.nil):=⟨kR,kR⟩
instance acG:TI prog 50 (.slice 147) 1 false:=⟨kR,kR,kR⟩
instance aat:TI prog 52 (.struct [(0,4),(1,50),(2,50)]) 3 true:=⟨kR,kR,kR⟩
instance akN:ZI prog 52 (.agg [.bool false,.nil,.nil]):=⟨kR,kR⟩
instance aas:TI prog 58 (.struct [(0,3),(1,3),(2,27)]) 3 true:=⟨kR,kR,kR⟩
instance akM:ZI prog 58 (.agg [.int .i64 (0),.int .i64 (0),.nil]):=⟨kR,kR⟩
instance ak0:TI prog 67 (.slice 73) 1 false:=⟨kR,kR,kR⟩
instance akZ:TI prog 70 (.int .u64) 1 false:=⟨kR,kR,kR⟩
instance af7:TI prog 71 (.array 2 70) 2 true:=⟨kR,kR,kR⟩
instance acF:TI prog 73 (.struct [(0,3),(1,71)]) 3 true:=⟨kR,kR,kR⟩
instance akL:ZI prog 73 (.agg [.int .i64 (0),.int .u64 (0),.int .u64 (0)]):=⟨kR,kR⟩
instance akY:TI prog 74 (.slice 27) 1 false:=⟨kR,kR,kR⟩
instance Y2:TI prog 77 (.slice 188) 1 false:=⟨kR,kR,kR⟩
instance acE:TI prog 79 (.struct [(0,77),(1,3)]) 2 true:=⟨kR,kR,kR⟩
instance akK:ZI prog 79 (.agg [.nil,.int .i64 (0)]):=⟨kR,kR⟩
instance aiZ:TI prog 110 (.slice 73) 1 false:=⟨kR,kR,kR⟩
instance aiI:ZI prog 110 (.nil):=⟨kR,kR⟩
instance aiY:TI prog 117 (.int .u64) 1 false:=⟨kR,kR,kR⟩
instance aiX:TI prog 118 (.func) 1 false:=⟨kR,kR,kR⟩
instance aiH:ZI prog 118 (.Tz):=⟨kR,kR⟩
instance acK:TI prog 119 (.slice 4) 1 false:=⟨kR,kR,kR⟩
instance aiG:ZI prog 119 (.nil):=⟨kR,kR⟩
instance XB:TI prog 123 (.struct [(0,27),(1,77),(2,3)]) 3 true:=⟨kR,kR,kR⟩
instance aiF:ZI prog 123 (.agg [.nil,.nil,.int .i64 (0)]):=⟨kR,kR⟩
instance aiW:TI prog 127 (.ptr) 1 false:=⟨kR,kR,kR⟩
instance aiV:TI prog 131 (.func) 1 false:=⟨kR,kR,kR⟩
instance aiE:ZI prog 131 (.Tz):=⟨kR,kR⟩
instance aiU:TI prog 136 (.map 3 4) 1 false:=⟨kR,kR,kR⟩
instance aiD:ZI prog 136 (.Rn):=⟨kR,kR⟩
instance Zz:TI prog 140 (.struct [(0,27),(1,119)]) 2 true:=⟨kR,kR,kR⟩
instance aiT:TI prog 147 (.int .u32) 1 false:=⟨kR,kR,kR⟩
instance aiS:TI prog 173 (.ptr) 1 false:=⟨kR,kR,kR⟩
instance aiR:TI prog 183 (.slice 79) 1 false:=⟨kR,kR,kR⟩
instance XA:TI prog 188 (.struct [(0,3),(1,3),(2,3)]) 3 true:=⟨kR,kR,kR⟩
instance aiC:ZI prog 188 (.agg [.int .i64 (0),.int .i64 (0),.int .i64 (0)]):=⟨kR,kR⟩
instance Zy:TI prog 189 (.map 188 3) 1 false:=⟨kR,kR,kR⟩
instance acJ:TI prog 190 (.map 226 3) 1 false:=⟨kR,kR,kR⟩
instance Xz:TI prog 192 (.struct [(0,77),(1,189),(2,190)]) 3 true:=⟨kR,kR,kR⟩
instance aiQ:TI prog 193 (.func) 1 false:=⟨kR,kR,kR⟩
instance aiB:ZI prog 193 (.Tz):=⟨kR,kR⟩
instance acI:TI prog 212 (.map 241 3) 1 false:=⟨kR,kR,kR⟩
instance VG:TI prog 214 (.struct [(0,27),(1,27),(2,77),(3,189),(4,212)]) 5 true:=⟨kR,kR,kR⟩
instance aiP:TI prog 218 (.map 3 3) 1 false:=⟨kR,kR,kR⟩
instance aiA:ZI prog 218 (.Rn):=⟨kR,kR⟩
instance aiO:TI prog 226 (.struct [(0,5),(1,3),(2,3)]) 3 true:=⟨kR,kR,kR⟩
instance aiz:ZI prog 226 (.agg [.int .u8 (0),.int .i64 (0),.int .i64 (0)]):=⟨kR,kR⟩
instance aiN:TI prog 241 (.array 3 3) 3 true:=⟨kR,kR,kR⟩
instance aiy:ZI prog 241 (.agg [.int .i64 (0),.int .i64 (0),.int .i64 (0)]):=⟨kR,kR⟩
instance aid:FI prog 24 0 0 3:=Tm aau Xc
instance aic:FI prog 24 1 1 22:=Tm aau af8
instance aib:FI prog 24 2 2 3:=Tm aau Xc
instance aia:FI prog 45 0 0 3:=Tm acH Xc
instance ah9:FI prog 45 1 1 3:=Tm acH Xc
instance ah8:FI prog 52 0 0 4:=Tm aat ti4
instance ah7:FI prog 52 1 1 50:=Tm aat acG
instance ah6:FI prog 52 2 2 50:=Tm aat acG
instance ah5:FI prog 58 0 0 3:=Tm aas Xc
instance ah4:FI prog 58 1 1 3:=Tm aas Xc
instance ah3:FI prog 58 2 2 27:=Tm aas Xy
instance ah2:FI prog 73 0 0 3:=Tm acF Xc
instance ah1:FI prog 73 1 1 71:=Tm acF af7
instance ah0:FI prog 79 0 0 77:=Tm acE Y2
instance ahZ:FI prog 79 1 1 3:=Tm acE Xc
instance afD:FI prog 123 0 0 27:=Tm XB Xy
instance afC:FI prog 123 1 1 77:=Tm XB Y2
instance afB:FI prog 123 2 2 3:=Tm XB Xc
instance afA:FI prog 140 0 0 27:=Tm Zz Xy
instance afz:FI prog 140 1 1 119:=Tm Zz acK
instance afy:FI prog 188 0 0 3:=Tm XA Xc
instance afx:FI prog 188 1 1 3:=Tm XA Xc
instance afw:FI prog 188 2 2 3:=Tm XA Xc
instance afv:FI prog 192 0 0 77:=Tm Xz Y2
instance afu:FI prog 192 1 1 189:=Tm Xz Zy
instance aft:FI prog 192 2 2 190:=Tm Xz acJ
instance afs:FI prog 214 0 0 27:=Tm VG Xy
instance afr:FI prog 214 1 1 27:=Tm VG Xy
instance afq:FI prog 214 2 2 77:=Tm VG Y2
instance afp:FI prog 214 3 3 189:=Tm VG Zy
instance afo:FI prog 214 4 4 212:=Tm VG acI
instance afM{r:QN}{n:Nat}{v:AV}[h:Rl (.agg [.int .i64 r.U,.int .i64 r.K,eL (AV.int .i64) r.Z]) n v]:Rl (bT r) n v:=⟨h.e⟩
instance abn{r:GFormula}{n:Nat}{v:AV}[h:Rl (.agg [.int .i64 r.Y,eL bT r.N,.int .i64 r.A]) n v]:Rl (aD r) n v:=⟨h.e⟩
instance aav{r:GFormula}{n:Nat}{w v:AV}[h:YN (.agg [.int .i64 r.Y,eL bT r.N,.int .i64 r.A]) n w v]:YN (aD r) n w v:=⟨h.e⟩
instance afN{r:Q3}{n:Nat}{v:AV}[h:Rl (.agg [.int .i64 r.H,.int .i64 r.No]) n v]:Rl (mv r) n v:=⟨h.e⟩
instance aeW{r:Q3}{n:Nat}{w v:AV}[h:YN (.agg [.int .i64 r.H,.int .i64 r.No]) n w v]:YN (mv r) n w v:=⟨h.e⟩
instance air{r:QB}{n:Nat}{v:AV}[h:Rl (.agg [.bool r.X,eL (AV.int .u32) r.J,eL (AV.int .u32) r.L]) n v]:Rl (dw r) n v:=⟨h.e⟩
instance aiq{r:Grow}{n:Nat}{v:AV}[h:Rl (.agg [.int .i64 r.events,.int .u64 r.nodes.1,.int .u64 r.nodes.2]) n v]:Rl (bf r) n v:=⟨h.e⟩
instance aga{r:Grow}{n:Nat}{w v:AV}[h:YN (.agg [.int .i64 r.events,.int .u64 r.nodes.1,.int .u64 r.nodes.2]) n w v]:YN (bf r) n w v:=⟨h.e⟩
instance aeJ{r:P'}{n:Nat}{v:AV}[h:Rl (.agg [.int .i64 r.T,.int .i64 r.F,.int .i64 r.D]) n v]:Rl (aw r) n v:=⟨h.e⟩
instance afL{r:Q4}{n:Nat}{v:AV}[h:Rl (.agg [eL aw r.N,.int .i64 r.V]) n v]:Rl (kE r) n v:=⟨h.e⟩
instance abo{r:Qs}{n:Nat}{v:AV}[h:Rl (.agg [eL (AV.int .i64) r.M,eL aw r.N,.int .i64 r.V]) n v]:Rl (dx r) n v:=⟨h.e⟩
end Go.Proofs.YtbnjpdocceckeaaGreat
