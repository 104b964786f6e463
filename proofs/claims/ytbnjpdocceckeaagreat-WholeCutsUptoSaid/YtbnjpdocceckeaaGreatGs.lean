/- The kit's contracts for sorts and for slices.Grow, laid at this program. Conditions: none. -/
import Derived.Test.YtbnjpdocceckeaaGreatGr
import Derived.Test.YtbnjpdocceckeaaGreatChecked
import Derived.Test.YtbnjpdocceckeaaGreatWa
import Derived.WalkKit
import Derived.BigCall
import Derived.Shelf.Spec.SlicesGrow
import Derived.StillTailTactics
import Derived.Handy
set_option linter.all false
namespace Go.Proofs.YtbnjpdocceckeaaGreat
open Go.Shelf Go.Proofs Go.Gg
def MG:Go.Shelf.Ren:=⟨λn=>if n=6 then 31 else if n=14 then 66 else if n=15 then 67 else if n=20 then 104 else if n=21 then 117 else if n=22 then 118 else if n=23 then 119 else if n=24 then 120 else if n=25 then 121 else if n=26 then 122 else if n=27 then 123 else if n=28 then 124 else if n=29 then 107 else if n=46 then 166 else if n=47 then 167 else if n=48 then 168 else if n=49 then 169 else if n=50 then 170 else if n=57 then 205 else n,λn=>if n=0 then 0 else if n=3 then 3 else if n=4 then 4 else if n=5 then 5 else if n=9 then 9 else if n=22 then 27 else if n=24 then 3 else if n=25 then 66 else if n=39 then 117 else if n=45 then 162 else if n=46 then 163 else if n=50 then 167 else if n=53 then 147 else if n=55 then 70 else if n=66 then 205 else if n=70 then 209 else if n=76 then 235 else if n=77 then 236 else n,λn=>n⟩
theorem DW:SlLaysF.n6 Tryz.prog MG where
 mixed:=by kernel_rfl
 f6:=⟨Tryz.f31.name,by kernel_rfl,Tryz.func31.trans (congrArg some (by kernel_rfl))⟩
 f14:=⟨Tryz.f66.name,by kernel_rfl,Tryz.func66.trans (congrArg some (by kernel_rfl))⟩
 f15:=Tryz.func67.trans (congrArg some (by kernel_rfl))
 f20:=⟨Tryz.f104.name,by kernel_rfl,Tryz.func104.trans (congrArg some (by kernel_rfl))⟩
 f21:=⟨Tryz.f117.name,by kernel_rfl,Tryz.func117.trans (congrArg some (by kernel_rfl))⟩
 f22:=⟨Tryz.f118.name,by kernel_rfl,Tryz.func118.trans (congrArg some (by kernel_rfl))⟩
 f23:=⟨Tryz.f119.name,by kernel_rfl,Tryz.func119.trans (congrArg some (by kernel_rfl))⟩
 f24:=⟨Tryz.f120.name,by kernel_rfl,Tryz.func120.trans (congrArg some (by kernel_rfl))⟩
 f25:=⟨Tryz.f121.name,by kernel_rfl,Tryz.func121.trans (congrArg some (by kernel_rfl))⟩
 f26:=⟨Tryz.f122.name,by kernel_rfl,Tryz.func122.trans (congrArg some (by kernel_rfl))⟩
 f27:=⟨Tryz.f123.name,by kernel_rfl,Tryz.func123.trans (congrArg some (by kernel_rfl))⟩
 f28:=Tryz.func124.trans (congrArg some (by kernel_rfl))
 f29:=Tryz.func107.trans (congrArg some (by kernel_rfl))
 f46:=⟨Tryz.f166.name,by kernel_rfl,Tryz.func166.trans (congrArg some (by kernel_rfl))⟩
 f47:=Tryz.func167.trans (congrArg some (by kernel_rfl))
 f48:=Tryz.func168.trans (congrArg some (by kernel_rfl))
 f49:=⟨Tryz.f169.name,by kernel_rfl,Tryz.func169.trans (congrArg some (by kernel_rfl))⟩
 f50:=⟨Tryz.f170.name,by kernel_rfl,Tryz.func170.trans (congrArg some (by kernel_rfl))⟩
 f57:=⟨Tryz.f205.name,by kernel_rfl,Tryz.func205.trans (congrArg some (by kernel_rfl))⟩
 t0:=Tryz.underlying0
 a0:=Tryz.isAgg0
 z0:=Tryz.sizeOf0
 v0:=Tryz.zeroValue0
 t3:=Tryz.underlying3
 a3:=Tryz.isAgg3
 z3:=Tryz.sizeOf3
 v3:=Tryz.zeroValue3
 t4:=Tryz.underlying4
 a4:=Tryz.isAgg4
 z4:=Tryz.sizeOf4
 v4:=Tryz.zeroValue4
 t5:=Tryz.underlying5
 a5:=Tryz.isAgg5
 z5:=Tryz.sizeOf5
 v5:=Tryz.zeroValue5
 t9:=Tryz.underlying9
 a9:=Tryz.isAgg9
 z9:=Tryz.sizeOf9
 v9:=Tryz.zeroValue9
 t22:=Tryz.underlying27
 a22:=Tryz.isAgg27
 z22:=Tryz.sizeOf27
 v22:=Tryz.zeroValue27
 a24:=Tryz.isAgg3
 z24:=Tryz.sizeOf3
 t25:=Tryz.underlying66
 a25:=Tryz.isAgg66
 z25:=Tryz.sizeOf66
 v25:=Tryz.zeroValue66
 t39:=Tryz.underlying117
 a39:=Tryz.isAgg117
 z39:=Tryz.sizeOf117
 v39:=Tryz.zeroValue117
 t45:=Tryz.underlying162
 a45:=Tryz.isAgg162
 z45:=Tryz.sizeOf162
 v45:=Tryz.zeroValue162
 t46:=Tryz.underlying163
 a46:=Tryz.isAgg163
 z46:=Tryz.sizeOf163
 v46:=Tryz.zeroValue163
 t50:=Tryz.underlying167
 a50:=Tryz.isAgg167
 z50:=Tryz.sizeOf167
 v50:=Tryz.zeroValue167
 t53:=Tryz.underlying147
 a53:=Tryz.isAgg147
 z53:=Tryz.sizeOf147
 v53:=Tryz.zeroValue147
 t55:=Tryz.underlying70
 a55:=Tryz.isAgg70
 z55:=Tryz.sizeOf70
 v55:=Tryz.zeroValue70
 t66:=Tryz.underlying205
 a66:=Tryz.isAgg205
 z66:=Tryz.sizeOf205
 v66:=Tryz.zeroValue205
 t70:=Tryz.underlying209
 a70:=Tryz.isAgg209
 z70:=Tryz.sizeOf209
 v70:=Tryz.zeroValue209
 t76:=Tryz.underlying235
 a76:=Tryz.isAgg235
 z76:=Tryz.sizeOf235
 v76:=Tryz.zeroValue235
 t77:=Tryz.underlying236
 a77:=Tryz.isAgg236
 z77:=Tryz.sizeOf236
 v77:=Tryz.zeroValue236
def MH:Go.Shelf.Ren:=⟨λn=>if n=6 then 94 else if n=14 then 155 else if n=15 then 67 else if n=20 then 194 else if n=21 then 195 else if n=22 then 196 else if n=23 then 197 else if n=24 then 198 else if n=25 then 199 else if n=26 then 200 else if n=27 then 201 else if n=28 then 124 else if n=29 then 107 else if n=46 then 217 else if n=47 then 167 else if n=48 then 168 else if n=49 then 218 else if n=50 then 219 else if n=57 then 224 else n,λn=>if n=0 then 0 else if n=3 then 3 else if n=4 then 4 else if n=5 then 5 else if n=9 then 9 else if n=22 then 41 else if n=24 then 45 else if n=25 then 143 else if n=39 then 117 else if n=45 then 162 else if n=46 then 163 else if n=50 then 167 else if n=53 then 147 else if n=55 then 70 else if n=66 then 205 else if n=70 then 209 else if n=76 then 235 else if n=77 then 236 else n,λn=>n⟩
theorem HW:SlLaysF0.n6 Tryz.prog MH where
 mixed:=by kernel_rfl
 f6:=⟨Tryz.f94.name,by kernel_rfl,Tryz.func94.trans (congrArg some (by kernel_rfl))⟩
 f14:=⟨Tryz.f155.name,by kernel_rfl,Tryz.func155.trans (congrArg some (by kernel_rfl))⟩
 f15:=Tryz.func67.trans (congrArg some (by kernel_rfl))
 f20:=⟨Tryz.f194.name,by kernel_rfl,Tryz.func194.trans (congrArg some (by kernel_rfl))⟩
 f21:=⟨Tryz.f195.name,by kernel_rfl,Tryz.func195.trans (congrArg some (by kernel_rfl))⟩
 f22:=⟨Tryz.f196.name,by kernel_rfl,Tryz.func196.trans (congrArg some (by kernel_rfl))⟩
 f23:=⟨Tryz.f197.name,by kernel_rfl,Tryz.func197.trans (congrArg some (by kernel_rfl))⟩
 f24:=⟨Tryz.f198.name,by kernel_rfl,Tryz.func198.trans (congrArg some (by kernel_rfl))⟩
 f25:=⟨Tryz.f199.name,by kernel_rfl,Tryz.func199.trans (congrArg some (by kernel_rfl))⟩
 f26:=⟨Tryz.f200.name,by kernel_rfl,Tryz.func200.trans (congrArg some (by kernel_rfl))⟩
 f27:=⟨Tryz.f201.name,by kernel_rfl,Tryz.func201.trans (congrArg some (by kernel_rfl))⟩
 f28:=Tryz.func124.trans (congrArg some (by kernel_rfl))
 f29:=Tryz.func107.trans (congrArg some (by kernel_rfl))
 f46:=⟨Tryz.f217.name,by kernel_rfl,Tryz.func217.trans (congrArg some (by kernel_rfl))⟩
 f47:=Tryz.func167.trans (congrArg some (by kernel_rfl))
 f48:=Tryz.func168.trans (congrArg some (by kernel_rfl))
 f49:=⟨Tryz.f218.name,by kernel_rfl,Tryz.func218.trans (congrArg some (by kernel_rfl))⟩
 f50:=⟨Tryz.f219.name,by kernel_rfl,Tryz.func219.trans (congrArg some (by kernel_rfl))⟩
 f57:=⟨Tryz.f224.name,by kernel_rfl,Tryz.func224.trans (congrArg some (by kernel_rfl))⟩
 t0:=Tryz.underlying0
 a0:=Tryz.isAgg0
 z0:=Tryz.sizeOf0
 v0:=Tryz.zeroValue0
 t3:=Tryz.underlying3
 a3:=Tryz.isAgg3
 z3:=Tryz.sizeOf3
 v3:=Tryz.zeroValue3
 t4:=Tryz.underlying4
 a4:=Tryz.isAgg4
 z4:=Tryz.sizeOf4
 v4:=Tryz.zeroValue4
 t5:=Tryz.underlying5
 a5:=Tryz.isAgg5
 z5:=Tryz.sizeOf5
 v5:=Tryz.zeroValue5
 t9:=Tryz.underlying9
 a9:=Tryz.isAgg9
 z9:=Tryz.sizeOf9
 v9:=Tryz.zeroValue9
 t22:=Tryz.underlying41
 a22:=Tryz.isAgg41
 z22:=Tryz.sizeOf41
 v22:=Tryz.zeroValue41
 t25:=Tryz.underlying143
 a25:=Tryz.isAgg143
 z25:=Tryz.sizeOf143
 v25:=Tryz.zeroValue143
 t39:=Tryz.underlying117
 a39:=Tryz.isAgg117
 z39:=Tryz.sizeOf117
 v39:=Tryz.zeroValue117
 t45:=Tryz.underlying162
 a45:=Tryz.isAgg162
 z45:=Tryz.sizeOf162
 v45:=Tryz.zeroValue162
 t46:=Tryz.underlying163
 a46:=Tryz.isAgg163
 z46:=Tryz.sizeOf163
 v46:=Tryz.zeroValue163
 t50:=Tryz.underlying167
 a50:=Tryz.isAgg167
 z50:=Tryz.sizeOf167
 v50:=Tryz.zeroValue167
 t53:=Tryz.underlying147
 a53:=Tryz.isAgg147
 z53:=Tryz.sizeOf147
 v53:=Tryz.zeroValue147
 t55:=Tryz.underlying70
 a55:=Tryz.isAgg70
 z55:=Tryz.sizeOf70
 v55:=Tryz.zeroValue70
 t66:=Tryz.underlying205
 a66:=Tryz.isAgg205
 z66:=Tryz.sizeOf205
 v66:=Tryz.zeroValue205
 t70:=Tryz.underlying209
 a70:=Tryz.isAgg209
 z70:=Tryz.sizeOf209
 v70:=Tryz.zeroValue209
 t76:=Tryz.underlying235
 a76:=Tryz.isAgg235
 z76:=Tryz.sizeOf235
 v76:=Tryz.zeroValue235
 t77:=Tryz.underlying236
 a77:=Tryz.isAgg236
 z77:=Tryz.sizeOf236
 v77:=Tryz.zeroValue236
def OJ:Go.Shelf.Ren:=⟨λn=>if n=4 then 206 else n,λn=>if n=0 then 0 else if n=3 then 3 else if n=4 then 4 else if n=9 then 9 else if n=20 then 20 else if n=22 then 27 else if n=25 then 3 else n,λn=>n⟩
theorem OL:Lays8.n4 Tryz.prog OJ where
 mixed:=by kernel_rfl
 f4:=⟨Tryz.f206.name,by kernel_rfl,Tryz.func206.trans (congrArg some (by kernel_rfl))⟩
 t0:=Tryz.underlying0
 a0:=Tryz.isAgg0
 z0:=Tryz.sizeOf0
 v0:=Tryz.zeroValue0
 t3:=Tryz.underlying3
 a3:=Tryz.isAgg3
 z3:=Tryz.sizeOf3
 v3:=Tryz.zeroValue3
 t4:=Tryz.underlying4
 a4:=Tryz.isAgg4
 z4:=Tryz.sizeOf4
 v4:=Tryz.zeroValue4
 t9:=Tryz.underlying9
 a9:=Tryz.isAgg9
 z9:=Tryz.sizeOf9
 v9:=Tryz.zeroValue9
 t20:=Tryz.underlying20
 a20:=Tryz.isAgg20
 z20:=Tryz.sizeOf20
 v20:=Tryz.zeroValue20
 t22:=Tryz.underlying27
 a22:=Tryz.isAgg27
 z22:=Tryz.sizeOf27
 v22:=Tryz.zeroValue27
open Go.Sort
theorem L7(p:Option Addr)(cap:Nat)(fv:Value)(w:World):Calls Tryz.prog 31 #[.slice p 0 cap,fv] w λe w'=>e = .returned (.tuple #[])/\w'=w:=AnyF.slices_SortFunc_none { DW with } p cap fv w
theorem Ox(p:Option Addr)(cap:Nat)(fv:Value)(w:World):Calls Tryz.prog 94 #[.slice p 0 cap,fv] w λe w'=>e = .returned (.tuple #[])/\w'=w:=AnyF.slices_SortFunc_none HW p cap fv w
def cuZ(x:Q3):List (IntKind×Int):=[(.i64,x.H),(.i64,x.No)]
theorem Nq:∀x:Nat,x<256->bits .and .i64 (x:Int) 16777215=(x:Int):=by decide +kernel
theorem tB:∀x:Nat,x<256->IntKind.wrap .u64 (x:Int)=(x:Int):=by decide +kernel
set_option maxRecDepth 100000
set_option maxHeartbeats 4000000
theorem PD(x:Int)(w:World):Calls Tryz.prog 125 #[.int .i64 x] w λe w'=>e = .returned (.bool false)/\w'=w:=by
 go_enter Tryz.func125,Tryz.ntmps125
 go_wp2
 go_ret
 simp
theorem IR(x y:Int)(w:World):Calls Tryz.prog 68 #[.int .i64 x,.int .i64 y] w λe w'=>e = .returned (.int .i64 (oI x y))/\w'=w:=by
 go_enter Tryz.func68,Tryz.ntmps68
 go_wp2_with (go_at_call 125;refine(PD _ _).mono ?_;rintro e w' ⟨rfl,rfl⟩)
 ·rename_i h
  go_ret
  rw[oI,if_pos h];exact⟨rfl,rfl⟩
 ·rename_i h1 _ _ h2
  go_ret
  rw[oI,if_neg om,if_pos h2];exact⟨rfl,rfl⟩
 ·rename_i h1 h2
  go_ret
  rw[oI,if_neg om,if_neg om];exact⟨rfl,rfl⟩
theorem Ng(x:Nat)(hx:x<256)(w:World):Calls Tryz.prog 70 #[.int .i64 x] w λe w'=>e = .returned (.int .i64 x)/\w'=w:=by
 rw[show(Ending.returned (.int .i64 (x:Int)))=Ending.returned (.int .i64 (bits .and .i64 (x:Int) 16777215))by rw[Nq x hx]]
 go_enter Tryz.func70,Tryz.ntmps70
 go_wp2
 go_ret
 exact⟨rfl,rfl⟩
theorem KY(x:Nat)(hx:x<256)(w:World):Calls Tryz.prog 147 #[.int .u64 x] w λe w'=>e = .returned (.int .i64 (oE x))/\w'=w:=by
 go_enter Tryz.func147,Tryz.ntmps147
 go_wp2
 go_ret
 refine⟨congrArg (λz=>Ending.returned (Value.int IntKind.i64 z)) ?_,rfl⟩;clear w;revert hx;revert x;decide +kernel
theorem Dd(x:Nat)(hx:x<256)(w:World):Calls Tryz.prog 82 #[.int .u64 x] w λe w'=>e = .returned (.int .i64 (oE x))/\w'=w:=by
 go_enter Tryz.func82,Tryz.ntmps82
 go_wp2_with (go_at_call 147;refine(KY _ hx _).mono ?_;rintro e w' ⟨rfl,rfl⟩)
 go_ret
 exact⟨rfl,rfl⟩
theorem IP(x:Nat)(hx:x<256)(w:World):Calls Tryz.prog 69 #[.int .i64 x] w λe w'=>e = .returned (.int .i64 (oE x))/\w'=w:=by
 have hw:=tB x hx
 go_enter Tryz.func69,Tryz.ntmps69
 go_wp2_with (first|(go_at_call 70;refine(Ng _ hx _).mono ?_;rintro e w' ⟨rfl,rfl⟩)|(go_at_call 82;(try rw[hw]);refine(Dd _ hx _).mono ?_;rintro e w' ⟨rfl,rfl⟩))
 go_ret
 exact⟨rfl,rfl⟩
theorem IQ(x y:Nat)(hx:x<256)(hy:y<256)(w:World):Calls Tryz.prog 32 #[.int .i64 x,.int .i64 y] w λe w'=>e = .returned (.int .i64 (rJ x y))/\w'=w:=by
 go_enter Tryz.func32,Tryz.ntmps32
 go_wp2_with (first|(go_at_call 70;(first|refine(Ng _ hx _).mono ?_|refine(Ng _ hy _).mono ?_);rintro e w' ⟨rfl,rfl⟩)|(go_at_call 69;(first|refine(IP _ hx _).mono ?_|refine(IP _ hy _).mono ?_);rintro e w' ⟨rfl,rfl⟩)|(go_at_call 68;refine(IR _ _ _).mono ?_;rintro e w' ⟨rfl,rfl⟩))
 ·rename_i h
  go_ret
  rw[rJ,Ub,if_neg (by simpa using h)];exact⟨rfl,rfl⟩
 ·rename_i h
  go_ret
  rw[rJ,Ub,if_pos (by simpa using h)];exact⟨rfl,rfl⟩
theorem PC(a b:Int)(B c:Nat)(w:World)(h0:w.cell? ⟨B,0,none⟩=some (.int .i64 a))(h1:w.cell? ⟨B,1,none⟩=some (.int .i64 b)):Calls Tryz.prog 81 #[.slice (some ⟨B,0,none⟩) 2 c] w λe w'=>e = .returned (.int .i64 (Ub a b))/\w'=w:=by
 go_enter Tryz.func81,Tryz.ntmps81
 go_wp2_with (refine wp_loop_rounds 3 ?_;rw[rounds_succ])
 all_goals (try (rw[rounds_succ];go_wp2))
 all_goals (try (rw[rounds_succ];go_wp2))
 ·rename_i h
  go_ret
  rw[Ub,if_neg (by simpa using h)];exact⟨rfl,rfl⟩
 ·rename_i h2 _ h1
  go_ret
  have e:a=0:=by simp at *;assumption
  rw[Ub,if_pos e];exact⟨rfl,rfl⟩
 ·go_ret
  have e:a=0:=by simp at *;assumption
  have e2:b=0:=by simp at *;assumption
  rw[Ub,if_pos e,e2];exact⟨rfl,rfl⟩
theorem PB(a b d:Int)(B c:Nat)(w:World)(h0:w.cell? ⟨B,0,none⟩=some (.int .i64 a))(h1:w.cell? ⟨B,1,none⟩=some (.int .i64 b))(h2:w.cell? ⟨B,2,none⟩=some (.int .i64 d)):Calls Tryz.prog 81 #[.slice (some ⟨B,0,none⟩) 3 c] w λe w'=>e = .returned (.int .i64 (Ub a (Ub b d)))/\w'=w:=by
 go_enter Tryz.func81,Tryz.ntmps81
 go_wp2_with (refine wp_loop_rounds 4 ?_;rw[rounds_succ])
 all_goals (try (rw[rounds_succ];go_wp2))
 all_goals (try (rw[rounds_succ];go_wp2))
 all_goals (try (rw[rounds_succ];go_wp2))
 ·rename_i h
  go_ret
  rw[Ub,if_neg (by simpa using h)];exact⟨rfl,rfl⟩
 ·rename_i h1 _ h2
  go_ret
  have e:a=0:=by simp at *;assumption
  have e2:b≠0:=by simp at *;assumption
  rw[Ub,if_pos e,Ub,if_neg e2];exact⟨rfl,rfl⟩
 ·go_ret
  have e:a=0:=by simp at *;assumption
  have e2:b=0:=by simp at *;assumption
  rw[Ub,if_pos e,Ub,if_pos e2];exact⟨rfl,rfl⟩
 ·go_ret
  have e:a=0:=by simp at *;assumption
  have e2:b=0:=by simp at *;assumption
  have e3:d=0:=by simp at *;assumption
  rw[Ub,if_pos e,Ub,if_pos e2,e3];exact⟨rfl,rfl⟩
theorem OD(x y:Nat)(hx:x<256)(hy:y<256)(w:World):Calls Tryz.prog 80 #[.int .i64 x,.int .i64 y] w λe w'=>e = .returned (.int .i64 (rJ x y))/\∃q os',w'=grow (w.drewN q) os':=by
 have wx:=tB x hx;have wy:=tB y hy
 go_enter Tryz.func80,Tryz.ntmps80
 go_wp2_with (first|(go_at_call 82;(first|refine(Dd _ hx _).mono ?_|refine(Dd _ hy _).mono ?_);rintro e w' ⟨rfl,rfl⟩)|(go_at_call 68;refine(IR _ _ _).mono ?_;rintro e w' ⟨rfl,rfl⟩)|(go_at_call 81;refine(PC (oI (oE x) (oE y)) (oI x y) _ _ _ Qy Qy).mono ?_;rintro e w' ⟨rfl,rfl⟩))
 go_ret
 exact⟨rfl,0,#[_],alloc_eq_grow _ _⟩
theorem orG{a b:Nat}(ha:a<256)(hb:b<256):bits .or .i64 (a:Int) (b:Int)=((a ||| b:Nat):Int)/\a ||| b<256:=by
 refine⟨?_,Nat.or_lt_two_pow (n:=8) ha hb⟩;revert a;have:∀a:Nat,a<256->∀b:Nat,b<256->bits .or .i64 (a:Int) (b:Int)=((a ||| b:Nat):Int):=by decide +kernel
 exact λ{a} ha=>this a ha b hb
theorem OC(a b c d:Nat)(ha:a<256)(hb:b<256)(hc:c<256)(hd:d<256)(w:World):Calls Tryz.prog 95 #[.agg #[.int .i64 a,.int .i64 b],.agg #[.int .i64 c,.int .i64 d]] w λe w'=>e = .returned (.int .i64 (uz ⟨a,b⟩ ⟨c,d⟩))/\∃q os',w'=grow (w.drewN q) os':=by
 obtain⟨o1,l1⟩:=orG ha hb;obtain⟨o2,l2⟩:=orG hc hd;have r1:IntKind.u64.wrap (bits .or .i64 (a:Int) (b:Int))=((a ||| b:Nat):Int):=by rw[o1];exact tB _ l1
 have r2:IntKind.u64.wrap (bits .or .i64 (c:Int) (d:Int))=((c ||| d:Nat):Int):=by rw[o2];exact tB _ l2
 have Zi:uz ⟨(a:Int),(b:Int)⟩ ⟨(c:Int),(d:Int)⟩=Ub (oI (oE ((a ||| b:Nat):Int)) (oE ((c ||| d:Nat):Int))) (Ub (oI a c) (oI b d)):=by unfold uz;dsimp only;rw[o1,o2]
 rw[Zi];clear o1 o2 Zi
 go_enter Tryz.func95,Tryz.ntmps95
 go_wp2_with (fail)
 obtain⟨W,hW⟩:∃W,W=((w.alloc (.cells #[.int .i64 a,.int .i64 b] 45)).alloc (.cells #[.int .i64 c,.int .i64 d] 45)).drew:=⟨_,rfl⟩;have c0:W.cell? ⟨w.heap.size,0,none⟩=some (.int .i64 a):=by subst hW;simp
 have c1:W.cell? ⟨w.heap.size,1,none⟩=some (.int .i64 b):=by subst hW;simp
 have c2:W.cell? ⟨w.heap.size+1,0,none⟩=some (.int .i64 c):=by subst hW;simp
 have c3:W.cell? ⟨w.heap.size+1,1,none⟩=some (.int .i64 d):=by subst hW;simp
 refine wp_region_still_tail 25 (by kernel_rfl) (by kernel_rfl) ?_;simp only[List.take_succ_cons,List.take_zero,List.drop_succ_cons,List.drop_zero];change wpStill _ _ ((w.alloc (.cells #[.int .i64 a,.int .i64 b] 45)).alloc (.cells #[.int .i64 c,.int .i64 d] 45)).drew (λa'=>wpList _ _ _ _ a' ((w.alloc (.cells #[.int .i64 a,.int .i64 b] 45)).alloc (.cells #[.int .i64 c,.int .i64 d] 45)).drew) _ _;rw[<-hW];have hG:∀o:Obj,∃q os',W.alloc o=grow (w.drewN q) os':=λo=>⟨1,#[_]++#[_]++#[o],by
  rw[hW,alloc_eq_grow,alloc_eq_grow,alloc_eq_grow,<-grow_grow,<-grow_grow];rfl⟩
 clear hW;repeat still_step
 still_call (Dd _ l1 _)
 repeat still_step
 still_call (Dd _ l2 _)
 repeat still_step
 still_call (IR _ _ _)
 repeat still_step
 still_call (IR _ _ _)
 repeat still_step
 still_call (IR _ _ _)
 try refine wpStill_nil ?_
 go_wp2_with (go_at_call 81;refine(PB (oI (oE ((a ||| b:Nat):Int)) (oE ((c ||| d:Nat):Int))) (oI a c) (oI b d) _ _ _ Qy Qy Qy).mono ?_;rintro e w' ⟨rfl,rfl⟩)
 go_ret
 exact⟨rfl,hG _⟩
theorem rI{x:Int}(h:Y4 x):∃n:Nat,n<256/\x=n:=⟨x.toNat,by have:=h.1;have:=h.2;omega,by have:=h.1;omega⟩
theorem OB:zx Tryz.prog 32 (λx=>.int .i64 x) Y4 rJ:=λx y hx hy w=>by obtain⟨a,ha,rfl⟩:=rI hx;obtain⟨b,hb,rfl⟩:=rI hy;refine(IQ a b ha hb w).mono ?_;rintro e w' ⟨rfl,rfl⟩;exact⟨rfl,0,#[],by simp[World.drewN]⟩
theorem OA:zx Tryz.prog 80 (λx=>.int .i64 x) Y4 rJ:=λx y hx hy w=>by obtain⟨a,ha,rfl⟩:=rI hx;obtain⟨b,hb,rfl⟩:=rI hy;exact OD a b ha hb w
theorem Oz:zx Tryz.prog 95 (λx=>.agg (Vh (cuZ x)).toArray) okC uz:=λx y hx hy w=>by obtain⟨x1,x2⟩:=x;obtain⟨y1,y2⟩:=y;obtain⟨a,ha,e1⟩:=rI hx.1;obtain⟨b,hb,e2⟩:=rI hx.2;obtain⟨c,hc,e3⟩:=rI hy.1;obtain⟨d,hd,e4⟩:=rI hy.2;dsimp only at e1 e2 e3 e4;subst e1 e2 e3 e4;exact OC a b c d ha hb hc hd w
theorem oX{a b:Int}:(oI a b<0↔a<b)/\(oI a b=0↔a=b):=by
 unfold oI;split;·omega
 ·split<;>omega
theorem D8{a b:Int}:Ub a b<0↔a<0\/a=0/\b<0:=by unfold Ub;split<;>omega
theorem oz{x y:Int}:ltOf rJ x y=true↔oE x<oE y\/oE x=oE y/\x<y:=by rw[ltOf,decide_eq_true_eq,rJ,D8,oX.1,oX.2,oX.1]
theorem oA{x y:Q3}:ltOf uz x y=true↔oE (bits .or .i64 x.H x.No)<oE (bits .or .i64 y.H y.No)\/oE (bits .or .i64 x.H x.No)=oE (bits .or .i64 y.H y.No)/\(x.H<y.H\/x.H=y.H/\x.No<y.No):=by rw[ltOf,decide_eq_true_eq,uz,D8,D8,oX.1,oX.2,oX.1,oX.2,oX.1]
theorem HP{α:Type}{lt:α->α->Bool}(h1:∀x,¬lt x x=true)(h2:∀x y z,lt x y=true->lt y z=true->lt x z=true)(h3:∀x y z,¬lt x y=true->¬lt y z=true->¬lt x z=true):SWO lt where
 irrefl:=λx=>by simpa using h1 x
 trans:=h2
 ntrans:=λx y z a b=>by simpa using h3 x y z (by simp[a]) (by simp[b])
theorem Oc:SWO (ltOf rJ):=HP (λx=>by rw[oz];omega) (λx y z=>by rw[oz,oz,oz];omega) (λx y z=>by rw[oz,oz,oz];omega)
theorem Pl:SWO (ltOf uz):=HP (λx=>by rw[oA];omega) (λx y z=>by rw[oA,oA,oA];omega) (λx y z=>by rw[oA,oA,oA];omega)
theorem KW:sk Tryz.prog 31 32 1 (λx=>[(.i64,x)]) Y4 rJ:=Da DW (enters_of Tryz.func32 (by kernel_rfl) rfl) (x0:=0) ⟨by decide,by decide⟩ Oc OB
theorem KV:sk Tryz.prog 31 80 1 (λx=>[(.i64,x)]) Y4 rJ:=Da DW (enters_of Tryz.func80 (by kernel_rfl) rfl) (x0:=0) ⟨by decide,by decide⟩ Oc OA
theorem KU:sk Tryz.prog 94 95 2 cuZ okC uz:=IM (zs:=cuZ) (kk:=2) (ok:=okC) (cf:=uz) HW (by decide) (λ_=>by kernel_rfl) (λ_=>by kernel_rfl) (λ_=>rfl) (enters_of Tryz.func95 (by kernel_rfl) rfl) (x0:=⟨0,0⟩) ⟨⟨by decide,by decide⟩,by decide,by decide⟩ Pl Oz
theorem IX{P:Program}{ρ:Ren}(L:Lays8.n4 P ρ)(Yf:kN P (ρ.f 4)=true){i0:TypeInfo}{z:Value}(hi0:P.info? (ρ.t 25)=some i0)(hz0:i0.zero=some z)(hs:i0.size=1)(hb:i0.bytes=8)(hzc:z.cells.size=1){n:Int}(q k:Nat)(hn:0<=n/\n*8<=140737488355328){S:St}{R:AV->St->Prop}(hQ:∀g,R (.sl 1 q k g 0 0) (S.set q k (.arr 1 []) g)):Ctr P (ρ.f 4) [.nil,.int .i64 n] S R:=by
 refine⟨Yf,λG w vs hr V8=>?_⟩;obtain⟨RP,hvr⟩:=V8;have e0:=hvr 0 Qy (by rw[RP];simp);have e1:=hvr 1 Qy (by rw[RP];simp);obtain⟨v0,v1,rfl⟩:∃a b,vs = #[a,b]:=by
  rcases vs with⟨l⟩;match l,RP with
  | [a,b],_=>exact⟨a,b,rfl⟩
 simp only[List.getElem_cons_zero,List.getElem_cons_succ,List.getElem_toArray]at e0 e1;cases e0;cases e1;obtain⟨n,rfl⟩:∃m:Nat,n=m:=⟨n.toNat,om⟩
 have fresh:∀(w':World) (a:Option Addr) (row:Array Value) (c:Nat),c<=maxLen->w.grownBy w' none->(0<c->a=some ⟨w.heap.size,0,none⟩)->(0<c->w'.heap[w.heap.size]? = some (.cells row (ρ.t 25) (0,0))/\row.size=c)->
   ∃v' av S' G',Ending.returned (.slice a 0 c) = .returned v'/\R av S'/\G.le G'/\Rel G' S' w'/\VR G' av v':=by
  intro w' a row c hcm hg ha Ri;obtain⟨g,hgf⟩:=hr.fresh q k
  obtain⟨G',q1',q2',_,q4'⟩:=hr.put hg q k g (.arr 1 []) ⟨w.heap.size,c,1,ρ.t 25⟩ (λb hb=>by cases hb) (λ_=>.inl (Nat.le_refl _)) (.inl hgf)
   (λG' hle=>⟨by decide,rfl,Nat.zero_le _,hcm,λi hi=>absurd hi (Nat.not_lt_zero _),λhc=>⟨row,(Ri hc).1,by rw[(Ri hc).2];simp,λi hi=>absurd hi (Nat.not_lt_zero _)⟩⟩)
  refine⟨_,_,_,G',rfl,hQ g,q1',q4',?_⟩;have:=VR.sl (G:=G') 1 q k g 0 0 a _ q2' rfl (Nat.zero_le _) hcm (λhc=>by rw[ha hc];simp);simpa using this
 by_cases h0:n=0;·subst h0;refine(Any8.slices_Grow_room L none 0 0 0 w (Nat.le_refl _) (by decide) (by decide) (Nat.le_refl _)).mono ?_;rintro e w' ⟨rfl,rfl⟩;exact fresh _ none #[] 0 (Nat.zero_le _) ⟨rfl,rfl,rfl,Nat.le_refl _,λ_ _ _=>rfl⟩ (λh=>absurd h (by decide)) (λh=>absurd h (by decide))
 ·refine(Any8.slices_Grow_grow L i0 z hi0 hz0 om none 0 0 n [] w (Nat.le_refl _) om (by rw[hb];omega) om Qy (λ_=>rfl) (λa ha=>by cases ha)).mono ?_;rintro e w' ⟨rfl,rfl⟩;have TV:=grownCap_ge w (0+n) 0 (ρ.t 25);refine fresh _ _ _ _ (grownCap_le_maxLen _ _ _ _ (by simp only[maxLen];omega)) (ud w _) (λ_=>rfl) (λ_=>⟨heap_alloc_new w.drew _,?_⟩);simp only[Array.size_append,List.size_toArray,List.length_nil,size_zeroCells,hzc];omega
noncomputable def OM:TypeInfo:=(Tryz.prog.info? 3).get (by kernel_rfl)
theorem OK{n:Int}(rg q:Nat)(hn:0<=n/\n*8<=140737488355328){S:St}{R:AV->St->Prop}(hQ:∀g,R (.sl 1 rg q g 0 0) (S.set rg q (.arr 1 []) g)):Ctr Tryz.prog 206 [.nil,.int .i64 n] S R:=IX OL (by kernel_rfl) (i0:=OM) (z:=.int .i64 0) (by kernel_rfl) (by kernel_rfl) (by kernel_rfl) (by kernel_rfl) rfl rg q hn hQ
end Go.Proofs.YtbnjpdocceckeaaGreat
