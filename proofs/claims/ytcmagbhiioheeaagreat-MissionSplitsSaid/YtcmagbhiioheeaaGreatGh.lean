/- slices.Insert of own rows whose elements have kk cells: the library's text walked once, over any numbering. Conditions: none. -/
import Derived.Test.YtcmagbhiioheeaaGreatGd2
import Derived.Test.YtcmagbhiioheeaaGreatGd
import Derived.Shelf.Spec.SlicesInsert
import Derived.Lib.AppendZerosOnto
import Derived.Laws.NewBlocks
open List (append_assoc length_append length_drop length_take size_toArray)
open Nat (add_assoc add_mul ble le_refl min_def mul_le_mul_right sub_mul zero_add zero_mul)
open Go.IntKind (i64 wrap_i64)
namespace Go.Gg
open Go.RowKit (Below)
open Go.Shelf Go.Proofs Go.Lib
structure InsL (P:Program) (ρ:Ren) (e:TypeId) (kk by':Nat) (zv:Value) (nm no:String):Prop where
 bG:P.follows .mixedOrders=true
 f22:P.funcs[ρ.f 22]? = some { Body2.n22 ρ with name:=nm }
 f29:P.funcs[ρ.f 29]? = some { Body2.n29 ρ with name:=no }
 n29 : (no == "runtime.NumGoroutine") = false
 o29:Extern.findNext { Body2.n29 ρ with name:=no }=none
 x29:Extern.find { Body2.n29 ρ with name:=no }=some (Extern.SlicesOverlaps.overlaps #[(ρ.t 24),(ρ.t 24)] #[(ρ.t 4)])
 t0:P.underlying (ρ.t 0)=some (TypeDesc.tuple #[])
 a0:∀w,(isAgg (ρ.t 0)).run P w = .ok false w
 z0:∀w,(Go.sizeOf (ρ.t 0)).run P w = .ok 1 w
 v0:∀w,(zeroValue (ρ.t 0)).run P w = .ok (Value.tuple #[]) w
 t3:P.underlying (ρ.t 3)=some (TypeDesc.int i64)
 a3:∀w,(isAgg (ρ.t 3)).run P w = .ok false w
 z3:∀w,(Go.sizeOf (ρ.t 3)).run P w = .ok 1 w
 v3:∀w,(zeroValue (ρ.t 3)).run P w = .ok (Value.int i64 0) w
 t4:P.underlying (ρ.t 4)=some (TypeDesc.bool)
 a4:∀w,(isAgg (ρ.t 4)).run P w = .ok false w
 z4:∀w,(Go.sizeOf (ρ.t 4)).run P w = .ok 1 w
 v4:∀w,(zeroValue (ρ.t 4)).run P w = .ok (Value.bool false) w
 t24:P.underlying (ρ.t 24)=some (TypeDesc.slice e)
 a24:∀w,(isAgg (ρ.t 24)).run P w = .ok false w
 z24:∀w,(Go.sizeOf (ρ.t 24)).run P w = .ok 1 w
 v24:∀w,(zeroValue (ρ.t 24)).run P w = .ok (Value.slice none 0 0) w
 z9:∀w,(Go.sizeOf e).run P w = .ok kk w
 i9:(P.info? e).map (λi=>(i.zero,i.size,i.bytes))=some (some zv,kk,by')
 k0:0<kk
 zc:zv.cells.size=kk
theorem B_ {P:Program} (w:World) (dT sT ty e:TypeId) (kk b o dLen dCap:Nat) (a:Addr) (sLen sCap:Nat) (cs:List Value) (hu:P.underlying dT=some (.slice e)) (hs:(P.info? e).map (·.size)=some kk) (hn:cs.length=Nat.min sLen dLen*kk)
  (hsrc:∀j v,cs[j]? = some v->w.cell? (a.add j)=some v) (hc:∀j,j<cs.length->(w.cell? ⟨b,o+j,none⟩).isSome=true) (hf:∀j,j<cs.length->w.frozen? ⟨b,o+j,none⟩=false) (h1:∀v∈cs,v.oneCell'=true) :
  (Builtin.copy_ #[dT,sT] ty #[.slice (some ⟨b,o,none⟩) dLen dCap,.slice (some a) sLen sCap]).run P w = .ok (goInt (Nat.min sLen dLen)) (w.setCells b o cs):=by
 have hl:=run_loadCells_list (P:=P) w a cs hsrc
 have hst:=run_storeCells_cells (P:=P) b o cs 0 w (by simpa using hc) (by simpa using hf) h1
 cases hq:P.info? e with
 | none=>simp[hq] at hs
 | some i=>
  have hi:i.size=kk:=by simpa[hq] using hs
  simp[Builtin.copy_,run_underlying hu,Builtin.lenOf,Builtin.firstCells,sizeOf,typeInfo,hq,hi,<-hn,hl,hst]
section
variable {P:Program} {ρ:Ren} {e:TypeId} {kk by':Nat} {zv:Value} {nm no:String}
set_option maxHeartbeats 4000000 in
set_option maxRecDepth 100000 in
theorem AX (L:InsL P ρ e kk by' zv nm no) (b off n c i vb voff m vc:Nat) (cs vs:List Value) (w:World) (hi:i<n) (hm:0<m) (hroom:n+m<=c) (hc63:c<=9223372036854775807) (hvb:vb≠b)
  (hcl:cs.length=n*kk) (hvl:vs.length=m*kk)
  (hcs:∀j v,cs[j]? = some v->w.cell? ⟨b,off+j,none⟩=some v) (hsp:∀j,j<(n+m)*kk->(w.cell? ⟨b,off+j,none⟩).isSome=true) (hfz:∀j,w.frozen? ⟨b,j,none⟩=false)
  (hvs:∀j v,vs[j]? = some v->w.cell? ⟨vb,voff+j,none⟩=some v) (h1c:∀v∈cs,v.oneCell'=true) (h1v:∀v∈vs,v.oneCell'=true)
  (tA tB:TypeId) (kA kB:Nat) (hsa:w.shape? vb=some (tA,kA)) (hsb:w.shape? b=some (tB,kB)) (hkB:kB≠0) (hfa:w.frozen? ⟨vb,voff,none⟩=false) (hfe:w.frozen? ⟨vb,kA,none⟩=false) :
  Calls P (ρ.f 22) #[.slice (some ⟨b,off,none⟩) n c,.int .i64 i,.slice (some ⟨vb,voff,none⟩) m vc] w λe w'=>
   e = .returned (.slice (some ⟨b,off,none⟩) (n+m) c)/\w'=(w.drew.setCells b (off+(i+m)*kk) (cs.drop (i*kk))).setCells b (off+i*kk) vs:=by
 obtain⟨bG,f22,f29,n29,o29,x29,t0,a0,z0,v0,t3,a3,z3,v3,t4,a4,z4,v4,t24,a24,z24,v24,z9,i9,k0,zc⟩:=L
 have u0:=run_underlying t0;have u3:=run_underlying t3;have u4:=run_underlying t4;have u24:=run_underlying t24
 have hz1:¬((m:Int)=0):=om
 have hz2:¬((i:Int)=(n:Int)):=om
 have hsz:(P.info? e).map (·.size)=some kk:=by
  obtain⟨i0,hi0,h0,h1,h2⟩:=info_parts i9
  rw[hi0];simp[h1]
 have hov:∀lb cb,(callFunc (ρ.f 29) #[.slice (some ⟨vb,voff,none⟩) m vc,.slice (some ⟨b,off+(i+m)*kk,none⟩) lb cb]).run P w = .ok (.value (.bool false)) w:=λlb cb=>by
  rw[run_callFunc_extern f29 n29 (by kernel_rfl) o29 x29,
   Lib.run_overlaps_apart w (ρ.t 24) (ρ.t 4) e t24 kk z9 ⟨vb,voff,none⟩ ⟨b,off+(i+m)*kk,none⟩ m vc lb cb hvb tA tB kA kB hsa hsb hkB hfa hfe]
  rfl
 have hw1:IntKind.i64.wrap ((i:Int)+(m:Int))=(i:Int)+(m:Int):=by rw[wrap_i64];omega
 have hb1:(0:Int)<=(i:Int)+(m:Int):=om
 have hin:i<=n:=om
 have htn:((i:Int)+(m:Int)).toNat=i+m:=om
 have hb2:¬(c=i+m):=om
 have hb3:(i:Int)<=(n:Int)+(m:Int):=om
 have hb4:¬(c=i):=om
 have hmul:n*kk-i*kk=(n-i)*kk:=(sub_mul n i kk).symm
 have him:(i+m)*kk=i*kk+m*kk:=add_mul i m kk
 have hnm:(n+m)*kk=n*kk+m*kk:=add_mul n m kk
 have hik:i*kk<=n*kk:=mul_le_mul_right kk hin
 have hdl:(cs.drop (i*kk)).length=n*kk-i*kk:=by rw[length_drop,hcl]
 have hcp1:∀ty dc sc,(Builtin.copy_ #[(ρ.t 24),(ρ.t 24)] ty #[.slice (some ⟨b,off+(i+m)*kk,none⟩) (n+m-(i+m)) dc,.slice (some ⟨b,off+i*kk,none⟩) (n+m-i) sc]).run P w.drew = .ok (goInt (Nat.min (n+m-i) (n+m-(i+m)))) (w.drew.setCells b (off+(i+m)*kk) (cs.drop (i*kk))):=λty dc sc=>
  B_ w.drew _ _ ty e kk b (off+(i+m)*kk) (n+m-(i+m)) dc ⟨b,off+i*kk,none⟩ (n+m-i) sc (cs.drop (i*kk)) t24 hsz (by rw[hdl,hmul,show Nat.min (n+m-i) (n+m-(i+m))=n-i by simp only[min_def];split<;>omega])
   (λj v hj=>by rw[Addr.add_lit,add_assoc];exact hcs (i*kk+j) v (by rwa[List.getElem?_drop] at hj))
   (λj hj=>by rw[add_assoc];exact hsp _ om) (λj hj=>hfz _) (λv hv=>h1c v (List.mem_of_mem_drop hv))
 obtain⟨W1,hW1⟩:∃W1,W1=w.drew.setCells b (off+(i+m)*kk) (cs.drop (i*kk)):=⟨_,rfl⟩
 have hsp1:∀k,k<(n+m)*kk->(W1.cell? ⟨b,off+k,none⟩).isSome=true:=λk hk=>by
  rw[hW1]
  exact isSome_setCells b _ _ _ (λj hj=>by rw[add_assoc];exact hsp _ om) _ (hsp k hk)
 have hcp2:∀(W:World),(∀x,W.cell? x=W1.cell? x)->(∀x,W.frozen? x=W1.frozen? x)->∀ty dc,(Builtin.copy_ #[(ρ.t 24),(ρ.t 24)] ty #[.slice (some ⟨b,off+i*kk,none⟩) (n+m-i) dc,.slice (some ⟨vb,voff,none⟩) m vc]).run P W = .ok (goInt (Nat.min m (n+m-i))) (W.setCells b (off+i*kk) vs):=λW hWc hWf ty dc=>
  B_ W _ _ ty e kk b (off+i*kk) (n+m-i) dc ⟨vb,voff,none⟩ m vc vs t24 hsz (by rw[hvl,show Nat.min m (n+m-i)=m by simp only[min_def];split<;>omega])
   (λj v hj=>by
    rw[Addr.add_lit,hWc,hW1,World.cell?_setCells_out b _ _ _ _ (λh _=>absurd h hvb)]
    exact hvs j v hj)
   (λj hj=>by rw[hWc,add_assoc];exact hsp1 _ om) (λj hj=>by rw[hWf,hW1,World.frozen?_setCells];exact hfz _) h1v
 rw[<-hW1] at hcp1
 clear hmul him hnm hik hdl
 go_enter f22,Body2.n22_ntmps ρ
 go_wp2_with (simp only[hov])
 go_region_law_o (refine step_copy_runI rfl _ _ (ρ.t 24) (ρ.t 24) rfl _ _ (by simp[Act.eval,Act.put]) (by simp[Act.eval,Act.put]) (hcp1 _ _ _) ?_)
 go_wp2_with (at_builtin;refine wpList_copy_runI _ rfl _ _ (ρ.t 24) (ρ.t 24) rfl _ _ rfl rfl (hcp2 _ (λ_=>rfl) (λ_=>rfl) _ _) ?_)
 go_ret
 first | exact⟨rfl,rfl⟩ | exact⟨rfl,by rw[hW1]⟩
set_option maxHeartbeats 4000000 in
set_option maxRecDepth 100000 in
theorem w_ (L:InsL P ρ e kk by' zv nm no) (b off n c vb voff m vc:Nat) (vs:List Value) (w:World) (hm:0<m) (hroom:n+m<=c) (hc63:c<=9223372036854775807)
  (hvl:vs.length=m*kk) (hsp:∀j,j<m*kk->(w.cell? ⟨b,off+n*kk+j,none⟩).isSome=true) (hfz:∀j,w.frozen? ⟨b,j,none⟩=false)
  (hvs:∀j v,vs[j]? = some v->w.cell? ⟨vb,voff+j,none⟩=some v) (h1v:∀v∈vs,v.oneCell'=true) :
  Calls P (ρ.f 22) #[.slice (some ⟨b,off,none⟩) n c,.int .i64 n,.slice (some ⟨vb,voff,none⟩) m vc] w λe w'=>
   e = .returned (.slice (some ⟨b,off,none⟩) (n+m) c)/\w'=w.setCells b (off+n*kk) vs:=by
 obtain⟨bG,f22,f29,n29,o29,x29,t0,a0,z0,v0,t3,a3,z3,v3,t4,a4,z4,v4,t24,a24,z24,v24,z9,i9,k0,zc⟩:=L
 have u0:=run_underlying t0;have u3:=run_underlying t3;have u4:=run_underlying t4;have u24:=run_underlying t24
 obtain⟨i0,hi0,hz0,hzs,hzb⟩:=info_parts i9
 have hz1:¬((m:Int)=0):=om
 have hsrc:Src P i0.size (ρ.t 24) (.slice (some ⟨vb,voff,none⟩) m vc) m vs w:=Src.ofSlice w t24 ⟨vb,voff,none⟩ m vc vs (by rw[hzs];exact hvl) (λj u hj=>by rw[Addr.add_lit];exact hvs j u hj) h1v
 have hrun:∀ty,(Builtin.append_ #[(ρ.t 24),(ρ.t 24)] ty #[.slice (some ⟨b,off,none⟩) n c,.slice (some ⟨vb,voff,none⟩) m vc]).run P w = .ok (.slice (some ⟨b,off,none⟩) (n+m) c) (w.setCells b (off+n*kk) vs):=λty=>by
  have h:=run_append_room_src w (ρ.t 24) (ρ.t 24) ty e i0 t24 hi0 b off n c _ m vs hsrc hroom (by rw[hzs,hvl];exact hsp) (λj _=>hfz _)
  rw[hzs] at h
  exact h
 go_enter f22,Body2.n22_ntmps ρ
 go_wp2_with (at_builtin;refine Lib.wpList_append_run _ rfl _ _ _ _ rfl _ _ rfl rfl _ _ (hrun _) ?_)
 go_ret
 exact⟨rfl,rfl⟩
set_option maxHeartbeats 4000000 in
set_option maxRecDepth 100000 in
theorem xa (L:InsL P ρ e kk by' zv nm no) (base:Option Addr) (n c vb voff m vc:Nat) (cs vs:List Value) (w:World) (hm:0<m) (hnc:n<=c) (hroom:c<n+m) (hbig:(n+m)*by'<=140737488355328) (h63:n+m<=140737488355328)
  (hcl:cs.length=n*kk) (hvl:vs.length=m*kk) (hnil:base=none->n=0)
  (hcs:∀a,base=some a->∀j v,cs[j]? = some v->w.cell? (a.add j)=some v)
  (hvs:∀j v,vs[j]? = some v->w.cell? ⟨vb,voff+j,none⟩=some v) (h1v:∀v∈vs,v.oneCell'=true) :
  Calls P (ρ.f 22) #[.slice base n c,.int .i64 n,.slice (some ⟨vb,voff,none⟩) m vc] w λr w'=>
   r = .returned (.slice (some ⟨w.heap.size,0,none⟩) (n+m) (grownCap w (n+m) c e))/\
   w'=w.drew.alloc (.cells ((cs++vs).toArray++Builtin.zeroCells zv.cells (grownCap w (n+m) c e-(n+m))) e):=by
 obtain⟨bG,f22,f29,n29,o29,x29,t0,a0,z0,v0,t3,a3,z3,v3,t4,a4,z4,v4,t24,a24,z24,v24,z9,i9,k0,zc⟩:=L
 have u0:=run_underlying t0;have u3:=run_underlying t3;have u4:=run_underlying t4;have u24:=run_underlying t24
 obtain⟨i0,hi0,hz0,hzs,hzb⟩:=info_parts i9
 have hz1:¬((m:Int)=0):=om
 have hsrc:Src P i0.size (ρ.t 24) (.slice (some ⟨vb,voff,none⟩) m vc) m vs w:=Src.ofSlice w t24 ⟨vb,voff,none⟩ m vc vs (by rw[hzs];exact hvl) (λj u hj=>by rw[Addr.add_lit];exact hvs j u hj) h1v
 have hold:(Builtin.firstCells i0.size n (.slice base n c)).run P w.drew = .ok cs.toArray w.drew:=by
  rw[hzs]
  cases base with
  | none=>
   have h0:=hnil rfl
   subst h0
   obtain rfl:cs=[]:=List.length_eq_zero_iff.1 (by rw[hcl,zero_mul])
   exact run_firstCells_none w.drew kk 0 0 c
  | some a=>exact run_firstCells_some w.drew kk n a n c cs hcl (λj v hj=>hcs a rfl j v hj)
 have hrun:∀ty,(Builtin.append_ #[(ρ.t 24),(ρ.t 24)] ty #[.slice base n c,.slice (some ⟨vb,voff,none⟩) m vc]).run P w=_:=λty=>
  run_append_grow_src w (ρ.t 24) (ρ.t 24) ty e i0 _ t24 hi0 hz0 base n c cs hold _ m vs hsrc hroom om (by rw[hzb];exact growslice_fits hroom hbig)
 go_enter f22,Body2.n22_ntmps ρ
 cases base with
 | none=>
  have h0:=hnil rfl
  subst h0
  go_wp2_with (at_builtin;refine Lib.wpList_append_run _ rfl _ _ _ _ rfl _ _ rfl rfl _ _ (hrun _) ?_)
  all_goals (go_ret;exact⟨rfl,rfl⟩)
 | some a=>
  obtain⟨ab,ao,asp⟩:=a
  go_wp2_with (at_builtin;refine Lib.wpList_append_run _ rfl _ _ _ _ rfl _ _ rfl rfl _ _ (hrun _) ?_)
  all_goals (go_ret;exact⟨rfl,rfl⟩)
set_option maxHeartbeats 4000000 in
set_option maxRecDepth 100000 in
theorem CS (L:InsL P ρ e kk by' zv nm no) (b off n c i vb voff m vc:Nat) (cs vs:List Value) (w:World) (hi:i<n) (hm:0<m) (hnc:n<=c) (hroom:c<n+m) (hbig:(n+m)*by'<=140737488355328) (h63:n+m<=140737488355328)
  (hcl:cs.length=n*kk) (hvl:vs.length=m*kk)
  (hcs:∀j v,cs[j]? = some v->w.cell? ⟨b,off+j,none⟩=some v)
  (hvs:∀j v,vs[j]? = some v->w.cell? ⟨vb,voff+j,none⟩=some v) (h1c:∀v∈cs,v.oneCell'=true) (h1v:∀v∈vs,v.oneCell'=true) :
  Calls P (ρ.f 22) #[.slice (some ⟨b,off,none⟩) n c,.int .i64 i,.slice (some ⟨vb,voff,none⟩) m vc] w λr w'=>
   r = .returned (.slice (some ⟨w.heap.size,0,none⟩) (n+m) (grownCap w (n+m) c e))/\
   w'=(((w.alloc (.cells ((cs.take (i*kk)).toArray++Builtin.zeroCells zv.cells (n+m-i)++Builtin.zeroCells zv.cells (grownCap w (n+m) c e-(n+m))) e)).drew.setCells w.heap.size (i*kk) vs).drew).setCells w.heap.size ((i+m)*kk) (cs.drop (i*kk)):=by
 obtain⟨bG,f22,f29,n29,o29,x29,t0,a0,z0,v0,t3,a3,z3,v3,t4,a4,z4,v4,t24,a24,z24,v24,z9,i9,k0,zc⟩:=L
 have u0:=run_underlying t0;have u3:=run_underlying t3;have u4:=run_underlying t4;have u24:=run_underlying t24
 obtain⟨i0,hi0,hz0,hzs,hzb⟩:=info_parts i9
 have hz1:¬((m:Int)=0):=om
 have hz2:¬((i:Int)=(n:Int)):=om
 have hz3:(c:Int)<(n:Int)+(m:Int):=om
 have hsz:(P.info? e).map (·.size)=some kk:=by rw[hi0];simp[hzs]
 have hin:i<=n:=om
 have hmul:n*kk-i*kk=(n-i)*kk:=(sub_mul n i kk).symm
 have him:(i+m)*kk=i*kk+m*kk:=add_mul i m kk
 have hnm:(n+m)*kk=n*kk+m*kk:=add_mul n m kk
 have hikk:i*kk<=n*kk:=mul_le_mul_right kk hin
 have hn0:0<n*kk:=Nat.mul_pos om k0
 have hm0:0<m*kk:=Nat.mul_pos hm k0
 have hbw:b<w.heap.size:=block_lt_of_cell (hcs 0 _ (List.getElem?_eq_getElem om))
 have hvw:vb<w.heap.size:=block_lt_of_cell (hvs 0 _ (List.getElem?_eq_getElem om))
 have hkk:(n:Int)+(m:Int)-(i:Int)=((n+m-i:Nat):Int):=om
 have hik:i+(n+m-i)=n+m:=om
 have hold:(Builtin.firstCells i0.size i (.slice (some ⟨b,off,none⟩) i c)).run P w.drew = .ok (cs.take (i*kk)).toArray w.drew:=by
  rw[hzs]
  exact run_firstCells_some w.drew kk i ⟨b,off,none⟩ i c (cs.take (i*kk)) (by rw[length_take];omega) (λj v hj=>by
   rw[Addr.add_lit]
   rw[List.getElem?_take] at hj
   split at hj
   ·exact hcs j v hj
   ·cases hj)
 have hby:(n+m-i)*by'<=(n+m)*by':=mul_le_mul_right by' (Nat.sub_le _ _)
 have hrz:∀ty,(Builtin.append_ #[(ρ.t 24),(ρ.t 3)] ty #[.slice (some ⟨b,off,none⟩) i c,.int .i64 ((n:Int)+(m:Int)-(i:Int))]).run P w =
   .ok (.slice (some ⟨w.heap.size,0,none⟩) (n+m) (grownCap w (n+m) c e)) (w.drew.alloc (.cells ((cs.take (i*kk)).toArray++Builtin.zeroCells zv.cells (n+m-i)++Builtin.zeroCells zv.cells (grownCap w (n+m) c e-(n+m))) e)):=λty=>by
  have h:=Lib.run_append_grow_zeros w (ρ.t 24) (ρ.t 3) ty e i0 _ .i64 .i64 t24 t3 hi0 hz0 (some ⟨b,off,none⟩) i c (cs.take (i*kk)) hold (n+m-i) om om om om (by rw[hzb];omega) (by rw[hzb,hik];exact growslice_fits hroom hbig)
  rw[hik] at h
  rw[hkk]
  exact h
 obtain⟨G,hG⟩:∃G,G=grownCap w (n+m) c e:=⟨_,rfl⟩
 obtain⟨ROW,hROW⟩:∃ROW:Array Value,ROW=(cs.take (i*kk)).toArray++Builtin.zeroCells zv.cells (n+m-i)++Builtin.zeroCells zv.cells (G-(n+m)):=⟨_,rfl⟩
 rw[<-hG] at hrz ⊢
 rw[<-hROW] at hrz ⊢
 have hRl:(n+m)*kk<=ROW.size:=by
  have h1:(n+m-i)*kk=(n+m)*kk-i*kk:=sub_mul _ _ _
  rw[hROW]
  simp only[Array.size_append,size_toArray,length_take,hcl,size_zeroCells,zc,h1]
  omega
 obtain⟨W1,hW1⟩:∃W1,W1=w.drew.alloc (.cells ROW e):=⟨_,rfl⟩
 rw[<-hW1] at hrz
 have hN:∀j,j<(n+m)*kk->(W1.cell? ⟨w.heap.size,j,none⟩).isSome=true:=λj hj=>by
  rw[hW1,World.cell?_alloc_at (w:=w.drew) ROW _ w.heap.size j rfl,Array.getElem?_eq_getElem om];rfl
 have hNf:∀j,W1.frozen? ⟨w.heap.size,j,none⟩=false:=λj=>by rw[hW1];exact World.frozen?_alloc_at (w:=w.drew) ROW _ w.heap.size j rfl
 have hOb:∀j v,w.cell? ⟨b,j,none⟩=some v->W1.cell? ⟨b,j,none⟩=some v:=λj v h=>by rw[hW1,World.cell?_alloc_past (w:=w.drew) _ b j hbw];exact h
 have hOv:∀j v,w.cell? ⟨vb,j,none⟩=some v->W1.cell? ⟨vb,j,none⟩=some v:=λj v h=>by rw[hW1,World.cell?_alloc_past (w:=w.drew) _ vb j hvw];exact h
 have hcpA:∀(W:World),(∀x,W.cell? x=W1.cell? x)->(∀x,W.frozen? x=W1.frozen? x)->∀ty dc,(Builtin.copy_ #[(ρ.t 24),(ρ.t 24)] ty #[.slice (some ⟨w.heap.size,i*kk,none⟩) (n+m-i) dc,.slice (some ⟨vb,voff,none⟩) m vc]).run P W = .ok (goInt (Nat.min m (n+m-i))) (W.setCells w.heap.size (i*kk) vs):=λW hWc hWf ty dc=>
  B_ W _ _ ty e kk w.heap.size (i*kk) (n+m-i) dc ⟨vb,voff,none⟩ m vc vs t24 hsz (by rw[hvl,show Nat.min m (n+m-i)=m by simp only[min_def];split<;>omega])
   (λj v hj=>by rw[Addr.add_lit,hWc];exact hOv _ v (hvs j v hj))
   (λj hj=>by rw[hWc];exact hN _ om) (λj hj=>by rw[hWf];exact hNf _) h1v
 have hGn:n+m<=G:=by rw[hG];exact grownCap_ge w _ _ _
 have hG63:G<=9223372036854775807:=by
  have:=grownCap_le_maxLen w (n+m) c e (by unfold maxLen;omega)
  rw[<-hG] at this
  unfold maxLen at this
  omega
 have hGi:¬(G=i):=om
 have hGim:¬(G=i+m):=om
 have hci:¬(c=i):=om
 have hbN:b≠w.heap.size:=om
 have hdl:(cs.drop (i*kk)).length=n*kk-i*kk:=by rw[length_drop,hcl]
 have hcpB:∀(W:World),(∀x,W.cell? x=(W1.setCells w.heap.size (i*kk) vs).cell? x)->(∀x,W.frozen? x=(W1.setCells w.heap.size (i*kk) vs).frozen? x)->∀ty dc sc,(Builtin.copy_ #[(ρ.t 24),(ρ.t 24)] ty #[.slice (some ⟨w.heap.size,(i+m)*kk,none⟩) (n+m-(i+m)) dc,.slice (some ⟨b,off+i*kk,none⟩) (n-i) sc]).run P W = .ok (goInt (Nat.min (n-i) (n+m-(i+m)))) (W.setCells w.heap.size ((i+m)*kk) (cs.drop (i*kk))):=λW hWc hWf ty dc sc=>
  B_ W _ _ ty e kk w.heap.size ((i+m)*kk) (n+m-(i+m)) dc ⟨b,off+i*kk,none⟩ (n-i) sc (cs.drop (i*kk)) t24 hsz (by rw[hdl,hmul,show Nat.min (n-i) (n+m-(i+m))=n-i by simp only[min_def];split<;>omega])
   (λj v hj=>by
    rw[Addr.add_lit,hWc,World.cell?_setCells_out _ _ _ _ _ (λh _=>absurd h hbN),add_assoc]
    exact hOb _ v (hcs (i*kk+j) v (by rwa[List.getElem?_drop] at hj)))
   (λj hj=>by rw[hWc];exact isSome_setCells _ _ _ _ (λt ht=>hN _ om) _ (hN _ om))
   (λj hj=>by rw[hWf,World.frozen?_setCells];exact hNf _) (λv hv=>h1c v (List.mem_of_mem_drop hv))
 subst hW1
 have hE1:∀x,((w.alloc (.cells ROW e)).drew).cell? x=(w.drew.alloc (.cells ROW e)).cell? x:=λx=>rfl
 have hE2:∀x,((w.alloc (.cells ROW e)).drew).frozen? x=(w.drew.alloc (.cells ROW e)).frozen? x:=λx=>rfl
 have hF1:∀x,(((w.alloc (.cells ROW e)).drew.setCells w.heap.size (i*kk) vs).drew).cell? x=((w.drew.alloc (.cells ROW e)).setCells w.heap.size (i*kk) vs).cell? x:=λx=>rfl
 have hF2:∀x,(((w.alloc (.cells ROW e)).drew.setCells w.heap.size (i*kk) vs).drew).frozen? x=((w.drew.alloc (.cells ROW e)).setCells w.heap.size (i*kk) vs).frozen? x:=λx=>rfl
 have hw1:IntKind.i64.wrap ((i:Int)+(m:Int))=(i:Int)+(m:Int):=by rw[wrap_i64];omega
 have hb1:(0:Int)<=(i:Int)+(m:Int):=om
 have htn:((i:Int)+(m:Int)).toNat=i+m:=om
 have hb3:(i:Int)<=(n:Int):=om
 clear hkk hik hold hROW hG hRl hmul him hnm hikk hn0 hm0 hdl hby
 go_enter f22,Body2.n22_ntmps ρ
 go_wp2_with (first
  | (at_builtin;refine Lib.wpList_append_run _ rfl _ _ _ _ rfl _ _ rfl rfl _ _ (hrz _) ?_)
  | (at_builtin;refine wpList_copy_runI _ rfl _ _ (ρ.t 24) (ρ.t 24) rfl _ _ rfl rfl (hcpA _ hE1 hE2 _ _) ?_)
  | (at_builtin;refine wpList_copy_runI _ rfl _ _ (ρ.t 24) (ρ.t 24) rfl _ _ rfl rfl (hcpB _ (λ_=>rfl) (λ_=>rfl) _ _ _) ?_))
 go_region_law_o (refine step_copy_runI rfl _ _ (ρ.t 24) (ρ.t 24) rfl (.slice (some ⟨w.heap.size,(i+m)*kk,none⟩) (n+m-(i+m)) (G-(i+m))) (.slice (some ⟨b,off+i*kk,none⟩) (n-i) (c-i)) (by simp[Act.eval,Act.put]) (by simp[Act.eval,Act.put]) (hcpB _ hF1 hF2 (ρ.t 3) (G-(i+m)) (c-i)) ?_)
 go_wp2
 go_ret
 exact⟨rfl,rfl⟩
end
def eB (l:List AV):List AV:=l.flatMap AV.cells
def Lay (G:Ghost) (l:List AV) (cs:List Value):Prop:=l.length=cs.length/\∀(i:Nat) (a:AV) (x:Value),l[i]? = some a->cs[i]? = some x->VR G a x
theorem Lay.app {G:Ghost} {l l':List AV} {cs cs':List Value} (h:Lay G l cs) (h':Lay G l' cs'):Lay G (l++l') (cs++cs'):=by
 refine⟨by rw[length_append,length_append,h.1,h'.1],λi a x h1 h2=>?_⟩
 rw[List.getElem?_append] at h1 h2
 rw[<-h.1] at h2
 split at h1
 ·rename_i hc;rw[if_pos hc] at h2;exact h.2 _ _ _ h1 h2
 ·rename_i hc;rw[if_neg hc] at h2;exact h'.2 _ _ _ h1 h2
theorem Lay.take {G:Ghost} {l:List AV} {cs:List Value} (h:Lay G l cs) (n:Nat):Lay G (l.take n) (cs.take n):=by
 refine⟨by rw[length_take,length_take,h.1],λi a x h1 h2=>?_⟩
 rw[List.getElem?_take] at h1 h2
 split at h1
 ·rename_i hc;rw[if_pos hc] at h2;exact h.2 _ _ _ h1 h2
 ·cases h1
theorem Lay.drop {G:Ghost} {l:List AV} {cs:List Value} (h:Lay G l cs) (n:Nat):Lay G (l.drop n) (cs.drop n):=
 ⟨by rw[length_drop,length_drop,h.1],λi a x h1 h2=>by rw[List.getElem?_drop] at h1 h2;exact h.2 _ _ _ h1 h2⟩
theorem Lay.mono {G G':Ghost} {l:List AV} {cs:List Value} (h:Lay G l cs) (hg:G.le G'):Lay G' l cs:=⟨h.1,λi a x h1 h2=>(h.2 i a x h1 h2).mono hg⟩
theorem v6 {l:List AV} {kk:Nat} (h:∀a∈l,a.cells.length=kk):(eB l).length=l.length*kk:=by
 induction l with
 | nil=>simp[eB]
 | cons a l ih=>
  show(a.cells++eB l).length=_
  rw[length_append,h a zSm,ih (λb hb=>h b (by simp[hb])),List.length_cons,add_mul]
  omega
theorem z7 {l:List AV} {kk:Nat} (h:∀a∈l,a.cells.length=kk):∀i j (hi:i<l.length),j<kk->(eB l)[i*kk+j]? = l[i].cells[j]?:=by
 induction l with
 | nil=>intro i j hi;simp at hi
 | cons a l ih=>
  intro i j hi hj
  have ha:=h a zSm
  show(a.cells++eB l)[i*kk+j]? = _
  cases i with
  | zero=>rw[zero_mul,zero_add,List.getElem?_append_left om];rfl
  | succ i=>
   rw[List.getElem?_append_right (by rw[add_mul];omega),ha,show(i+1)*kk+j-kk=i*kk+j by rw[add_mul];omega]
   exact ih (λb hb=>h b (by simp[hb])) i j (by simpa using hi) hj
theorem CY {l:List AV} {kk:Nat} (h:∀a∈l,a.cells.length=kk):∀n,(eB l).take (n*kk)=eB (l.take n):=by
 induction l with
 | nil=>intro n;simp[eB]
 | cons a l ih=>
  intro n
  cases n with
  | zero=>simp[eB]
  | succ n=>
   have ha:=h a zSm
   show(a.cells++eB l).take _=a.cells++eB (l.take n)
   rw[List.take_append,ha,List.take_of_length_le (by rw[ha,add_mul];omega),show(n+1)*kk-kk=n*kk by rw[add_mul];omega,ih (λb hb=>h b (by simp[hb]))]
theorem CZ {l:List AV} {kk:Nat} (h:∀a∈l,a.cells.length=kk):∀n,(eB l).drop (n*kk)=eB (l.drop n):=by
 induction l with
 | nil=>intro n;simp[eB]
 | cons a l ih=>
  intro n
  cases n with
  | zero=>simp[eB]
  | succ n=>
   have ha:=h a zSm
   show(a.cells++eB l).drop _=eB (l.drop n)
   rw[List.drop_append,ha,List.drop_of_length_le (by rw[ha,add_mul];omega),show(n+1)*kk-kk=n*kk by rw[add_mul];omega,ih (λb hb=>h b (by simp[hb]))]
   rfl
theorem x_ {G:Ghost} {w:World} {L:Loc} {kk:Nat} {es:List AV} (h:iR G w L (.arr kk es)) (hc:0<L.cap):∃(row:Array Value) (cs:List Value),w.heap[L.block]? = some (.cells row L.t (0,0))/\row.size=L.cap*kk/\Lay G (eB es) cs/\∀(j:Nat) (x:Value),cs[j]? = some x->row[j]? = some x:=by
 obtain⟨h1,h2,h3,h4,h5,h6⟩:=h
 obtain⟨row,a,b,c⟩:=h6 hc
 have hk:∀a∈es,a.cells.length=kk:=λa ha=>by obtain⟨i,hi,rfl⟩:=List.getElem_of_mem ha;exact h5 i hi
 have hl:es.length*kk<=row.size:=by rw[b];exact mul_le_mul_right _ h3
 refine⟨row,row.toList.take (es.length*kk),a,b,⟨by rw[v6 hk,length_take];exact(Nat.min_eq_left hl).symm,λi a x e1 e2=>?_⟩,λj x e=>?_⟩
 ·have hi:i<es.length*kk:=by have:=(List.getElem?_eq_some_iff.1 e1).1;rwa[v6 hk] at this
  have hq:i / kk<es.length:=Nat.div_lt_of_lt_mul (by rw[Nat.mul_comm];exact hi)
  have hr:=Nat.mod_lt i h1
  have he:i / kk*kk+i % kk=i:=by rw[Nat.mul_comm];exact Nat.div_add_mod i kk
  have e3:=z7 hk (i / kk) (i % kk) hq hr
  rw[he,e1] at e3
  have hr':i % kk<es[i / kk].cells.length:=by rw[h5];exact hr
  obtain⟨y,y1,y2⟩:=c _ hq _ hr'
  rw[he] at y1
  rw[List.getElem?_take,if_pos hi,Array.getElem?_toList,y1] at e2
  rw[List.getElem?_eq_getElem hr'] at e3
  cases e2;cases e3
  exact y2
 ·rw[List.getElem?_take] at e
  split at e
  ·rwa[Array.getElem?_toList] at e
  ·cases e
theorem D2 {G:Ghost} {w:World} {L:Loc} {kk:Nat} {es:List AV} {row:Array Value} {cs:List Value} (h0:0<kk) (hk:∀a∈es,a.cells.length=kk) (eW:w.heap[L.block]? = some (.cells row L.t (0,0))) (hLk:L.k=kk) (hs:row.size=L.cap*kk) (hl:es.length<=L.cap) (hm:L.cap<=maxLen)
  (hy:Lay G (eB es) cs) (h:∀(j:Nat) (x:Value),cs[j]? = some x->row[j]? = some x):iR G w L (.arr kk es):=by
 refine⟨h0,hLk,hl,hm,λi hi=>hk _ (List.getElem_mem hi),λ_=>⟨row,eW,hs,λi hi j hj=>?_⟩⟩
 have hj':j<kk:=by rw[hk _ (List.getElem_mem hi)] at hj;exact hj
 have e:=z7 hk i j hi hj'
 rw[List.getElem?_eq_getElem hj] at e
 have hlt:i*kk+j<cs.length:=by rw[<-hy.1];exact(List.getElem?_eq_some_iff.1 e).1
 exact⟨cs[i*kk+j],h _ _ (List.getElem?_eq_getElem hlt),hy.2 _ _ _ e (List.getElem?_eq_getElem hlt)⟩
theorem Lay.one {G:Ghost} {es:List AV} {cs:List Value} (h:Lay G (eB es) cs) (ho:∀a∈es,ff a.cells=true):∀v∈cs,v.oneCell'=true:=λv hv=>by
 obtain⟨i,hi,rfl⟩:=List.getElem_of_mem hv
 have hi':i<(eB es).length:=by rw[h.1];exact hi
 refine(h.2 i _ _ (List.getElem?_eq_getElem hi') (List.getElem?_eq_getElem hi)).oneCell ?_
 obtain⟨a,ha,hm⟩:=List.mem_flatMap.1 (List.getElem_mem hi')
 exact List.all_eq_true.1 (ho a ha) _ hm
def splice (row:Array Value) (o:Nat) (vs:List Value):Array Value:=(row.toList.take o++vs++row.toList.drop (o+vs.length)).toArray
theorem gR {row:Array Value} {o:Nat} {vs:List Value} (h:o+vs.length<=row.size):(splice row o vs).size=row.size:=by
 simp only[splice,size_toArray,length_append,length_take,length_drop,Array.length_toList]
 omega
theorem fM {row:Array Value} {o:Nat} {vs:List Value} (h:o+vs.length<=row.size) (p:Nat):(splice row o vs)[p]? = if o<=p/\p<o+vs.length then vs[p-o]? else row[p]?:=by
 have hlt:(row.toList.take o).length=o:=by simp;omega
 simp only[splice,List.getElem?_toArray]
 split
 ·rename_i hc
  rw[append_assoc,List.getElem?_append_right om,hlt,List.getElem?_append_left om]
 ·rename_i hc
  by_cases hlt':p<o
  ·rw[append_assoc,List.getElem?_append_left om,List.getElem?_take,if_pos hlt']
   simp
  ·rw[append_assoc,List.getElem?_append_right om,hlt,List.getElem?_append_right om,List.getElem?_drop]
   rw[show o+vs.length+(p-o-vs.length)=p from by omega]
   simp
section
variable {P:Program} {w:World}
theorem iL {b j:Nat} {row:Array Value} {t:TypeId} (h:w.heap[b]? = some (.cells row t (0,0))):w.cell? ⟨b,j,none⟩=row[j]?:=cell_of_row w b j row t _ h
theorem lW {b j:Nat} {row:Array Value} {t:TypeId} (h:w.heap[b]? = some (.cells row t (0,0))):w.frozen? ⟨b,j,none⟩=false:=by simp[World.frozen?,h]
theorem xo {b:Nat} {row:Array Value} {t:TypeId} (h:w.heap[b]? = some (.cells row t (0,0))):w.shape? b=some (t,row.size):=by simp[World.shape?,h]
theorem jr (P:Program) {b o:Nat} {row:Array Value} {t:TypeId} {vs:List Value} (h:w.heap[b]? = some (.cells row t (0,0))) (hf:o+vs.length<=row.size) (h1:∀v∈vs,v.oneCell'=true):w.setCells b o vs=w.setRow b (splice row o vs):=by
 have a:=run_storeCells_at P b o t vs 0 row w h om h1
 have c:=run_storeCells_cells (P:=P) b o vs 0 w (λj hj=>by rw[iL h,Array.getElem?_eq_getElem om];rfl) (λj hj=>lW h) h1
 rw[a] at c
 simp only[Nat.add_zero] at c
 injection c with _ c
 exact c.symm
theorem n7 {b:Nat} {row row':Array Value} {t:TypeId} (h:w.heap[b]? = some (.cells row t (0,0))):(w.setRow b row').heap[b]? = some (.cells row' t (0,0)):=setRow_heap w b row row' t (0,0) h
theorem CV {b:Nat} {row':Array Value}:w.grownBy (w.setRow b row') (some b):=⟨rfl,rfl,rfl,by simp,λc _ hb=>setRow_other w b c _ (λe=>hb (by rw[e]))⟩
end
theorem Ek {P:Program} {ρ:Ren} {e:TypeId} {kk by':Nat} {zv:Value} {nm no:String} (L:InsL P ρ e kk by' zv nm no) (hcall:nN P (ρ.f 22)=true) {α:Type} {enc:α->AV} (hkk:∀x,(enc x).cells.length=kk) (hone:∀x,ff (enc x).cells=true) {s v:List α} {i:Int} {q0 k0 g0 q1 k1 g1:Nat} {S:St} {R:AV->St->Prop}
  (hS0:S q0 k0=some (.arr kk (s.map enc),g0)) (hS1:S q1 k1=some (.arr kk (v.map enc),g1)) (hne:¬(q0=q1/\k0=k1)) (hi:0<=i/\i<=s.length) (hv:0<v.length) (hb:(s.length+v.length)*by'<=140737488355328) (hb0:ble 1 by'=true)
  (hQ:∀g',R (.sl kk q0 k0 g' 0 (fr s i v).length) (S.set q0 k0 (.arr kk ((fr s i v).map enc)) g')) :
  Ctr P (ρ.f 22) [.sl kk q0 k0 g0 0 s.length,.int .i64 i,.sl kk q1 k1 g1 0 v.length] S R:=by
 refine⟨hcall,λG w vs hr hvs=>?_⟩
 obtain⟨hsz,hvr⟩:=hvs
 have e0:=hvr 0 zSm (by rw[hsz];simp)
 have e1:=hvr 1 zSm (by rw[hsz];simp)
 have e2:=hvr 2 zSm (by rw[hsz];simp)
 obtain⟨v0,v1,v2,rfl⟩:∃a b c,vs = #[a,b,c]:=by
  rcases vs with⟨l⟩
  match l,hsz with
  | [a,b,c],_=>exact⟨a,b,c,rfl⟩
 simp only[List.getElem_cons_zero,List.getElem_cons_succ,List.getElem_toArray] at e0 e1 e2
 obtain⟨L0,hL0,ob0,_⟩:=hr.obj _ _ _ _ hS0
 obtain⟨L1,hL1,ob1,_⟩:=hr.obj _ _ _ _ hS1
 cases e1
 cases e0 with
 | sl _ _ _ _ _ _ a0 L0' p1 p2 p3 p4 p5=>
 obtain rfl:L0'=L0:=by rw[hL0] at p1;exact(Option.some.inj p1).symm
 cases e2 with
 | sl _ _ _ _ _ _ a1 L1' r1 r2 r3 r4 r5=>
 obtain rfl:L1'=L1:=by rw[hL1] at r1;exact(Option.some.inj r1).symm
 obtain⟨i,rfl⟩:∃n:Nat,i=n:=⟨i.toNat,om⟩
 have hin:i<=s.length:=om
 have hc1:0<L1'.cap:=om
 have k0':=L.k0
 have hkm:∀(l:List α),∀a∈l.map enc,a.cells.length=kk:=λl a ha=>by obtain⟨x,_,rfl⟩:=List.mem_map.1 ha;exact hkk x
 have hom:∀(l:List α),∀a∈l.map enc,ff a.cells=true:=λl a ha=>by obtain⟨x,_,rfl⟩:=List.mem_map.1 ha;exact hone x
 have hfl:∀l:List α,(eB (l.map enc)).length=l.length*kk:=λl=>by rw[v6 (hkm l),List.length_map]
 obtain⟨row1,vs,w1,z1,y1,c1⟩:=x_ ob1 hc1
 have ha1:=r5 hc1
 rw[zero_mul] at ha1
 subst ha1
 have hvl:vs.length=v.length*kk:=by rw[<-y1.1,hfl]
 have hov:=y1.one (hom v)
 have hins:fr s (i:Int) v=s.take i++v++s.drop i:=by simp[fr]
 have hil:(fr s (i:Int) v).length=s.length+v.length:=by rw[hins];simp;omega
 have hcat:∀a b:List AV,eB (a++b)=eB a++eB b:=λa b=>List.flatMap_append
 have hiv:eB ((fr s (i:Int) v).map enc)=(eB (s.map enc)).take (i*kk)++eB (v.map enc)++(eB (s.map enc)).drop (i*kk):=by
  rw[hins,CY (hkm s),CZ (hkm s),List.map_append,List.map_append,hcat,hcat,List.map_take,List.map_drop]
 simp only[Nat.sub_zero]
 have hb1:=Nat.le_of_ble_eq_true hb0
 have hm':s.length+v.length<=140737488355328:=Nat.le_trans (Nat.le_mul_of_pos_right _ hb1) hb
 have hm:s.length+v.length<=maxLen:=by simp only[maxLen];omega
 have him:(i+v.length)*kk=i*kk+v.length*kk:=add_mul _ _ _
 have hnm:(s.length+v.length)*kk=s.length*kk+v.length*kk:=add_mul _ _ _
 have hik:i*kk<=s.length*kk:=mul_le_mul_right kk hin
 have fresh:∀(w':World) (row:Array Value) (c:Nat) (cs:List Value),c<=maxLen->s.length+v.length<=c->w.grownBy w' none->w'.heap[w.heap.size]? = some (.cells row e (0,0))->row.size=c*kk->Lay G (eB ((fr s i v).map enc)) cs->
   (∀(j:Nat) (x:Value),cs[j]? = some x->row[j]? = some x)->
   ∃v' av S' G',Ending.returned (.slice (some ⟨w.heap.size,0,none⟩) (s.length+v.length) c) = .returned v'/\R av S'/\G.le G'/\Rel G' S' w'/\VR G' av v':=by
  intro w' row c cs hcm hcl hg eW hrs hy hj
  obtain⟨g,hgf⟩:=hr.fresh q0 k0
  obtain⟨G',q1',q2',_,q4'⟩:=hr.put hg q0 k0 g (.arr kk ((fr s i v).map enc)) ⟨w.heap.size,c,kk,e⟩ (λb hb=>by cases hb) (λ_=>.inl (le_refl _)) (.inl hgf)
   (λG' hle=>D2 (L:=⟨w.heap.size,c,kk,e⟩) k0' (hkm _) eW rfl hrs (by rw[List.length_map,hil];exact hcl) hcm (hy.mono hle) hj)
  refine⟨_,_,_,G',rfl,hQ g,q1',q4',?_⟩
  have:=VR.sl (G:=G') kk q0 k0 g 0 (s.length+v.length) (some ⟨w.heap.size,0,none⟩) _ q2' rfl (by simpa using hcl) hcm (λ_=>by simp)
  rw[hil]
  simpa using this
 have place:∀(w':World) (row row':Array Value) (cs:List Value),0<L0'.cap->s.length+v.length<=L0'.cap->w.heap[L0'.block]? = some (.cells row L0'.t (0,0))->w.grownBy w' (some L0'.block)->w'.heap[L0'.block]? = some (.cells row' L0'.t (0,0))->row'.size=L0'.cap*kk->Lay G (eB ((fr s i v).map enc)) cs->
   (∀(j:Nat) (x:Value),cs[j]? = some x->row'[j]? = some x)->
   ∃v' av S' G',Ending.returned (.slice (some ⟨L0'.block,0,none⟩) (s.length+v.length) L0'.cap) = .returned v'/\R av S'/\G.le G'/\Rel G' S' w'/\VR G' av v':=by
  intro w' row row' cs hc0 hcl hrow0 hg eW hrs hy hj
  obtain⟨G',q1',q2',_,q4'⟩:=hr.put hg q0 k0 g0 (.arr kk ((fr s i v).map enc)) L0' (λb hb=>by injection hb with hb;subst hb;exact⟨_,_,_,hS0,hL0,hc0,rfl⟩) (λhc=>.inr ⟨_,_,_,hS0,hL0,hc,rfl⟩) (.inr hL0)
   (λG' hle=>D2 k0' (hkm _) eW p2 hrs (by rw[List.length_map,hil];exact hcl) p4 (hy.mono hle) hj)
  refine⟨_,_,_,G',rfl,hQ g0,q1',q4',?_⟩
  have:=VR.sl (G:=G') kk q0 k0 g0 0 (s.length+v.length) (some ⟨L0'.block,0,none⟩) _ q2' p2 (by simpa using hcl) p4 (λ_=>by simp)
  rw[hil]
  simpa using this
 by_cases hend:i=s.length
 ·subst hend
  by_cases hroom:s.length+v.length<=L0'.cap
  ·have hc0:0<L0'.cap:=om
   obtain⟨row0,cs,w0,z0,y0,c0⟩:=x_ ob0 hc0
   have ha0:=p5 hc0
   rw[zero_mul] at ha0
   subst ha0
   have hcl:cs.length=s.length*kk:=by rw[<-y0.1,hfl]
   have hrk:(s.length+v.length)*kk<=L0'.cap*kk:=mul_le_mul_right _ hroom
   have hf:s.length*kk+vs.length<=row0.size:=om
   refine(w_ L L0'.block 0 s.length L0'.cap L1'.block 0 v.length L1'.cap vs w hv hroom (by have:=p4;simp only[maxLen] at this;omega) hvl
    (λj hj=>by rw[iL w0,Array.getElem?_eq_getElem om];rfl) (λj=>lW w0) (λj x hx=>by rw[iL w1];rw[zero_add];exact c1 j x hx) hov).mono ?_
   rintro e w' ⟨rfl,rfl⟩
   rw[zero_add,jr P w0 hf hov]
   refine place _ row0 (splice row0 (s.length*kk) vs) (cs++vs) hc0 hroom w0 CV (n7 w0) (by rw[gR hf,z0]) ?_ (λj x hx=>?_)
   ·rw[hiv,List.take_of_length_le (by rw[hfl];exact le_refl _),List.drop_of_length_le (by rw[hfl];exact le_refl _),List.append_nil]
    exact y0.app y1
   ·rw[fM hf]
    rw[List.getElem?_append,hcl] at hx
    split at hx
    ·rw[if_neg om];exact c0 j x hx
    ·have:=(List.getElem?_eq_some_iff.1 hx).1
     rw[if_pos om];exact hx
  ·obtain⟨cs,y0,hcs⟩:∃cs:List Value,Lay G (eB (s.map enc)) cs/\∀a,a0=some a->∀(j:Nat) (x:Value),cs[j]? = some x->w.cell? (a.add j)=some x:=by
    by_cases hc0:0<L0'.cap
    ·obtain⟨row0,cs,w0,z0,y0,c0⟩:=x_ ob0 hc0
     refine⟨cs,y0,λa ha j x hx=>?_⟩
     have h5:=p5 hc0
     rw[ha,zero_mul] at h5
     injection h5 with h5
     subst h5
     rw[gA,zero_add,iL w0]
     exact c0 j x hx
    ·obtain rfl:s=[]:=List.eq_nil_of_length_eq_zero om
     exact⟨[],⟨rfl,λi a x h=>by simp[eB] at h⟩,λa _ j x h=>by simp at h⟩
   have hcl:cs.length=s.length*kk:=by rw[<-y0.1,hfl]
   refine(xa L a0 s.length L0'.cap L1'.block 0 v.length L1'.cap cs vs w hv om om hb hm' hcl hvl (λhn=>by
     by_cases hc0:0<L0'.cap
     ·rw[p5 hc0] at hn;cases hn
     ·omega) hcs (λj x hx=>by rw[iL w1];rw[zero_add];exact c1 j x hx) hov).mono ?_
   rintro e' w' ⟨rfl,rfl⟩
   refine fresh _ _ _ (cs++vs) (grownCap_le_maxLen _ _ _ _ hm) (grownCap_ge _ _ _ _) (rP w _) (heap_alloc_new w.drew _) ?_ ?_ (λj x hx=>?_)
   ·have h1:=grownCap_ge w (s.length+v.length) L0'.cap e
    have h2:=sub_mul (grownCap w (s.length+v.length) L0'.cap e) (s.length+v.length) kk
    have h3:(s.length+v.length)*kk<=grownCap w (s.length+v.length) L0'.cap e*kk:=mul_le_mul_right _ h1
    simp only[Array.size_append,size_toArray,length_append,hcl,hvl,size_zeroCells,L.zc]
    omega
   ·rw[hiv,List.take_of_length_le (by rw[hfl];exact le_refl _),List.drop_of_length_le (by rw[hfl];exact le_refl _),List.append_nil]
    exact y0.app y1
   ·have hjl:=(List.getElem?_eq_some_iff.1 hx).1
    rw[Array.getElem?_append_left (by simpa using hjl)]
    simpa using hx
 ·have hlt:i<s.length:=om
  have hc0:0<L0'.cap:=om
  obtain⟨row0,cs,w0,z0,y0,c0⟩:=x_ ob0 hc0
  have ha0:=p5 hc0
  rw[zero_mul] at ha0
  subst ha0
  have hcl:cs.length=s.length*kk:=by rw[<-y0.1,hfl]
  have hoc:=y0.one (hom s)
  have hvb:L1'.block≠L0'.block:=hr.inj _ _ _ _ _ _ _ _ _ _ hS1 hS0 hL1 hL0 hc1 hc0 (λhc=>hne ⟨hc.1.symm,hc.2.symm⟩)
  have hdl:(cs.drop (i*kk)).length=s.length*kk-i*kk:=by rw[length_drop,hcl]
  have hod:∀x∈cs.drop (i*kk),x.oneCell'=true:=λx hx=>hoc x (List.mem_of_mem_drop hx)
  have hy:Lay G (eB ((fr s i v).map enc)) (cs.take (i*kk)++vs++cs.drop (i*kk)):=by rw[hiv];exact((y0.take _).app y1).app (y0.drop _)
  have content:∀row:Array Value,(∀j:Nat,i*kk<=j->j<i*kk+v.length*kk->row[j]? = vs[j-i*kk]?)->(∀j:Nat,i*kk+v.length*kk<=j->j<s.length*kk+v.length*kk->row[j]? = cs[j-v.length*kk]?)->(∀j:Nat,j<i*kk->row[j]? = cs[j]?)->
    ∀(j:Nat) (x:Value),(cs.take (i*kk)++vs++cs.drop (i*kk))[j]? = some x->row[j]? = some x:=λrow h1 h2 h3 j x hx=>by
   have hjl:=(List.getElem?_eq_some_iff.1 hx).1
   simp only[length_append,length_take,hcl,hvl,hdl,Nat.min_eq_left hik] at hjl
   rw[append_assoc,List.getElem?_append,length_take,hcl,Nat.min_eq_left hik] at hx
   split at hx
   ·rw[h3 j om];rw[List.getElem?_take,if_pos om] at hx;exact hx
   ·rw[List.getElem?_append,hvl] at hx
    split at hx
    ·rw[h1 j om om];exact hx
    ·rw[h2 j om om]
     rw[List.getElem?_drop] at hx
     rw[<-hx];congr 1;omega
  by_cases hroom:s.length+v.length<=L0'.cap
  ·have hrk:(s.length+v.length)*kk<=L0'.cap*kk:=mul_le_mul_right _ hroom
   have hkB:row0.size≠0:=by have:=Nat.mul_pos hc0 k0';omega
   refine(AX L L0'.block 0 s.length L0'.cap i L1'.block 0 v.length L1'.cap cs vs w hlt hv hroom (by have:=p4;simp only[maxLen] at this;omega) hvb hcl hvl
    (λj x hx=>by rw[iL w0];rw[zero_add];exact c0 j x hx) (λj hj=>by rw[iL w0,Array.getElem?_eq_getElem om];rfl) (λj=>lW w0)
    (λj x hx=>by rw[iL w1];rw[zero_add];exact c1 j x hx) hoc hov L1'.t L0'.t row1.size row0.size (xo w1) (xo w0) hkB (lW w1) (lW w1)).mono ?_
   rintro e' w' ⟨rfl,rfl⟩
   have w0d:w.drew.heap[L0'.block]? = some (.cells row0 L0'.t (0,0)):=w0
   have hf1:(i+v.length)*kk+(cs.drop (i*kk)).length<=row0.size:=om
   have hf2:i*kk+vs.length<=(splice row0 ((i+v.length)*kk) (cs.drop (i*kk))).size:=by rw[gR hf1];omega
   rw[zero_add,zero_add,jr P w0d hf1 hod,jr P (n7 w0d) hf2 hov]
   refine place _ row0 _ _ hc0 hroom w0 ?_ (n7 (n7 w0d)) (by rw[gR hf2,gR hf1,z0]) hy (content _ (λj h1 h2=>?_) (λj h1 h2=>?_) (λj h1=>?_))
   ·exact⟨rfl,rfl,rfl,by simp,λc _ hb=>by rw[setRow_other _ _ _ _ (λe=>hb (by rw[e])),setRow_other _ _ _ _ (λe=>hb (by rw[e]))];rfl⟩
   ·rw[fM hf2,if_pos om]
   ·rw[fM hf2,if_neg om,fM hf1,if_pos om,List.getElem?_drop]
    congr 1;omega
   ·rw[fM hf2,if_neg om,fM hf1,if_neg om]
    rw[List.getElem?_eq_getElem (by omega:j<cs.length)]
    exact c0 j _ (List.getElem?_eq_getElem _)
  ·refine(CS L L0'.block 0 s.length L0'.cap i L1'.block 0 v.length L1'.cap cs vs w hlt hv om om hb hm' hcl hvl
    (λj x hx=>by rw[iL w0];rw[zero_add];exact c0 j x hx) (λj x hx=>by rw[iL w1];rw[zero_add];exact c1 j x hx) hoc hov).mono ?_
   rintro e' w' ⟨rfl,rfl⟩
   have hge:=grownCap_ge w (s.length+v.length) L0'.cap e
   generalize hcap:grownCap w (s.length+v.length) L0'.cap e=cap at hge ⊢
   have hcm:cap<=maxLen:=hcap▸grownCap_le_maxLen _ _ _ _ hm
   have h2:=sub_mul cap (s.length+v.length) kk
   have h3:(s.length+v.length)*kk<=cap*kk:=mul_le_mul_right _ hge
   have h4:=sub_mul (s.length+v.length) i kk
   generalize hROW:((cs.take (i*kk)).toArray++Builtin.zeroCells zv.cells (s.length+v.length-i)++Builtin.zeroCells zv.cells (cap-(s.length+v.length)))=row
   have hrs:row.size=cap*kk:=by
    rw[<-hROW]
    simp only[Array.size_append,size_toArray,length_take,hcl,size_zeroCells,L.zc]
    omega
   have wN:((w.alloc (.cells row e)).drew).heap[w.heap.size]? = some (.cells row e (0,0)):=heap_alloc_new w _
   have hf1:i*kk+vs.length<=row.size:=om
   have hf2:(i+v.length)*kk+(cs.drop (i*kk)).length<=(splice row (i*kk) vs).size:=by rw[gR hf1];omega
   rw[jr P wN hf1 hov,jr P (show(((w.alloc (.cells row e)).drew.setRow w.heap.size (splice row (i*kk) vs)).drew).heap[w.heap.size]? = some (.cells (splice row (i*kk) vs) e (0,0)) from n7 wN) hf2 hod]
   refine fresh _ _ cap _ hcm hge ?_ (n7 (n7 wN)) (by rw[gR hf2,gR hf1,hrs]) hy (content _ (λj h1 h2=>?_) (λj h1 h2=>?_) (λj h1=>?_))
   ·refine⟨rfl,rfl,rfl,by simp,λc hc hb=>?_⟩
    have hne':c≠w.heap.size:=om
    rw[setRow_other _ _ _ _ hne']
    show((w.alloc (.cells row e)).drew.setRow w.heap.size (splice row (i*kk) vs)).heap[c]? = _
    rw[setRow_other _ _ _ _ hne']
    exact Below.heap_alloc w _ c hc
   ·rw[fM hf2,if_neg om,fM hf1,if_pos om]
   ·rw[fM hf2,if_pos om,List.getElem?_drop]
    congr 1;omega
   ·rw[fM hf2,if_neg om,fM hf1,if_neg om,<-hROW,Array.append_assoc,Array.getElem?_append_left (by simp;omega)]
    simp[h1]
end Go.Gg
namespace Go.Gg
open Go.Shelf
theorem Rel.ren {G:Ghost} {S:St} {w:World} {r k g:Nat} {o:GObj} (h:Rel G S w) (hS:S r k=some (o,g)) (r2 k2:Nat) :
  ∃g' G',G.le G'/\AL G' ((r,k,g),(r2,k2,g'))/\Rel G' ((S.del r k).set r2 k2 o g') w:=by
 obtain⟨L,hL,hobj,hown⟩:=h.obj r k o g hS
 obtain⟨g',hg'⟩:=h.fresh r2 k2
 let G':Ghost:={ G with loc:=λa b c=>if a=r2/\b=k2/\c=g' then some L else G.loc a b c }
 have hle:G.le G':=by
  refine⟨⟨rfl,λ_ h=>h,rfl⟩,λ_ _ _ e=>e,λa b c L2 e=>?_⟩
  show(if a=r2/\b=k2/\c=g' then some L else G.loc a b c)=some L2
  split
  ·rename_i hc;obtain⟨rfl,rfl,rfl⟩:=hc;rw[hg'] at e;cases e
  ·exact e
 have hloc:G'.loc r2 k2 g'=some L:=by
  show(if r2=r2/\k2=k2/\g'=g' then some L else _)=_
  rw[if_pos ⟨rfl,rfl,rfl⟩]
 have src:∀ {a b o2 c L2},((S.del r k).set r2 k2 o g') a b=some (o2,c)->G'.loc a b c=some L2->(a=r2/\b=k2/\L2=L)\/(¬(a=r/\b=k)/\S a b=some (o2,c)/\G.loc a b c=some L2):=by
  intro a b o2 c L2 e l2
  simp only[St.set,St.del] at e
  split at e
  ·rename_i hc;obtain⟨rfl,rfl⟩:=hc;cases e;rw[hloc] at l2;exact .inl ⟨rfl,rfl,(Option.some.inj l2).symm⟩
  ·split at e
   ·cases e
   ·rename_i hc2
    obtain⟨L3,q1,_⟩:=h.obj _ _ _ _ e
    have:=hle.loc _ _ _ _ q1
    rw[this] at l2;cases l2
    exact .inr ⟨hc2,e,q1⟩
 refine⟨g',G',hle,⟨L,hle.loc _ _ _ _ hL,hloc⟩,h.below,h.imm,λa b o2 c e=>?_,λr1 k1 o1 g1 r3 k3 o3 g3 L1 L3 e1 e3 l1 l3 c1 c3 hne=>?_,?_,λa b=>?_⟩
 ·simp only[St.set,St.del] at e
  split at e
  ·rename_i hc;obtain⟨rfl,rfl⟩:=hc;cases e
   exact⟨L,hloc,hobj.keep hle (λ_=>rfl),hown⟩
  ·split at e
   ·cases e
   ·obtain⟨L2,q1,q2,q3⟩:=h.obj _ _ _ _ e
    exact⟨L2,hle.loc _ _ _ _ q1,q2.keep hle (λ_=>rfl),q3⟩
 ·rcases src e1 l1 with⟨rfl,rfl,rfl⟩ | ⟨n1,f1,m1⟩
  ·rcases src e3 l3 with⟨rfl,rfl,rfl⟩ | ⟨n3,f3,m3⟩
   ·exact absurd ⟨rfl,rfl⟩ hne
   ·exact h.inj _ _ _ _ _ _ _ _ _ _ hS f3 hL m3 c1 c3 (λhc=>n3 ⟨hc.1.symm,hc.2.symm⟩)
  ·rcases src e3 l3 with⟨rfl,rfl,rfl⟩ | ⟨n3,f3,m3⟩
   ·exact h.inj _ _ _ _ _ _ _ _ _ _ f1 hS m1 hL c1 c3 n1
   ·exact h.inj _ _ _ _ _ _ _ _ _ _ f1 f3 m1 m3 c1 c3 hne
 ·obtain⟨N,hN⟩:=h.fin
  refine⟨max N (r2+1),λa ha b=>?_⟩
  simp only[St.set,St.del]
  rw[if_neg (λhc=>om)]
  split
  ·rfl
  ·exact hN a om b
 ·obtain⟨N,hN⟩:=h.fing a b
  refine⟨max N (g'+1),λc hc=>?_⟩
  show(if a=r2/\b=k2/\c=g' then some L else G.loc a b c)=none
  rw[if_neg (λh=>om)]
  exact hN c om
theorem C3 {α:Type} {rf kk g:Nat} {gs:Nat->Nat} {T:List (List α)} {l:List α}:fC rf kk gs T++[.sl kk rf T.length g 0 l.length]=fC rf kk (kz gs T.length g) (T++[l]):=by
 simp only[fC,length_append,List.length_singleton,List.range_succ,List.map_append,List.map_cons,List.map_nil]
 congr 1
 ·refine List.map_congr_left λi hi=>?_
  have:=List.mem_range.1 hi
  simp only[kz,if_neg (by omega:¬i=T.length),List.getD_eq_getElem?_getD,List.getElem?_append_left this]
 ·simp[kz,List.getD_eq_getElem?_getD]
def EZ (A:ALs) (t:Env):List (Nat×AV)->Prop
 | []=>True
 | (k,v) :: l=>RN A (t k) v/\EZ A t l
theorem EZ.vr {A:ALs} {t:Env} {G:Ghost} (hA:∀a∈A,AL G a):∀ {l:List (Nat×AV)},EZ A t l->∀i x,VR G (t i) x->VR G (a_ l i) x
 | [],_,i,x,_=>.junk _
 | (k,v) :: l,h,i,x,hv=>by
  simp only[a_]
  by_cases hi:i=k
  ·subst hi
   rw[show Nat.beq i i=true by simp]
   exact h.1 G x hA hv
  ·rw[mL hi]
   exact EZ.vr hA h.2 i x hv
section
variable {α:Type} {P:Program} {n:Nat} {ops c:List Oper} {Kt:Env->St->Prop} {t:Env} {S0:St} {rg rf kk:Nat} {enc:α->AV} {gs:Nat->Nat} {T:List (List α)} {L:de} {g:Nat} {l:List α}
theorem Wl.famMv (R:Nat) (hne:rf≠rg) (hS:lkp L R=some (.arr kk (l.map enc),g)) (es:Nat->List (Nat×AV)) (m:de) (hm:dlt L R=m) (hf:∀g',EZ [((rg,R,g),(rf,T.length,g'))] t (es g'))
  (h:∀g',Wl P n ops c Kt (a_ (es g')) (stL (dz S0 rf kk enc (kz gs T.length g') (T++[l])) rg m)):Wl P n ops c Kt t (stL (dz S0 rf kk enc gs T) rg L):=by
 intro hok ro G a w Q hr ht hQ
 obtain⟨g',G',h1,h2,h3⟩:=hr.ren (r:=rg) (k:=R) (by rw[fY];exact hS) rf T.length
 have hS':(stL (dz S0 rf kk enc (kz gs T.length g') (T++[l])) rg m).sub (((stL (dz S0 rf kk enc gs T) rg L).del rg R).set rf T.length (.arr kk (l.map enc)) g'):=λr k x e=>by
  subst hm
  rw[xY]
  simp only[St.set,stL,dz] at e ⊢
  by_cases h1:r=rg
  ·subst h1
   rw[if_pos rfl] at e
   rw[if_neg (λhc=>hne hc.1.symm),if_pos rfl];exact e
  ·rw[if_neg h1] at e
   by_cases h2:r=rf
   ·subst h2
    rw[if_pos rfl] at e
    by_cases h3:k=T.length
    ·subst h3
     rw[if_pos ⟨rfl,rfl⟩,<-e]
     simp[kz,List.getD_eq_getElem?_getD]
    ·rw[if_neg (λhc=>h3 hc.2),if_neg h1,if_pos rfl,<-e]
     simp only[kz,if_neg h3,List.getD_eq_getElem?_getD,List.getElem?_append]
     split
     ·rfl
     ·rename_i h4
      rw[List.getElem?_eq_none om,List.getElem?_eq_none (by simp;omega)]
   ·rw[if_neg h2] at e
    rw[if_neg (λhc=>h2 hc.1),if_neg h1,if_neg h2];exact e
 exact h g' hok ro G' _ w Q (h3.sub hS') ⟨(ht.mono h1).1,(ht.mono h1).2.1,λi=>(hf g').vr (λa ha=>by rw[List.mem_singleton.1 ha];exact h2) i _ ((ht.mono h1).2.2 i)⟩ (λa w hl=>hQ a w (Gg.lift_mono hl h1))
end
theorem Vc.famNw {α:Type} {P:Program} {n:Nat} {c:Code} {Q:AK} {t:Env} {S0:St} {rg:Nat} {L:de} (kk:Nat) (enc:α->AV) (q:Nat) (hk:0<kk) (h:∀rf gs,rf≠rg->rf≠q->(∀k,S0 rf k=none)->Vc P n c Q t (stL (dz S0 rf kk enc gs []) rg L)):Vc P n c Q t (stL S0 rg L):=by
 intro ro hok G a w hr ht
 obtain⟨rf,gs,G',h1,h1',h2,h3,h4⟩:=hr.famMake0 q enc hk
 exact wpIn_mono (h rf gs h1 h1' h2 ro hok G' a w h4 (ht.mono h3)) (λ_ _ _ he=>AK.lift_mono h3 he)
section
variable {α:Type} {P:Program} {t:Env} {S0:St} {rg rf kk:Nat} {enc:α->AV} {gs:Nat->Nat} {T:List (List α)} {L:de} {d:Option Nat} {Ty e:TypeId} {x y:Operand} {K:AV->St->Prop} {l l':List α} {m:Int}
theorem FD {b g gl n Ko:Nat} {z:AV} (hT:td P Ty = .slice e) (hb:bts P e=b) (hok:c9 P e=true) (hz:zav P e=z) (hS:lkp L Ko=some (.arr 1 (fC rf kk gs T),g)) (hn:n=T.length) (hx:nw (stL (dz S0 rf kk enc (kz gs T.length gl) (T++[l])) rg L) (ev t y)=some [.sl kk rf T.length gl 0 l.length]) (hk:z.cells.length=1) (hx0:ev t x = .sl 1 rg Ko g 0 n)
  (hbd:(T++[l]).length*b<=140737488355328) (hb0:ble 1 b=true) (h:∀g',K (.sl 1 rg Ko g' 0 (T++[l]).length) (stL (dz S0 rf kk enc (kz gs T.length gl) (T++[l])) rg ((Ko,.arr 1 (fC rf kk (kz gs T.length gl) (T++[l])),g') :: L))) :
  vo P rg d (.call { callee:=.builtin .append,args:=#[x,y],argTypes:=#[Ty,Ty] }) t (stL (dz S0 rf kk enc (kz gs T.length gl) (T++[l])) rg L) K:=by
 have hS':stL (dz S0 rf kk enc (kz gs T.length gl) (T++[l])) rg L rg Ko=some (.arr 1 (fC rf kk gs T),g):=by rw[fY];exact hS
 rw[vo_append,hx0,ez,hT]
 simp only[hx,hS']
 have h1:=Nat.le_of_ble_eq_true hb0
 have hlen:(T++[l]).length=T.length+1:=by simp
 have h2:(T++[l]).length*1<=(T++[l]).length*b:=Nat.mul_le_mul_left _ h1
 refine⟨⟨hok,?_⟩,⟨trivial,trivial,trivial,by rw[hz,hk],by rw[nK];exact hn⟩,⟨?_,?_⟩,λg=>?_⟩
 ·rw[hz,hk];rfl
 ·rw[hb,nK];rw[hlen] at hbd;exact hbd
 ·rw[nK];simp only[List.length_singleton];omega
 ·have:=h g
  rw[C3,dR,nK]
  rw[hlen] at this
  exact this
theorem C1 (hne:rf≠rg) (hi:m.toNat<T.length):(stL (dz S0 rf kk enc gs T) rg L).set rf m.toNat (.arr kk (l.map enc)) (gs m.toNat)=stL (dz S0 rf kk enc gs (bu T m l)) rg L:=by
 rw[v7 hne hi]
 congr 2
 funext j
 simp only[kz]
 split
 ·rename_i h;rw[h]
 ·rfl
theorem Eu {g:Nat} (hne:rf≠rg) (hi:m.toNat<T.length):(stL (dz S0 rf kk enc gs (bu T m l)) rg L).set rf m.toNat (.arr kk (l'.map enc)) g=stL (dz S0 rf kk enc (kz gs m.toNat g) (bu T m l')) rg L:=by
 rw[v7 hne (by simpa[bu] using hi)]
 congr 2
 simp[bu]
theorem C2 (hne:rf≠rg) (hi:m.toNat<T.length):stL (dz S0 rf kk enc gs (bu T m l)) rg L rf m.toNat=some (.arr kk (l.map enc),gs m.toNat):=by
 rw[rU hne]
 simp[bu,List.getD_eq_getElem?_getD,List.getElem?_set_self hi]
variable {ρ:Ren} {el:TypeId} {by':Nat} {zv:Value} {nm no:String} {f z:Operand} {ts:Array TypeId} {v:List α} {i:Int} {kv gv nv N:Nat}
theorem Iy {q0 k0 g0 q1 k1 g1:Nat} {s:List α} {S:St} (IL:InsL P ρ el kk by' zv nm no) (hcall:nN P (ρ.f 22)=true) (hkk:∀x,(enc x).cells.length=kk) (hone:∀x,ff (enc x).cells=true) (h0:S q0 k0=some (.arr kk (s.map enc),g0)) (h1:S q1 k1=some (.arr kk (v.map enc),g1)) (hne:¬(q0=q1/\k0=k1)) (hi:0<=i/\i<=s.length) (hv:ble 1 v.length=true) (hb:(s.length+v.length)*by'<=140737488355328) (hb0:ble 1 by'=true) :
  ∀S',b9 [(q1,k1)] S' S->b9 [(q0,k0)] S' S->Ctr P (ρ.f 22) [.sl kk q0 k0 g0 0 s.length,.int .i64 i,.sl kk q1 k1 g1 0 v.length] S' (λv' S''=>∃γ:Gen,v' = .sl kk q0 k0 (γ 0) 0 (fr s i v).length/\S''=fW [(q0,k0,.arr kk ((fr s i v).map enc),γ 0)] S'):=
 λ_ a1 a2=>Ek IL hcall hkk hone ((a2 _ (List.mem_singleton.2 rfl)).trans h0) ((a1 _ (List.mem_singleton.2 rfl)).trans h1) hne hi (Nat.le_of_ble_eq_true hv) hb hb0 λg'=>⟨λ_=>g',rfl,rfl⟩
end
theorem Hf {A:ALs} {l l':List AV} (h:RNL A l l'):RN A (.agg l) (.agg l'):=λG x hA hv=>by
 cases hv with
 | agg _ xs hs hc=>exact .agg _ _ (hs.trans h.len) (λi h1 h2=>h.at (List.getElem?_eq_getElem (by rw[h.len];exact h1)) (List.getElem?_eq_getElem h1) G _ hA (hc i _ h2))
theorem Et {α:Type} {S:St} {rf rg kk:Nat} {enc:α->AV} {gs:Nat->Nat} {T:List (List α)} (hne:rf≠rg) (h:∀k,S rg k=none):∀k,dz S rf kk enc gs T rg k=none:=λk=>by rw[yu (Ne.symm hne)];exact h k
theorem yr {α:Type} {R:AV->St->Prop} {v:AV} {S0:St} {rg rf K g kk:Nat} {L:de} {enc:α->AV} {gs:Nat->Nat} {T:List (List α)} (hne:rf≠rg) (hrf:∀k,S0 rf k=none) (hS:lkp L K=some (.arr 1 (fC rf kk gs T),g)) (h:fi R v (stL S0 rg ((K,.arr 1 (T.map (eL enc)),g) :: L))):fi R v (stL (dz S0 rf kk enc gs T) rg L):=
 .wk (λ_ _ _ hr hv=>let ⟨G',q1,q2⟩:=hr.unfam hne hrf hS;⟨G',q1,q2,hv.mono q1⟩) h
theorem C0 {α:Type} {S0:St} {rf rg kk k0 k1 g0 g1:Nat} {o0 o1:GObj} {enc:α->AV} {gs:Nat->Nat} {T:List (List α)} {L:de} (hne:rf≠rg):stX (dz (stL S0 rg L) rf kk enc gs T) [(rg,k0,o0,g0),(rg,k1,o1,g1)]=stL (dz S0 rf kk enc gs T) rg ((k0,o0,g0) :: (k1,o1,g1) :: L):=by
 rw[<-dR,<-dR]
 show((dz (stL S0 rg L) rf kk enc gs T).set rg k1 o1 g1).set rg k0 o0 g0=_
 congr 2
 funext r k
 simp only[dz,stL]
 by_cases h:r=rf
 ·subst h
  rw[if_pos rfl,if_neg hne,if_pos rfl]
 ·rw[if_neg h]
  simp only[if_neg h]
theorem v8 {α:Type} {S0:St} {rf rg kk:Nat} {enc:α->AV} {gs:Nat->Nat} {T:List (List α)} {L:de} {m:Int} (hne:rf≠rg):stL (dz S0 rf kk enc gs T) rg L rf m.toNat=some (.arr kk ((at' T m).map enc),gs m.toNat):=rU hne _
end Go.Gg
