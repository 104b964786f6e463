/- Walks of the functions. Conditions: none. -/
import Derived.Test.YtonbnfgknijpoaaK1
namespace Go.Proofs.Ytonbnfgknijpoaa
open Go.Gg
set_option maxRecDepth 100000
theorem rational_Sign_ctr {a : GRat} {Q : Int → Prop} {S : St} {R : AV → St → Prop} (h : rational_Sign_W a Q) (hQ : ∀ r1, Q r1 → R (AV.int .i64 r1) S) :
    Ctr Try.prog 40 [eRat a] S R := by
  unfold rational_Sign_W at h
  refine enterT Try.func40 rfl Try.ntmps40 Try.results40 (by kernel_rfl) (fun rg hrg => ?_)
  refine Vc.seq' ?_
  refine Vc.region' ?_
  refine Wl.cons rg (o_box (v := eRat a) rfl rfl (kk := 3) rfl (by decide) (fun g1 => ?_))
  refine Wl.cons rg (o_assign (v := .int .i64 0) rfl ?_)
  refine Wl.nil ?_
  refine Vc.seq' ?_
  refine Vc.region' ?_
  refine Wl.cons rg (o_loadBA (atL (k := 1) rfl) sz27 (by decide) ag27 rfl rfl (v := eRat a) rfl ?_)
  refine Wl.cons rg (o_call (us := [eRat a]) rfl (vl' vr (vn)) (rational_parts_ctr h fun r r1 r2 h => ?_))
  refine Wl.cons rg (o_move (v := .tuple [.bool r, eL (AV.int .u32) r1, eL (AV.int .u32) r2]) rfl ?_)
  refine Wl.cons rg (o_extract (v := .bool r) rfl rfl rfl ?_)
  refine Wl.cons rg (o_extract (v := eL (AV.int .u32) r1) rfl rfl rfl ?_)
  refine Wl.cons rg (o_extract (v := eL (AV.int .u32) r2) rfl rfl rfl ?_)
  refine Wl.cons rg (o_assign (v := .bool r) rfl ?_)
  refine Wl.cons rg (o_assign (v := eL (AV.int .u32) r1) rfl ?_)
  refine Wl.cons rg (o_assign (v := eL (AV.int .u32) r2) rfl ?_)
  refine Wl.nil ?_
  refine Vc.seq' ?_
  refine Vc.blk ?_
  refine Vc.seq' ?_
  refine Vc.region' ?_
  refine Wl.cons rg (o_move (v := eL (AV.int .u32) r1) rfl ?_)
  refine Wl.cons rg (o_len td25 rfl ?_)
  refine Wl.cons rg (o_eql rfl rfl ?_)
  refine Wl.cons rg (o_assign (v := .bool ((r1.length : Int) == 0)) rfl ?_)
  refine Wl.nil ?_
  refine Vc.cond' rfl (fun hb => ?_) (fun hb => ?_)
  · replace h := h.1 hb
    refine Vc.seq' ?_
    refine Vc.region' ?_
    refine Wl.cons rg (o_assign (v := .int .i64 0) rfl ?_)
    refine Wl.nil ?_
    refine Vc.ret' ?_
    refine res_tmp (v := .int .i64 0) rfl ?_
    refine res_nil ?_
    show Gives _ (.int .i64 0) _
    exact gives_out hrg (VW.refl _) (hQ _ h)
  · replace h := h.2 hb
    refine Vc.seq' ?_
    refine Vc.region' ?_
    refine Wl.cons rg (o_move (v := .bool r) rfl ?_)
    refine Wl.cons rg (o_assign (v := .bool r) rfl ?_)
    refine Wl.nil ?_
    refine Vc.cond' rfl (fun hb1 => ?_) (fun hb1 => ?_)
    · replace h := h.1 hb1
      refine Vc.seq' ?_
      refine Vc.region' ?_
      refine Wl.cons rg (o_assign (v := .int .i64 (-1)) rfl ?_)
      refine Wl.nil ?_
      refine Vc.ret' ?_
      refine res_tmp (v := .int .i64 (-1)) rfl ?_
      refine res_nil ?_
      show Gives _ (.int .i64 (-1)) _
      exact gives_out hrg (VW.refl _) (hQ _ h)
    · replace h := h.2 hb1
      refine Vc.skip' ?_
      refine Vc.seq' ?_
      refine Vc.region' ?_
      refine Wl.cons rg (o_assign (v := .int .i64 1) rfl ?_)
      refine Wl.nil ?_
      refine Vc.ret' ?_
      refine res_tmp (v := .int .i64 1) rfl ?_
      refine res_nil ?_
      show Gives _ (.int .i64 1) _
      exact gives_out hrg (VW.refl _) (hQ _ h)
theorem product_rate_ctr {x : GRat} {Q : Bool → Prop} {S : St} {R : AV → St → Prop} (h : product_rate_W x Q) (hQ : ∀ r1, Q r1 → R (AV.bool r1) S) :
    Ctr Try.prog 89 [eRat x] S R := by
  unfold product_rate_W at h
  refine enterT Try.func89 rfl Try.ntmps89 Try.results89 (by kernel_rfl) (fun rg hrg => ?_)
  refine Vc.seq' ?_
  refine Vc.region' ?_
  refine Wl.cons rg (o_box (v := eRat x) rfl rfl (kk := 3) rfl (by decide) (fun g1 => ?_))
  refine Wl.cons rg (o_assign (v := .bool false) rfl ?_)
  refine Wl.nil ?_
  refine Vc.seq' ?_
  refine Vc.region' ?_
  refine Wl.cons rg (o_loadBA (atL (k := 1) rfl) sz27 (by decide) ag27 rfl rfl (v := eRat x) rfl ?_)
  refine Wl.cons rg (o_call (us := [eRat x]) rfl (vl' vr (vn)) (rational_Valid_ctr h fun r h => ?_))
  refine Wl.cons rg (o_move (v := .bool r) rfl ?_)
  refine Wl.guard rfl rfl (fun hb => ?_) (fun hb => ?_)
  · replace h := h.1 hb
    refine Wl.cons rg (o_loadBA (atL (k := 1) rfl) sz27 (by decide) ag27 rfl rfl (v := eRat x) rfl ?_)
    refine Wl.guardT rfl rfl hb ?_
    refine Wl.cons rg (o_call (us := [eRat x]) rfl (vl' vr (vn)) (rational_Sign_ctr h fun r1 h => ?_))
    refine Wl.guardT rfl rfl hb ?_
    refine Wl.cons rg (o_geq rfl rfl ?_)
    refine Wl.cons rg (o_pickT rfl hb (v := .bool (decide (0 ≤ r1))) rfl ?_)
    refine Wl.cons rg (o_assign (v := .bool (decide (0 ≤ r1))) rfl ?_)
    refine Wl.nil ?_
    refine Vc.ret' ?_
    refine res_tmp (v := .bool (decide (0 ≤ r1))) rfl ?_
    refine res_nil ?_
    show Gives _ (.bool (decide (0 ≤ r1))) _
    exact gives_out hrg (VW.refl _) (hQ _ h)
  · replace h := h.2 hb
    refine Wl.guardF rfl rfl hb rfl ?_
    refine Wl.guardF rfl rfl hb rfl ?_
    refine Wl.cons rg (o_pickF rfl hb (v := .bool false) rfl ?_)
    refine Wl.cons rg (o_assign (v := .bool false) rfl ?_)
    refine Wl.nil ?_
    refine Vc.ret' ?_
    refine res_tmp (v := .bool false) rfl ?_
    refine res_nil ?_
    show Gives _ (.bool false) _
    exact gives_out hrg (VW.refl _) (hQ _ h)
theorem rational_Div_ctr {a : GRat} {b : GRat} {Q : GRat → Option Int → Prop} {S : St} {R : AV → St → Prop} (h : rational_Div_W a b Q) (hQ : ∀ r1 r2, Q r1 r2 → R (.tuple [eRat r1, eErr 107 r2]) S) :
    Ctr Try.prog 90 [eRat a, eRat b] S R := by
  unfold rational_Div_W at h
  refine enterT Try.func90 rfl Try.ntmps90 Try.results90 (by kernel_rfl) (fun rg hrg => ?_)
  refine Vc.seq' ?_
  refine Vc.region' ?_
  refine Wl.cons rg (o_box (v := eRat a) rfl rfl (kk := 3) rfl (by decide) (fun g1 => ?_))
  refine Wl.cons rg (o_box (v := eRat b) rfl rfl (kk := 3) rfl (by decide) (fun g2 => ?_))
  refine Wl.cons rg (o_alloc zav27 ok27 (kk := 3) rfl (fun g3 => ?_))
  refine Wl.cons rg (o_assign (v := .niface) rfl ?_)
  refine Wl.nil ?_
  refine Vc.seq' ?_
  refine Vc.region' ?_
  refine Wl.cons rg (o_loadBA (atL (k := 2) rfl) sz27 (by decide) ag27 rfl rfl (v := eRat a) rfl ?_)
  refine Wl.cons rg (o_call (us := [eRat a]) rfl (vl' vr (vn)) (rational_parts_ctr h fun r r1 r2 h => ?_))
  refine Wl.cons rg (o_move (v := .tuple [.bool r, eL (AV.int .u32) r1, eL (AV.int .u32) r2]) rfl ?_)
  refine Wl.cons rg (o_extract (v := .bool r) rfl rfl rfl ?_)
  refine Wl.cons rg (o_extract (v := eL (AV.int .u32) r1) rfl rfl rfl ?_)
  refine Wl.cons rg (o_extract (v := eL (AV.int .u32) r2) rfl rfl rfl ?_)
  refine Wl.cons rg (o_assign (v := .bool r) rfl ?_)
  refine Wl.cons rg (o_assign (v := eL (AV.int .u32) r1) rfl ?_)
  refine Wl.cons rg (o_assign (v := eL (AV.int .u32) r2) rfl ?_)
  refine Wl.nil ?_
  refine Vc.seq' ?_
  refine Vc.region' ?_
  refine Wl.cons rg (o_loadBA (atL (k := 3) rfl) sz27 (by decide) ag27 rfl rfl (v := eRat b) rfl ?_)
  refine Wl.cons rg (o_call (us := [eRat b]) rfl (vl' vr (vn)) (rational_parts_ctr h fun r3 r4 r5 h => ?_))
  refine Wl.cons rg (o_move (v := .tuple [.bool r3, eL (AV.int .u32) r4, eL (AV.int .u32) r5]) rfl ?_)
  refine Wl.cons rg (o_extract (v := .bool r3) rfl rfl rfl ?_)
  refine Wl.cons rg (o_extract (v := eL (AV.int .u32) r4) rfl rfl rfl ?_)
  refine Wl.cons rg (o_extract (v := eL (AV.int .u32) r5) rfl rfl rfl ?_)
  refine Wl.cons rg (o_assign (v := .bool r3) rfl ?_)
  refine Wl.cons rg (o_assign (v := eL (AV.int .u32) r4) rfl ?_)
  refine Wl.cons rg (o_assign (v := eL (AV.int .u32) r5) rfl ?_)
  refine Wl.nil ?_
  refine Vc.seq' ?_
  refine Vc.seq' ?_
  refine Vc.region' ?_
  refine Wl.cons rg (o_move (v := eL (AV.int .u32) r4) rfl ?_)
  refine Wl.cons rg (o_len td25 rfl ?_)
  refine Wl.cons rg (o_eql rfl rfl ?_)
  refine Wl.nil ?_
  refine Vc.cond' rfl (fun hb => ?_) (fun hb => ?_)
  · replace h := h.1 hb
    refine Vc.seq' ?_
    refine Vc.region' ?_
    refine Wl.cons rg (o_build td27 zav27 bok27 szs27 sz27 (ps := []) rfl rfl (v := .agg [.bool false, .nil, .nil]) rfl ?_)
    refine Wl.cons rg (o_iface (by rw [td107]; trivial) (v := .int .i64 8) rfl ?_)
    refine Wl.cons rg (o_storeB (atL (k := 4) rfl) sz27 (by decide) rfl (w := .agg [.bool false, .nil, .nil]) rfl rfl rfl (v := .agg [.bool false, .nil, .nil]) rfl setL ?_)
    refine Wl.cons rg (o_assign (v := .iface 107 (.int .i64 8)) rfl ?_)
    refine Wl.nil ?_
    refine Vc.ret' ?_
    refine res_cellA (atL (k := 4) rfl) sz27 (by decide) ag27 rfl rfl (v := .agg [.bool false, .nil, .nil]) rfl ?_
    refine res_tmp (v := .iface 107 (.int .i64 8)) rfl ?_
    refine res_nil ?_
    show Gives _ (.tuple [.agg [.bool false, .nil, .nil], .iface 107 (.int .i64 8)]) _
    exact gives_out hrg (VW.tupL (vl' (VW.aggL (vl' vr (vl' (VW.nilL) (vl' (VW.nilL) (vn))))) (vl' vr (vn)))) (hQ _ _ h)
  · replace h := h.2 hb
    refine Vc.skip' ?_
    refine Vc.seq' ?_
    refine Vc.region' ?_
    refine Wl.cons rg (o_move (v := .bool r) rfl ?_)
    refine Wl.cons rg (o_move (v := .bool r3) rfl ?_)
    refine Wl.cons rg (o_neqB td4 rfl rfl ?_)
    refine Wl.cons rg (o_move (v := eL (AV.int .u32) r1) rfl ?_)
    refine Wl.cons rg (o_move (v := eL (AV.int .u32) r5) rfl ?_)
    refine Wl.cons rg (o_call (us := [eL (AV.int .u32) r1, eL (AV.int .u32) r5]) rfl (vl' vr (vl' vr (vn))) (natural_Mul_ctr h fun r6 h => ?_))
    refine Wl.cons rg (o_move (v := eL (AV.int .u32) r2) rfl ?_)
    refine Wl.cons rg (o_move (v := eL (AV.int .u32) r4) rfl ?_)
    refine Wl.cons rg (o_call (us := [eL (AV.int .u32) r2, eL (AV.int .u32) r4]) rfl (vl' vr (vl' vr (vn))) (natural_Mul_ctr h fun r7 h => ?_))
    refine Wl.cons rg (o_call (us := [AV.bool (r != r3), eL (AV.int .u32) r6, eL (AV.int .u32) r7]) rfl (vl' vr (vl' vr (vl' vr (vn)))) (rational_form_ctr h fun r8 h => ?_))
    refine Wl.cons rg (o_storeB (atL (k := 4) rfl) sz27 (by decide) rfl (w := eRat r8) rfl rfl rfl (v := eRat r8) rfl setL ?_)
    refine Wl.cons rg (o_assign (v := .niface) rfl ?_)
    refine Wl.nil ?_
    refine Vc.ret' ?_
    refine res_cellA (atL (k := 4) rfl) sz27 (by decide) ag27 rfl rfl (v := eRat r8) rfl ?_
    refine res_tmp (v := .niface) rfl ?_
    refine res_nil ?_
    show Gives _ (.tuple [eRat r8, .niface]) _
    exact gives_out hrg (VW.tupL (vl' vr (vl' vr (vn)))) (hQ _ _ h)
theorem product_Unavailable_ctr {fail : GRat} {repair : GRat} {Q : GRat → Option Int → Prop} {S : St} {R : AV → St → Prop} (h : product_Unavailable_W fail repair Q) (hQ : ∀ r1 r2, Q r1 r2 → R (.tuple [eRat r1, eErr 107 r2]) S) :
    Ctr Try.prog 25 [eRat fail, eRat repair] S R := by
  unfold product_Unavailable_W at h
  refine enterT Try.func25 rfl Try.ntmps25 Try.results25 (by kernel_rfl) (fun rg hrg => ?_)
  refine Vc.seq' ?_
  refine Vc.region' ?_
  refine Wl.cons rg (o_box (v := eRat fail) rfl rfl (kk := 3) rfl (by decide) (fun g1 => ?_))
  refine Wl.cons rg (o_box (v := eRat repair) rfl rfl (kk := 3) rfl (by decide) (fun g2 => ?_))
  refine Wl.cons rg (o_alloc zav27 ok27 (kk := 3) rfl (fun g3 => ?_))
  refine Wl.cons rg (o_assign (v := .niface) rfl ?_)
  refine Wl.nil ?_
  refine Vc.seq' ?_
  obtain ⟨J, h, hJ⟩ := h
  refine Vc.join' (σ := ((Bool) × (Nat × Nat × Nat))) (fun y => J y.1) (fun y => envOf [(2, .ptr rg 2 y.2.1 0 0), (3, .ptr rg 3 y.2.2.1 0 0), (4, .ptr rg 4 y.2.2.2 0 0), (13, .bool y.1)]) (fun y => stL S rg [(2, .arr 3 [eRat fail], y.2.1), (3, .arr 3 [eRat repair], y.2.2.1), (4, .arr 3 [.agg [.bool false, .nil, .nil]], y.2.2.2)]) (fun y h => ?_) ?_
  · obtain ⟨x, ⟨g4, g5, g6⟩⟩ := y
    replace h := hJ x h
    show Vc _ _ _ _ (envOf [(2, .ptr rg 2 g4 0 0), (3, .ptr rg 3 g5 0 0), (4, .ptr rg 4 g6 0 0), (13, .bool x)]) (stL S rg [(2, .arr 3 [eRat fail], g4), (3, .arr 3 [eRat repair], g5), (4, .arr 3 [.agg [.bool false, .nil, .nil]], g6)])
    refine Vc.cond' rfl (fun hb => ?_) (fun hb => ?_)
    · replace h := h.1 hb
      refine Vc.seq' ?_
      refine Vc.region' ?_
      refine Wl.cons rg (o_build td27 zav27 bok27 szs27 sz27 (ps := []) rfl rfl (v := .agg [.bool false, .nil, .nil]) rfl ?_)
      refine Wl.cons rg (o_iface (by rw [td107]; trivial) (v := .int .i64 3) rfl ?_)
      refine Wl.cons rg (o_storeB (atL (k := 4) rfl) sz27 (by decide) rfl (w := .agg [.bool false, .nil, .nil]) rfl rfl rfl (v := .agg [.bool false, .nil, .nil]) rfl setL ?_)
      refine Wl.cons rg (o_assign (v := .iface 107 (.int .i64 3)) rfl ?_)
      refine Wl.nil ?_
      refine Vc.ret' ?_
      refine res_cellA (atL (k := 4) rfl) sz27 (by decide) ag27 rfl rfl (v := .agg [.bool false, .nil, .nil]) rfl ?_
      refine res_tmp (v := .iface 107 (.int .i64 3)) rfl ?_
      refine res_nil ?_
      show Gives _ (.tuple [.agg [.bool false, .nil, .nil], .iface 107 (.int .i64 3)]) _
      exact gives_out hrg (VW.tupL (vl' (VW.aggL (vl' vr (vl' (VW.nilL) (vl' (VW.nilL) (vn))))) (vl' vr (vn)))) (hQ _ _ h)
    · replace h := h.2 hb
      refine Vc.skip' ?_
      refine Vc.seq' ?_
      obtain ⟨r, hc, h⟩ := h
      obtain ⟨r1, r2, hc1, h⟩ := h
      refine Vc.drawn' mixed rg (usOf [(3, pc (eRat r)), (4, pc (.tuple [eRat r1, eErr 107 r2]))]) (by kernel_rfl) ?_
      refine dL (E := ([(rg, 2)], none)) rfl rfl (by simp) (cfn) (o_loadBA (atL (k := 2) rfl) sz27 (by decide) ag27 rfl rfl (v := eRat fail) rfl ?_)
      refine dL (E := ([(rg, 2)], none)) rfl rfl (by simp) (cfa (by simp [apartE]) (cfn)) (o_loadBA (atL (k := 2) rfl) sz27 (by decide) ag27 rfl rfl (v := eRat fail) rfl ?_)
      refine dL (E := ([(rg, 3)], none)) rfl rfl (by simp) (cfa (by simp [apartE]) (cfa (by simp [apartE]) (cfn))) (o_loadBA (atL (k := 3) rfl) sz27 (by decide) ag27 rfl rfl (v := eRat repair) rfl ?_)
      refine dC (vs := [eRat fail, eRat repair]) rfl (vl' vr (vl' vr (vn))) (fun _ => rational_Add_ctr hc (fun _ hr => ⟨by rw [hr], rfl⟩)) rfl ?_
      refine dC (vs := [eRat fail, eRat r]) rfl (vl' vr (vl' vr (vn))) (fun _ => rational_Div_ctr hc1 (fun _ _ hr => ⟨by rw [hr.1, hr.2], rfl⟩)) rfl ?_
      refine dP rfl rfl (o_extract (v := eRat r1) rfl rfl rfl ?_)
      refine dP rfl rfl (o_extract (v := eErr 107 r2) rfl rfl rfl ?_)
      refine dL (E := ([], some (rg, 4))) rfl rfl (by simp) (cfo (by kernel_rfl) (cfo (by kernel_rfl) (cfo (by kernel_rfl) (cfn)))) (o_storeB (atL (k := 4) rfl) sz27 (by decide) rfl (w := eRat r1) rfl rfl rfl (v := eRat r1) rfl setL ?_)
      refine dP rfl rfl (o_assign (v := eErr 107 r2) rfl ?_)
      refine dN ?_
      refine Vc.ret' ?_
      refine res_cellA (atL (k := 4) rfl) sz27 (by decide) ag27 rfl rfl (v := eRat r1) rfl ?_
      refine res_tmp (v := eErr 107 r2) rfl ?_
      refine res_nil ?_
      show Gives _ (.tuple [eRat r1, eErr 107 r2]) _
      exact gives_out hrg (VW.tupL (vl' vr (vl' vr (vn)))) (hQ _ _ h)
  · refine Vc.region' ?_
    refine Wl.cons rg (o_loadBA (atL (k := 2) rfl) sz27 (by decide) ag27 rfl rfl (v := eRat fail) rfl ?_)
    refine Wl.cons rg (o_call (us := [eRat fail]) rfl (vl' vr (vn)) (product_rate_ctr h fun r3 h => ?_))
    refine Wl.cons rg (o_not rfl ?_)
    refine Wl.cons rg (o_move (v := .bool (!r3)) rfl ?_)
    refine Wl.guard rfl rfl (fun hb1 => ?_) (fun hb1 => ?_)
    · replace h := h.2 hb1
      refine Wl.cons rg (o_loadBA (atL (k := 3) rfl) sz27 (by decide) ag27 rfl rfl (v := eRat repair) rfl ?_)
      refine Wl.guardT rfl rfl hb1 ?_
      refine Wl.cons rg (o_call (us := [eRat repair]) rfl (vl' vr (vn)) (product_rate_ctr h fun r4 h => ?_))
      refine Wl.guardT rfl rfl hb1 ?_
      refine Wl.cons rg (o_not rfl ?_)
      refine Wl.cons rg (o_pickF rfl hb1 (v := .bool (!r4)) rfl ?_)
      refine Wl.nil ?_
      exact ⟨((!r4), (g1, g2, g3)), (canon (fc vr (fc vr (fc vr (fc vr (fn))))) (sc rfl (sc rfl (sc rfl (sn))))), h⟩
    · replace h := h.1 hb1
      refine Wl.guardF rfl rfl hb1 rfl ?_
      refine Wl.guardF rfl rfl hb1 rfl ?_
      refine Wl.cons rg (o_pickT rfl hb1 (v := .bool true) rfl ?_)
      refine Wl.nil ?_
      exact ⟨(true, (g1, g2, g3)), (canon (fc vr (fc vr (fc vr (fc vr (fn))))) (sc rfl (sc rfl (sc rfl (sn))))), h⟩
theorem rational_size_ctr {n : Int} {Q : List Int → Prop} {S : St} {R : AV → St → Prop} (h : rational_size_W n Q) (hQ : ∀ r1, Q r1 → R (eL (AV.int .u32) r1) S) :
    Ctr Try.prog 105 [AV.int .i64 n] S R := by
  unfold rational_size_W at h
  refine enterT Try.func105 rfl Try.ntmps105 Try.results105 (by kernel_rfl) (fun rg hrg => ?_)
  refine Vc.seq' ?_
  refine Vc.region' ?_
  refine Wl.cons rg (o_assign (v := .nil) rfl ?_)
  refine Wl.nil ?_
  refine Vc.seq' ?_
  refine Vc.seq' ?_
  refine Vc.region' ?_
  refine Wl.cons rg (o_move (v := .int .i64 n) rfl ?_)
  refine Wl.cons rg (o_eql rfl rfl ?_)
  refine Wl.nil ?_
  refine Vc.cond' rfl (fun hb => ?_) (fun hb => ?_)
  · replace h := h.1 hb
    refine Vc.seq' ?_
    refine Vc.region' ?_
    refine Wl.cons rg (o_bslice td25 ok173 zav173 (es := [.int .u32 0, .int .u32 2147483648]) rfl (kk := 1) rfl rfl rfl rfl rfl rfl (fun g1 => ?_))
    refine Wl.cons rg (o_assign (v := .sl 1 rg 5 g1 0 ([0, 2147483648].length)) rfl ?_)
    refine Wl.nil ?_
    refine Vc.ret' ?_
    refine res_tmp (v := .sl 1 rg 5 g1 0 ([0, 2147483648].length)) rfl ?_
    refine res_nil ?_
    show Gives _ (.sl 1 rg 5 g1 0 ([0, 2147483648].length)) _
    refine gives_freeze (k := 5) (xs := List.map (AV.int .u32) [0, 2147483648]) rfl (v' := eL (AV.int .u32) [0, 2147483648]) (frz_full rfl) ?_
    exact gives_out hrg (VW.refl _) (hQ _ h)
  · replace h := h.2 hb
    refine Vc.skip' ?_
    refine Vc.seq' ?_
    refine Vc.region' ?_
    refine Wl.cons rg (o_move (v := .int .i64 n) rfl ?_)
    refine Wl.cons rg (o_move (v := .int .i64 n) rfl ?_)
    refine Wl.cons rg (o_negG rfl h.1 ?_)
    replace h := h.2
    refine Wl.cons rg (o_max rfl rfl ?_)
    refine Wl.cons rg (o_call (us := [AV.int .i64 (max n (-n))]) rfl (vl' vr (vn)) (natural_Of_ctr h fun r h => ?_))
    refine Wl.cons rg (o_assign (v := eL (AV.int .u32) r) rfl ?_)
    refine Wl.nil ?_
    refine Vc.ret' ?_
    refine res_tmp (v := eL (AV.int .u32) r) rfl ?_
    refine res_nil ?_
    show Gives _ (eL (AV.int .u32) r) _
    exact gives_out hrg (VW.refl _) (hQ _ h)
theorem rational_Of_ctr {n : Int} {Q : GRat → Prop} {S : St} {R : AV → St → Prop} (h : rational_Of_W n Q) (hQ : ∀ r1, Q r1 → R (eRat r1) S) :
    Ctr Try.prog 36 [AV.int .i64 n] S R := by
  unfold rational_Of_W at h
  refine enterT Try.func36 rfl Try.ntmps36 Try.results36 (by kernel_rfl) (fun rg hrg => ?_)
  refine Vc.seq' ?_
  refine Vc.region' ?_
  refine Wl.cons rg (o_alloc zav27 ok27 (kk := 3) rfl (fun g1 => ?_))
  refine Wl.nil ?_
  refine Vc.seq' ?_
  refine Vc.region' ?_
  refine Wl.cons rg (o_move (v := .int .i64 n) rfl ?_)
  refine Wl.cons rg (o_lss rfl rfl ?_)
  refine Wl.cons rg (o_move (v := .int .i64 n) rfl ?_)
  refine Wl.cons rg (o_call (us := [AV.int .i64 n]) rfl (vl' vr (vn)) (rational_size_ctr h fun r h => ?_))
  refine Wl.cons rg (o_call (us := []) rfl (vn) (rational_one_ctr h fun r1 h => ?_))
  refine Wl.cons rg (o_call (us := [AV.bool (decide (n < 0)), eL (AV.int .u32) r, eL (AV.int .u32) r1]) rfl (vl' vr (vl' vr (vl' vr (vn)))) (rational_form_ctr h fun r2 h => ?_))
  refine Wl.cons rg (o_storeB (atL (k := 2) rfl) sz27 (by decide) rfl (w := eRat r2) rfl rfl rfl (v := eRat r2) rfl setL ?_)
  refine Wl.nil ?_
  refine Vc.ret' ?_
  refine res_cellA (atL (k := 2) rfl) sz27 (by decide) ag27 rfl rfl (v := eRat r2) rfl ?_
  refine res_nil ?_
  show Gives _ (eRat r2) _
  exact gives_out hrg (VW.refl _) (hQ _ h)
theorem rational_Mul_ctr {a : GRat} {b : GRat} {Q : GRat → Prop} {S : St} {R : AV → St → Prop} (h : rational_Mul_W a b Q) (hQ : ∀ r1, Q r1 → R (eRat r1) S) :
    Ctr Try.prog 37 [eRat a, eRat b] S R := by
  unfold rational_Mul_W at h
  refine enterT Try.func37 rfl Try.ntmps37 Try.results37 (by kernel_rfl) (fun rg hrg => ?_)
  refine Vc.seq' ?_
  refine Vc.region' ?_
  refine Wl.cons rg (o_box (v := eRat a) rfl rfl (kk := 3) rfl (by decide) (fun g1 => ?_))
  refine Wl.cons rg (o_box (v := eRat b) rfl rfl (kk := 3) rfl (by decide) (fun g2 => ?_))
  refine Wl.cons rg (o_alloc zav27 ok27 (kk := 3) rfl (fun g3 => ?_))
  refine Wl.nil ?_
  refine Vc.seq' ?_
  refine Vc.region' ?_
  refine Wl.cons rg (o_loadBA (atL (k := 2) rfl) sz27 (by decide) ag27 rfl rfl (v := eRat a) rfl ?_)
  refine Wl.cons rg (o_call (us := [eRat a]) rfl (vl' vr (vn)) (rational_parts_ctr h fun r r1 r2 h => ?_))
  refine Wl.cons rg (o_move (v := .tuple [.bool r, eL (AV.int .u32) r1, eL (AV.int .u32) r2]) rfl ?_)
  refine Wl.cons rg (o_extract (v := .bool r) rfl rfl rfl ?_)
  refine Wl.cons rg (o_extract (v := eL (AV.int .u32) r1) rfl rfl rfl ?_)
  refine Wl.cons rg (o_extract (v := eL (AV.int .u32) r2) rfl rfl rfl ?_)
  refine Wl.cons rg (o_assign (v := .bool r) rfl ?_)
  refine Wl.cons rg (o_assign (v := eL (AV.int .u32) r1) rfl ?_)
  refine Wl.cons rg (o_assign (v := eL (AV.int .u32) r2) rfl ?_)
  refine Wl.nil ?_
  refine Vc.seq' ?_
  refine Vc.region' ?_
  refine Wl.cons rg (o_loadBA (atL (k := 3) rfl) sz27 (by decide) ag27 rfl rfl (v := eRat b) rfl ?_)
  refine Wl.cons rg (o_call (us := [eRat b]) rfl (vl' vr (vn)) (rational_parts_ctr h fun r3 r4 r5 h => ?_))
  refine Wl.cons rg (o_move (v := .tuple [.bool r3, eL (AV.int .u32) r4, eL (AV.int .u32) r5]) rfl ?_)
  refine Wl.cons rg (o_extract (v := .bool r3) rfl rfl rfl ?_)
  refine Wl.cons rg (o_extract (v := eL (AV.int .u32) r4) rfl rfl rfl ?_)
  refine Wl.cons rg (o_extract (v := eL (AV.int .u32) r5) rfl rfl rfl ?_)
  refine Wl.cons rg (o_assign (v := .bool r3) rfl ?_)
  refine Wl.cons rg (o_assign (v := eL (AV.int .u32) r4) rfl ?_)
  refine Wl.cons rg (o_assign (v := eL (AV.int .u32) r5) rfl ?_)
  refine Wl.nil ?_
  refine Vc.seq' ?_
  refine Vc.region' ?_
  refine Wl.cons rg (o_move (v := .bool r) rfl ?_)
  refine Wl.cons rg (o_move (v := .bool r3) rfl ?_)
  refine Wl.cons rg (o_neqB td4 rfl rfl ?_)
  refine Wl.cons rg (o_move (v := eL (AV.int .u32) r1) rfl ?_)
  refine Wl.cons rg (o_move (v := eL (AV.int .u32) r4) rfl ?_)
  refine Wl.cons rg (o_call (us := [eL (AV.int .u32) r1, eL (AV.int .u32) r4]) rfl (vl' vr (vl' vr (vn))) (natural_Mul_ctr h fun r6 h => ?_))
  refine Wl.cons rg (o_move (v := eL (AV.int .u32) r2) rfl ?_)
  refine Wl.cons rg (o_move (v := eL (AV.int .u32) r5) rfl ?_)
  refine Wl.cons rg (o_call (us := [eL (AV.int .u32) r2, eL (AV.int .u32) r5]) rfl (vl' vr (vl' vr (vn))) (natural_Mul_ctr h fun r7 h => ?_))
  refine Wl.cons rg (o_call (us := [AV.bool (r != r3), eL (AV.int .u32) r6, eL (AV.int .u32) r7]) rfl (vl' vr (vl' vr (vl' vr (vn)))) (rational_form_ctr h fun r8 h => ?_))
  refine Wl.cons rg (o_storeB (atL (k := 4) rfl) sz27 (by decide) rfl (w := eRat r8) rfl rfl rfl (v := eRat r8) rfl setL ?_)
  refine Wl.nil ?_
  refine Vc.ret' ?_
  refine res_cellA (atL (k := 4) rfl) sz27 (by decide) ag27 rfl rfl (v := eRat r8) rfl ?_
  refine res_nil ?_
  show Gives _ (eRat r8) _
  exact gives_out hrg (VW.refl _) (hQ _ h)
theorem rational_Neg_ctr {a : GRat} {Q : GRat → Prop} {S : St} {R : AV → St → Prop} (h : rational_Neg_W a Q) (hQ : ∀ r1, Q r1 → R (eRat r1) S) :
    Ctr Try.prog 109 [eRat a] S R := by
  unfold rational_Neg_W at h
  refine enterT Try.func109 rfl Try.ntmps109 Try.results109 (by kernel_rfl) (fun rg hrg => ?_)
  refine Vc.seq' ?_
  refine Vc.region' ?_
  refine Wl.cons rg (o_box (v := eRat a) rfl rfl (kk := 3) rfl (by decide) (fun g1 => ?_))
  refine Wl.cons rg (o_alloc zav27 ok27 (kk := 3) rfl (fun g2 => ?_))
  refine Wl.nil ?_
  refine Vc.seq' ?_
  refine Vc.region' ?_
  refine Wl.cons rg (o_loadBA (atL (k := 1) rfl) sz27 (by decide) ag27 rfl rfl (v := eRat a) rfl ?_)
  refine Wl.cons rg (o_call (us := [eRat a]) rfl (vl' vr (vn)) (rational_parts_ctr h fun r r1 r2 h => ?_))
  refine Wl.cons rg (o_move (v := .tuple [.bool r, eL (AV.int .u32) r1, eL (AV.int .u32) r2]) rfl ?_)
  refine Wl.cons rg (o_extract (v := .bool r) rfl rfl rfl ?_)
  refine Wl.cons rg (o_extract (v := eL (AV.int .u32) r1) rfl rfl rfl ?_)
  refine Wl.cons rg (o_extract (v := eL (AV.int .u32) r2) rfl rfl rfl ?_)
  refine Wl.cons rg (o_assign (v := .bool r) rfl ?_)
  refine Wl.cons rg (o_assign (v := eL (AV.int .u32) r1) rfl ?_)
  refine Wl.cons rg (o_assign (v := eL (AV.int .u32) r2) rfl ?_)
  refine Wl.nil ?_
  refine Vc.seq' ?_
  refine Vc.region' ?_
  refine Wl.cons rg (o_move (v := .bool r) rfl ?_)
  refine Wl.cons rg (o_not rfl ?_)
  refine Wl.cons rg (o_move (v := eL (AV.int .u32) r1) rfl ?_)
  refine Wl.cons rg (o_move (v := eL (AV.int .u32) r2) rfl ?_)
  refine Wl.cons rg (o_call (us := [AV.bool (!r), eL (AV.int .u32) r1, eL (AV.int .u32) r2]) rfl (vl' vr (vl' vr (vl' vr (vn)))) (rational_form_ctr h fun r3 h => ?_))
  refine Wl.cons rg (o_storeB (atL (k := 2) rfl) sz27 (by decide) rfl (w := eRat r3) rfl rfl rfl (v := eRat r3) rfl setL ?_)
  refine Wl.nil ?_
  refine Vc.ret' ?_
  refine res_cellA (atL (k := 2) rfl) sz27 (by decide) ag27 rfl rfl (v := eRat r3) rfl ?_
  refine res_nil ?_
  show Gives _ (eRat r3) _
  exact gives_out hrg (VW.refl _) (hQ _ h)
theorem rational_Sub_ctr {a : GRat} {b : GRat} {Q : GRat → Prop} {S : St} {R : AV → St → Prop} (h : rational_Sub_W a b Q) (hQ : ∀ r1, Q r1 → R (eRat r1) S) :
    Ctr Try.prog 38 [eRat a, eRat b] S R := by
  unfold rational_Sub_W at h
  refine enterT Try.func38 rfl Try.ntmps38 Try.results38 (by kernel_rfl) (fun rg hrg => ?_)
  refine Vc.seq' ?_
  refine Vc.region' ?_
  refine Wl.cons rg (o_box (v := eRat a) rfl rfl (kk := 3) rfl (by decide) (fun g1 => ?_))
  refine Wl.cons rg (o_box (v := eRat b) rfl rfl (kk := 3) rfl (by decide) (fun g2 => ?_))
  refine Wl.cons rg (o_alloc zav27 ok27 (kk := 3) rfl (fun g3 => ?_))
  refine Wl.nil ?_
  refine Vc.seq' ?_
  obtain ⟨r, hc, h⟩ := h
  obtain ⟨r1, hc1, h⟩ := h
  refine Vc.drawn' mixed rg (usOf [(2, pc (eRat r)), (3, pc (eRat r1))]) (by kernel_rfl) ?_
  refine dL (E := ([(rg, 2)], none)) rfl rfl (by simp) (cfn) (o_loadBA (atL (k := 2) rfl) sz27 (by decide) ag27 rfl rfl (v := eRat a) rfl ?_)
  refine dL (E := ([(rg, 3)], none)) rfl rfl (by simp) (cfa (by simp [apartE]) (cfn)) (o_loadBA (atL (k := 3) rfl) sz27 (by decide) ag27 rfl rfl (v := eRat b) rfl ?_)
  refine dC (vs := [eRat b]) rfl (vl' vr (vn)) (fun _ => rational_Neg_ctr hc (fun _ hr => ⟨by rw [hr], rfl⟩)) rfl ?_
  refine dC (vs := [eRat a, eRat r]) rfl (vl' vr (vl' vr (vn))) (fun _ => rational_Add_ctr hc1 (fun _ hr => ⟨by rw [hr], rfl⟩)) rfl ?_
  refine dL (E := ([], some (rg, 4))) rfl rfl (by simp) (cfo (by kernel_rfl) (cfo (by kernel_rfl) (cfn))) (o_storeB (atL (k := 4) rfl) sz27 (by decide) rfl (w := eRat r1) rfl rfl rfl (v := eRat r1) rfl setL ?_)
  refine dN ?_
  refine Vc.ret' ?_
  refine res_cellA (atL (k := 4) rfl) sz27 (by decide) ag27 rfl rfl (v := eRat r1) rfl ?_
  refine res_nil ?_
  show Gives _ (eRat r1) _
  exact gives_out hrg (VW.refl _) (hQ _ h)
theorem product_check_ctr {fail : List GRat} {repair : List GRat} {Q : Option Int → Prop} {S : St} {R : AV → St → Prop} (h : product_check_W fail repair Q) (hQ : ∀ r1, Q r1 → R (eErr 107 r1) S) :
    Ctr Try.prog 85 [eL eRat fail, eL eRat repair] S R := by
  unfold product_check_W at h
  refine enterT Try.func85 rfl Try.ntmps85 Try.results85 (by kernel_rfl) (fun rg hrg => ?_)
  refine Vc.seq' ?_
  refine Vc.region' ?_
  refine Wl.cons rg (o_assign (v := .niface) rfl ?_)
  refine Wl.nil ?_
  refine Vc.seq' ?_
  obtain ⟨J, h, hJ⟩ := h
  refine Vc.join' (σ := (Bool)) (fun y => J y) (fun y => envOf [(0, eL eRat fail), (1, eL eRat repair), (16, .bool y)]) (fun y => stL S rg []) (fun x h => ?_) ?_
  · replace h := hJ x h
    show Vc _ _ _ _ (envOf [(0, eL eRat fail), (1, eL eRat repair), (16, .bool x)]) (stL S rg [])
    refine Vc.cond' rfl (fun hb => ?_) (fun hb => ?_)
    · replace h := h.1 hb
      refine Vc.seq' ?_
      refine Vc.region' ?_
      refine Wl.cons rg (o_iface (by rw [td107]; trivial) (v := .int .i64 11) rfl ?_)
      refine Wl.cons rg (o_assign (v := .iface 107 (.int .i64 11)) rfl ?_)
      refine Wl.nil ?_
      refine Vc.ret' ?_
      refine res_tmp (v := .iface 107 (.int .i64 11)) rfl ?_
      refine res_nil ?_
      show Gives _ (.iface 107 (.int .i64 11)) _
      exact gives_out hrg (VW.refl _) (hQ _ h)
    · replace h := h.2 hb
      refine Vc.skip' ?_
      refine Vc.seq' ?_
      refine Vc.seq' ?_
      refine Vc.region' ?_
      refine Wl.cons rg (o_move (v := eL eRat fail) rfl ?_)
      refine Wl.cons rg (o_len td22 rfl ?_)
      refine Wl.cons rg (o_gtr rfl rfl ?_)
      refine Wl.nil ?_
      refine Vc.cond' rfl (fun hb1 => ?_) (fun hb1 => ?_)
      · replace h := h.1 hb1
        refine Vc.seq' ?_
        refine Vc.region' ?_
        refine Wl.cons rg (o_iface (by rw [td107]; trivial) (v := .int .i64 4) rfl ?_)
        refine Wl.cons rg (o_assign (v := .iface 107 (.int .i64 4)) rfl ?_)
        refine Wl.nil ?_
        refine Vc.ret' ?_
        refine res_tmp (v := .iface 107 (.int .i64 4)) rfl ?_
        refine res_nil ?_
        show Gives _ (.iface 107 (.int .i64 4)) _
        exact gives_out hrg (VW.refl _) (hQ _ h)
      · replace h := h.2 hb1
        refine Vc.skip' ?_
        refine Vc.seq' ?_
        refine Vc.seq' ?_
        refine Vc.region' ?_
        refine Wl.cons rg (o_move (v := eL eRat fail) rfl ?_)
        refine Wl.cons rg (o_len td22 rfl ?_)
        refine Wl.cons rg (o_move (v := .int .i64 0) rfl ?_)
        refine Wl.nil ?_
        refine Vc.blk ?_
        obtain ⟨I, μ, h0, hI⟩ := h
        refine Vc.loop' (σ := (Int)) (fun y => I y) (fun y => μ y) (fun y => envOf [(0, eL eRat fail), (1, eL eRat repair), (23, .int .i64 (fail.length : Int)), (24, .int .i64 y)]) (fun y => stL S rg []) 0 (canon (fc vr (fc vr (fc vr (fc vr (fn))))) (sn)) h0 (fun x1 h => ?_)
        replace h := hI x1 h
        show Vc _ _ _ _ (envOf [(0, eL eRat fail), (1, eL eRat repair), (23, .int .i64 (fail.length : Int)), (24, .int .i64 x1)]) (stL S rg [])
        refine Vc.seq' ?_
        refine Vc.region' ?_
        refine Wl.cons rg (o_lss rfl rfl ?_)
        refine Wl.nil ?_
        refine Vc.seq' ?_
        refine Vc.cond' rfl (fun hb2 => ?_) (fun hb2 => ?_)
        · replace h := h.1 hb2
          refine Vc.skip' ?_
          refine Vc.seq' ?_
          refine Vc.blk ?_
          refine Vc.seq' ?_
          refine Vc.region' ?_
          refine Wl.cons rg (o_move (v := .int .i64 x1) rfl ?_)
          refine Wl.cons rg (o_assign (v := .int .i64 x1) rfl ?_)
          refine Wl.nil ?_
          obtain ⟨J, h, hJ⟩ := h
          refine Vc.join' (σ := (Bool)) (fun y => J y) (fun y => envOf [(0, eL eRat fail), (1, eL eRat repair), (23, .int .i64 (fail.length : Int)), (24, .int .i64 x1), (40, .bool y)]) (fun y => stL S rg []) (fun x2 h => ?_) ?_
          · replace h := hJ x2 h
            show Vc _ _ _ _ (envOf [(0, eL eRat fail), (1, eL eRat repair), (23, .int .i64 (fail.length : Int)), (24, .int .i64 x1), (40, .bool x2)]) (stL S rg [])
            refine Vc.cond' rfl (fun hb3 => ?_) (fun hb3 => ?_)
            · replace h := h.1 hb3
              refine Vc.seq' ?_
              refine Vc.region' ?_
              refine Wl.cons rg (o_iface (by rw [td107]; trivial) (v := .int .i64 3) rfl ?_)
              refine Wl.cons rg (o_assign (v := .iface 107 (.int .i64 3)) rfl ?_)
              refine Wl.nil ?_
              refine Vc.ret' ?_
              refine res_tmp (v := .iface 107 (.int .i64 3)) rfl ?_
              refine res_nil ?_
              show Gives _ (.iface 107 (.int .i64 3)) _
              exact gives_out hrg (VW.refl _) (hQ _ h)
            · replace h := h.2 hb3
              refine Vc.skip' ?_
              refine Vc.region' ?_
              refine Wl.cons rg (o_addG rfl rfl h.1 ?_)
              replace h := h.2
              refine Wl.cons rg (o_move (v := .int .i64 (x1 + 1)) rfl ?_)
              refine Wl.nil ?_
              exact ⟨(x1 + 1), (canon (fc vr (fc vr (fc vr (fc vr (fn))))) (sn)), h⟩
          · refine Vc.region' ?_
            refine Wl.cons rg (o_move (v := eL eRat fail) rfl ?_)
            refine Wl.cons rg (o_move (v := .int .i64 x1) rfl ?_)
            refine Wl.cons rg (o_idxL td22 sz27 (by decide) (fun _ => rfl) rfl rfl h.1 ?_)
            replace h := h.2
            refine Wl.cons rg (o_loadIA sz27 (by decide) ag27 rfl rfl (v := eRat (at' fail x1)) rfl ?_)
            refine Wl.cons rg (o_call (us := [eRat (at' fail x1)]) rfl (vl' vr (vn)) (product_rate_ctr h fun r h => ?_))
            refine Wl.cons rg (o_not rfl ?_)
            refine Wl.cons rg (o_move (v := .bool (!r)) rfl ?_)
            refine Wl.guard rfl rfl (fun hb4 => ?_) (fun hb4 => ?_)
            · replace h := h.2 hb4
              refine Wl.cons rg (o_move (v := eL eRat repair) rfl ?_)
              refine Wl.guardT rfl rfl hb4 ?_
              refine Wl.cons rg (o_move (v := .int .i64 x1) rfl ?_)
              refine Wl.guardT rfl rfl hb4 ?_
              refine Wl.cons rg (o_idxL td22 sz27 (by decide) (fun _ => rfl) rfl rfl h.1 ?_)
              replace h := h.2
              refine Wl.guardT rfl rfl hb4 ?_
              refine Wl.cons rg (o_loadIA sz27 (by decide) ag27 rfl rfl (v := eRat (at' repair x1)) rfl ?_)
              refine Wl.guardT rfl rfl hb4 ?_
              refine Wl.cons rg (o_call (us := [eRat (at' repair x1)]) rfl (vl' vr (vn)) (product_rate_ctr h fun r1 h => ?_))
              refine Wl.guardT rfl rfl hb4 ?_
              refine Wl.cons rg (o_not rfl ?_)
              refine Wl.cons rg (o_pickF rfl hb4 (v := .bool (!r1)) rfl ?_)
              refine Wl.nil ?_
              exact ⟨(!r1), (canon (fc vr (fc vr (fc vr (fc vr (fc vr (fn)))))) (sn)), h⟩
            · replace h := h.1 hb4
              refine Wl.guardF rfl rfl hb4 rfl ?_
              refine Wl.guardF rfl rfl hb4 rfl ?_
              refine Wl.guardF rfl rfl hb4 rfl ?_
              refine Wl.guardF rfl rfl hb4 rfl ?_
              refine Wl.guardF rfl rfl hb4 rfl ?_
              refine Wl.cons rg (o_pickT rfl hb4 (v := .bool true) rfl ?_)
              refine Wl.nil ?_
              exact ⟨true, (canon (fc vr (fc vr (fc vr (fc vr (fc vr (fn)))))) (sn)), h⟩
        · replace h := h.2 hb2
          refine Vc.exit' (exB_self ?_)
          refine Vc.seq' ?_
          refine Vc.seq' ?_
          refine Vc.region' ?_
          refine Wl.cons rg (o_move (v := eL eRat fail) rfl ?_)
          refine Wl.cons rg (o_len td22 rfl ?_)
          refine Wl.cons rg (o_move (v := .int .i64 0) rfl ?_)
          refine Wl.nil ?_
          refine Vc.blk ?_
          obtain ⟨I, μ, h0, hI⟩ := h
          refine Vc.loop' (σ := (Int)) (fun y => I y) (fun y => μ y) (fun y => envOf [(0, eL eRat fail), (1, eL eRat repair), (44, .int .i64 (fail.length : Int)), (45, .int .i64 y)]) (fun y => stL S rg []) 0 (canon (fc vr (fc vr (fc vr (fc vr (fn))))) (sn)) h0 (fun x3 h => ?_)
          replace h := hI x3 h
          show Vc _ _ _ _ (envOf [(0, eL eRat fail), (1, eL eRat repair), (44, .int .i64 (fail.length : Int)), (45, .int .i64 x3)]) (stL S rg [])
          refine Vc.seq' ?_
          refine Vc.region' ?_
          refine Wl.cons rg (o_lss rfl rfl ?_)
          refine Wl.nil ?_
          refine Vc.seq' ?_
          refine Vc.cond' rfl (fun hb5 => ?_) (fun hb5 => ?_)
          · replace h := h.1 hb5
            refine Vc.skip' ?_
            refine Vc.seq' ?_
            refine Vc.blk ?_
            refine Vc.seq' ?_
            refine Vc.region' ?_
            refine Wl.cons rg (o_move (v := .int .i64 x3) rfl ?_)
            refine Wl.cons rg (o_assign (v := .int .i64 x3) rfl ?_)
            refine Wl.nil ?_
            obtain ⟨J, h, hJ⟩ := h
            refine Vc.join' (σ := (Bool)) (fun y => J y) (fun y => envOf [(0, eL eRat fail), (1, eL eRat repair), (44, .int .i64 (fail.length : Int)), (45, .int .i64 x3), (61, .bool y)]) (fun y => stL S rg []) (fun x4 h => ?_) ?_
            · replace h := hJ x4 h
              show Vc _ _ _ _ (envOf [(0, eL eRat fail), (1, eL eRat repair), (44, .int .i64 (fail.length : Int)), (45, .int .i64 x3), (61, .bool x4)]) (stL S rg [])
              refine Vc.cond' rfl (fun hb6 => ?_) (fun hb6 => ?_)
              · replace h := h.1 hb6
                refine Vc.seq' ?_
                refine Vc.region' ?_
                refine Wl.cons rg (o_iface (by rw [td107]; trivial) (v := .int .i64 8) rfl ?_)
                refine Wl.cons rg (o_assign (v := .iface 107 (.int .i64 8)) rfl ?_)
                refine Wl.nil ?_
                refine Vc.ret' ?_
                refine res_tmp (v := .iface 107 (.int .i64 8)) rfl ?_
                refine res_nil ?_
                show Gives _ (.iface 107 (.int .i64 8)) _
                exact gives_out hrg (VW.refl _) (hQ _ h)
              · replace h := h.2 hb6
                refine Vc.skip' ?_
                refine Vc.region' ?_
                refine Wl.cons rg (o_addG rfl rfl h.1 ?_)
                replace h := h.2
                refine Wl.cons rg (o_move (v := .int .i64 (x3 + 1)) rfl ?_)
                refine Wl.nil ?_
                exact ⟨(x3 + 1), (canon (fc vr (fc vr (fc vr (fc vr (fn))))) (sn)), h⟩
            · refine Vc.region' ?_
              refine Wl.cons rg (o_move (v := eL eRat fail) rfl ?_)
              refine Wl.cons rg (o_move (v := .int .i64 x3) rfl ?_)
              refine Wl.cons rg (o_idxL td22 sz27 (by decide) (fun _ => rfl) rfl rfl h.1 ?_)
              replace h := h.2
              refine Wl.cons rg (o_loadIA sz27 (by decide) ag27 rfl rfl (v := eRat (at' fail x3)) rfl ?_)
              refine Wl.cons rg (o_call (us := [eRat (at' fail x3)]) rfl (vl' vr (vn)) (rational_Sign_ctr h fun r2 h => ?_))
              refine Wl.cons rg (o_eql rfl rfl ?_)
              refine Wl.cons rg (o_move (v := .bool (r2 == 0)) rfl ?_)
              refine Wl.guard rfl rfl (fun hb7 => ?_) (fun hb7 => ?_)
              · replace h := h.1 hb7
                refine Wl.cons rg (o_move (v := eL eRat repair) rfl ?_)
                refine Wl.guardT rfl rfl hb7 ?_
                refine Wl.cons rg (o_move (v := .int .i64 x3) rfl ?_)
                refine Wl.guardT rfl rfl hb7 ?_
                refine Wl.cons rg (o_idxL td22 sz27 (by decide) (fun _ => rfl) rfl rfl h.1 ?_)
                replace h := h.2
                refine Wl.guardT rfl rfl hb7 ?_
                refine Wl.cons rg (o_loadIA sz27 (by decide) ag27 rfl rfl (v := eRat (at' repair x3)) rfl ?_)
                refine Wl.guardT rfl rfl hb7 ?_
                refine Wl.cons rg (o_call (us := [eRat (at' repair x3)]) rfl (vl' vr (vn)) (rational_Sign_ctr h fun r3 h => ?_))
                refine Wl.guardT rfl rfl hb7 ?_
                refine Wl.cons rg (o_eql rfl rfl ?_)
                refine Wl.cons rg (o_pickT rfl hb7 (v := .bool (r3 == 0)) rfl ?_)
                refine Wl.nil ?_
                exact ⟨(r3 == 0), (canon (fc vr (fc vr (fc vr (fc vr (fc vr (fn)))))) (sn)), h⟩
              · replace h := h.2 hb7
                refine Wl.guardF rfl rfl hb7 rfl ?_
                refine Wl.guardF rfl rfl hb7 rfl ?_
                refine Wl.guardF rfl rfl hb7 rfl ?_
                refine Wl.guardF rfl rfl hb7 rfl ?_
                refine Wl.guardF rfl rfl hb7 rfl ?_
                refine Wl.cons rg (o_pickF rfl hb7 (v := .bool false) rfl ?_)
                refine Wl.nil ?_
                exact ⟨false, (canon (fc vr (fc vr (fc vr (fc vr (fc vr (fn)))))) (sn)), h⟩
          · replace h := h.2 hb5
            refine Vc.exit' (exB_self ?_)
            refine Vc.seq' ?_
            refine Vc.region' ?_
            refine Wl.cons rg (o_assign (v := .niface) rfl ?_)
            refine Wl.nil ?_
            refine Vc.ret' ?_
            refine res_tmp (v := .niface) rfl ?_
            refine res_nil ?_
            show Gives _ .niface _
            exact gives_out hrg (VW.refl _) (hQ _ h)
  · refine Vc.region' ?_
    refine Wl.cons rg (o_move (v := eL eRat fail) rfl ?_)
    refine Wl.cons rg (o_len td22 rfl ?_)
    refine Wl.cons rg (o_move (v := eL eRat repair) rfl ?_)
    refine Wl.cons rg (o_len td22 rfl ?_)
    refine Wl.cons rg (o_neq rfl rfl ?_)
    refine Wl.cons rg (o_move (v := .bool ((fail.length : Int) != (repair.length : Int))) rfl ?_)
    refine Wl.guard rfl rfl (fun hb8 => ?_) (fun hb8 => ?_)
    · replace h := h.2 hb8
      refine Wl.cons rg (o_move (v := eL eRat fail) rfl ?_)
      refine Wl.guardT rfl rfl hb8 ?_
      refine Wl.cons rg (o_len td22 rfl ?_)
      refine Wl.guardT rfl rfl hb8 ?_
      refine Wl.cons rg (o_eql rfl rfl ?_)
      refine Wl.cons rg (o_pickF rfl hb8 (v := .bool ((fail.length : Int) == 0)) rfl ?_)
      refine Wl.nil ?_
      exact ⟨((fail.length : Int) == 0), (canon (fc vr (fc vr (fc vr (fn)))) (sn)), h⟩
    · replace h := h.1 hb8
      refine Wl.guardF rfl rfl hb8 rfl ?_
      refine Wl.guardF rfl rfl hb8 rfl ?_
      refine Wl.cons rg (o_pickT rfl hb8 (v := .bool true) rfl ?_)
      refine Wl.nil ?_
      exact ⟨true, (canon (fc vr (fc vr (fc vr (fn)))) (sn)), h⟩
theorem product_Stationary_ctr {fail : List GRat} {repair : List GRat} {Q : List GRat → Option Int → Prop} {S : St} {R : AV → St → Prop} (h : product_Stationary_W fail repair Q) (hQ : ∀ r1 r2, Q r1 r2 → R (.tuple [eL eRat r1, eErr 107 r2]) S) :
    Ctr Try.prog 23 [eL eRat fail, eL eRat repair] S R := by
  unfold product_Stationary_W at h
  refine enterT Try.func23 rfl Try.ntmps23 Try.results23 (by kernel_rfl) (fun rg hrg => ?_)
  refine Vc.seq' ?_
  refine Vc.region' ?_
  refine Wl.cons rg (o_assign (v := .nil) rfl ?_)
  refine Wl.cons rg (o_assign (v := .niface) rfl ?_)
  refine Wl.nil ?_
  refine Vc.seq' ?_
  refine Vc.seq' ?_
  refine Vc.region' ?_
  refine Wl.cons rg (o_move (v := eL eRat fail) rfl ?_)
  refine Wl.cons rg (o_move (v := eL eRat repair) rfl ?_)
  refine Wl.cons rg (o_call (us := [eL eRat fail, eL eRat repair]) rfl (vl' vr (vl' vr (vn))) (product_check_ctr h fun e h => ?_))
  refine Wl.cons rg (o_assign (v := eErr 107 e) rfl ?_)
  refine Wl.nil ?_
  refine Vc.seq' ?_
  refine Vc.region' ?_
  refine Wl.cons rg (o_move (v := eErr 107 e) rfl ?_)
  refine Wl.cons rg (o_isnon td31 (E := 107) rfl rfl rfl ?_)
  refine Wl.nil ?_
  refine Vc.cond' rfl (fun hb => ?_) (fun hb => ?_)
  · replace h := h.1 hb
    refine Vc.seq' ?_
    refine Vc.region' ?_
    refine Wl.cons rg (o_move (v := eErr 107 e) rfl ?_)
    refine Wl.cons rg (o_assign (v := .nil) rfl ?_)
    refine Wl.cons rg (o_assign (v := eErr 107 e) rfl ?_)
    refine Wl.nil ?_
    refine Vc.ret' ?_
    refine res_tmp (v := .nil) rfl ?_
    refine res_tmp (v := eErr 107 e) rfl ?_
    refine res_nil ?_
    show Gives _ (.tuple [.nil, eErr 107 e]) _
    exact gives_out hrg (VW.tupL (vl' (VW.nilL) (vl' vr (vn)))) (hQ _ _ h)
  · replace h := h.2 hb
    refine Vc.skip' ?_
    refine Vc.seq' ?_
    refine Vc.region' ?_
    refine Wl.cons rg (o_call (us := [AV.int .i64 1]) rfl (vl' vr (vn)) (rational_Of_ctr h fun r h => ?_))
    refine Wl.cons rg (o_bslice td22 ok27 zav27 (es := [eRat r]) rfl (kk := 3) rfl rfl rfl rfl rfl rfl (fun g1 => ?_))
    refine Wl.cons rg (o_assign (v := .sl 3 rg 22 g1 0 ([r].length)) rfl ?_)
    refine Wl.nil ?_
    refine Vc.seq' ?_
    refine Vc.seq' ?_
    refine Vc.region' ?_
    refine Wl.cons rg (o_move (v := eL eRat fail) rfl ?_)
    refine Wl.cons rg (o_len td22 rfl ?_)
    refine Wl.cons rg (o_move (v := .int .i64 0) rfl ?_)
    refine Wl.nil ?_
    refine Vc.blk ?_
    refine Vc.wk (canon_freeze (k := 22) (xs := List.map eRat [r]) rfl (es := [(0, eL eRat fail), (1, eL eRat repair), (7, eL eRat [r]), (24, .int .i64 (fail.length : Int)), (25, .int .i64 0)]) (fc vr (fc vr (fc (frz_full rfl) (fc vr (fc vr (fn)))))) (m := []) (sn)) ?_
    obtain ⟨I, μ, h0, hI⟩ := h
    refine Vc.loop' (σ := ((List GRat) × Int)) (fun y => I y) (fun y => μ y) (fun y => envOf [(0, eL eRat fail), (1, eL eRat repair), (7, eL eRat y.1), (24, .int .i64 (fail.length : Int)), (25, .int .i64 y.2)]) (fun y => stL S rg []) ([r], 0) (canon (fc vr (fc vr (fc vr (fc vr (fc vr (fn)))))) (sn)) h0 (fun y h => ?_)
    obtain ⟨out, x⟩ := y
    replace h := hI (out, x) h
    show Vc _ _ _ _ (envOf [(0, eL eRat fail), (1, eL eRat repair), (7, eL eRat out), (24, .int .i64 (fail.length : Int)), (25, .int .i64 x)]) (stL S rg [])
    refine Vc.seq' ?_
    refine Vc.region' ?_
    refine Wl.cons rg (o_lss rfl rfl ?_)
    refine Wl.nil ?_
    refine Vc.seq' ?_
    refine Vc.cond' rfl (fun hb1 => ?_) (fun hb1 => ?_)
    · replace h := h.1 hb1
      refine Vc.skip' ?_
      refine Vc.seq' ?_
      refine Vc.blk ?_
      refine Vc.seq' ?_
      refine Vc.region' ?_
      refine Wl.cons rg (o_move (v := .int .i64 x) rfl ?_)
      refine Wl.cons rg (o_assign (v := .int .i64 x) rfl ?_)
      refine Wl.nil ?_
      refine Vc.seq' ?_
      have hg := h.1
      replace h := h.2
      have hg1 := h.1
      replace h := h.2
      obtain ⟨r1, r2, hc, h⟩ := h
      refine Vc.drawn' mixed rg (usOf [(8, pc (.tuple [eRat r1, eErr 107 r2]))]) (by kernel_rfl) ?_
      refine dP rfl rfl (o_move (v := eL eRat fail) rfl ?_)
      refine dP rfl rfl (o_move (v := .int .i64 x) rfl ?_)
      refine dP rfl rfl (o_idxL td22 sz27 (by decide) (fun _ => rfl) rfl rfl hg ?_)
      refine dP rfl rfl (o_loadIA sz27 (by decide) ag27 rfl rfl (v := eRat (at' fail x)) rfl ?_)
      refine dP rfl rfl (o_move (v := eL eRat repair) rfl ?_)
      refine dP rfl rfl (o_move (v := .int .i64 x) rfl ?_)
      refine dP rfl rfl (o_idxL td22 sz27 (by decide) (fun _ => rfl) rfl rfl hg1 ?_)
      refine dP rfl rfl (o_loadIA sz27 (by decide) ag27 rfl rfl (v := eRat (at' repair x)) rfl ?_)
      refine dC (vs := [eRat (at' fail x), eRat (at' repair x)]) rfl (vl' vr (vl' vr (vn))) (fun _ => product_Unavailable_ctr hc (fun _ _ hr => ⟨by rw [hr.1, hr.2], rfl⟩)) rfl ?_
      refine dP rfl rfl (o_move (v := .tuple [eRat r1, eErr 107 r2]) rfl ?_)
      refine dP rfl rfl (o_extract (v := eRat r1) rfl rfl rfl ?_)
      refine dP rfl rfl (o_extract (v := eErr 107 r2) rfl rfl rfl ?_)
      refine dL (E := ([], some (rg, 9))) rfl rfl (by simp) (cfn) (o_alloc zav27 ok27 (kk := 3) rfl (fun g2 => ?_))
      refine dL (E := ([], some (rg, 9))) rfl rfl (by simp) (cfo (by kernel_rfl) (cfn)) (o_storeB (atL (k := 9) rfl) sz27 (by decide) rfl (w := eRat r1) rfl rfl rfl (v := eRat r1) rfl setL ?_)
      refine dP rfl rfl (o_assign (v := eErr 107 r2) rfl ?_)
      refine dN ?_
      refine Vc.seq' ?_
      refine Vc.seq' ?_
      refine Vc.region' ?_
      refine Wl.cons rg (o_move (v := eErr 107 r2) rfl ?_)
      refine Wl.cons rg (o_isnon td31 (E := 107) rfl rfl rfl ?_)
      refine Wl.nil ?_
      refine Vc.cond' rfl (fun hb2 => ?_) (fun hb2 => ?_)
      · replace h := h.1 hb2
        refine Vc.seq' ?_
        refine Vc.region' ?_
        refine Wl.cons rg (o_move (v := eErr 107 r2) rfl ?_)
        refine Wl.cons rg (o_assign (v := .nil) rfl ?_)
        refine Wl.cons rg (o_assign (v := eErr 107 r2) rfl ?_)
        refine Wl.nil ?_
        refine Vc.ret' ?_
        refine res_tmp (v := .nil) rfl ?_
        refine res_tmp (v := eErr 107 r2) rfl ?_
        refine res_nil ?_
        show Gives _ (.tuple [.nil, eErr 107 r2]) _
        exact gives_out hrg (VW.tupL (vl' (VW.nilL) (vl' vr (vn)))) (hQ _ _ h)
      · replace h := h.2 hb2
        refine Vc.skip' ?_
        refine Vc.seq' ?_
        refine Vc.region' ?_
        refine Wl.cons rg (o_assign (v := .nil) rfl ?_)
        refine Wl.cons rg (o_assign (v := .nil) rfl ?_)
        refine Wl.nil ?_
        refine Vc.seq' ?_
        refine Vc.seq' ?_
        refine Vc.region' ?_
        refine Wl.cons rg (o_move (v := eL eRat out) rfl ?_)
        refine Wl.cons rg (o_len td22 rfl ?_)
        refine Wl.cons rg (o_move (v := .int .i64 0) rfl ?_)
        refine Wl.nil ?_
        refine Vc.blk ?_
        refine Vc.mat 11 62 3 rfl (by decide) (fun g3 => ?_)
        refine Vc.mat 12 54 3 rfl (by decide) (fun g4 => ?_)
        obtain ⟨I, μ, h0, hI⟩ := h
        refine Vc.loop' (σ := ((Int × (List GRat) × (List GRat)) × (Nat × Nat))) (fun y => I y.1) (fun y => μ y.1) (fun y => envOf [(0, eL eRat fail), (1, eL eRat repair), (9, .ptr rg 9 g2 0 0), (11, .sl 3 rg 62 y.2.2 0 y.1.2.2.length), (12, .sl 3 rg 54 y.2.1 0 y.1.2.1.length), (24, .int .i64 (fail.length : Int)), (25, .int .i64 x), (43, eL eRat out), (44, .int .i64 (out.length : Int)), (45, .int .i64 y.1.1)]) (fun y => stL S rg [(9, .arr 3 [eRat r1], g2), (54, .arr 3 (List.map eRat y.1.2.1), y.2.1), (62, .arr 3 (List.map eRat y.1.2.2), y.2.2)]) ((0, [], []), (g4, g3)) (canon (fc vr (fc vr (fc vr (fc (VW.slen (by first | rfl | simp only [len_set', len_rep'])) (fc (VW.slen (by first | rfl | simp only [len_set', len_rep'])) (fc vr (fc vr (fc vr (fc vr (fc vr (fn))))))))))) (sc rfl (sc rfl (sc rfl (sn))))) h0 (fun y h => ?_)
        obtain ⟨⟨x1, failed, works⟩, ⟨g5, g6⟩⟩ := y
        replace h := hI (x1, failed, works) h
        show Vc _ _ _ _ (envOf [(0, eL eRat fail), (1, eL eRat repair), (9, .ptr rg 9 g2 0 0), (11, .sl 3 rg 62 g6 0 works.length), (12, .sl 3 rg 54 g5 0 failed.length), (24, .int .i64 (fail.length : Int)), (25, .int .i64 x), (43, eL eRat out), (44, .int .i64 (out.length : Int)), (45, .int .i64 x1)]) (stL S rg [(9, .arr 3 [eRat r1], g2), (54, .arr 3 (List.map eRat failed), g5), (62, .arr 3 (List.map eRat works), g6)])
        refine Vc.seq' ?_
        refine Vc.region' ?_
        refine Wl.cons rg (o_lss rfl rfl ?_)
        refine Wl.nil ?_
        refine Vc.seq' ?_
        refine Vc.cond' rfl (fun hb3 => ?_) (fun hb3 => ?_)
        · replace h := h.1 hb3
          refine Vc.skip' ?_
          refine Vc.seq' ?_
          refine Vc.blk ?_
          refine Vc.seq' ?_
          refine Vc.region' ?_
          refine Wl.cons rg (o_idxL td22 sz27 (by decide) (fun _ => rfl) rfl rfl h.1 ?_)
          replace h := h.2
          refine Wl.cons rg (o_loadIA sz27 (by decide) ag27 rfl rfl (v := eRat (at' out x1)) rfl ?_)
          refine Wl.cons rg (o_alloc zav27 ok27 (kk := 3) rfl (fun g7 => ?_))
          refine Wl.cons rg (o_storeB (atL (k := 14) rfl) sz27 (by decide) rfl (w := eRat (at' out x1)) rfl rfl rfl (v := eRat (at' out x1)) rfl setL ?_)
          refine Wl.nil ?_
          refine Vc.seq' ?_
          refine Vc.region' ?_
          refine Wl.cons rg (o_move (v := .sl 3 rg 54 g5 0 failed.length) rfl ?_)
          refine Wl.cons rg (o_loadBA (atL (k := 14) rfl) sz27 (by decide) ag27 rfl rfl (v := eRat (at' out x1)) rfl ?_)
          refine Wl.cons rg (o_loadBA (atL (k := 9) rfl) sz27 (by decide) ag27 rfl rfl (v := eRat r1) rfl ?_)
          refine Wl.cons rg (o_call (us := [eRat (at' out x1), eRat r1]) rfl (vl' vr (vl' vr (vn))) (rational_Mul_ctr h fun r3 h => ?_))
          refine Wl.cons rg (o_bslice td22 ok27 zav27 (es := [eRat r3]) rfl (kk := 3) rfl rfl rfl rfl rfl rfl (fun g8 => ?_))
          refine Wl.cons rg (o_appR td22 bts27 ok27 zav27 (es := failed) (xs := [r3]) (enc := eRat) (atL (k := 54) rfl) (by first | rfl | simp only [len_set', len_rep']) (view_row (atL (k := 53) rfl) (by simp only [len_set', len_rep', List.length_map, List.length_append, List.length_cons, List.length_nil])) (kk := 3) rfl rfl (fun _ => rfl) (fun _ => rfl) h.1 rfl (fun _ => setL) (fun g9 => ?_))
          replace h := h.2
          refine Wl.cons rg (o_assign (v := .sl 3 rg 54 g9 0 ((failed ++ [r3]).length)) rfl ?_)
          refine Wl.nil ?_
          obtain ⟨r4, hc1, h⟩ := h
          obtain ⟨r5, hc2, h⟩ := h
          obtain ⟨r6, hc3, h⟩ := h
          have hg2 := h.1
          replace h := h.2
          refine Vc.drawn' mixed rg (usOf [(2, pc (eRat r4)), (4, pc (eRat r5)), (5, pc (eRat r6))]) (by kernel_rfl) ?_
          refine dP rfl rfl (o_move (v := .sl 3 rg 62 g6 0 works.length) rfl ?_)
          refine dL (E := ([(rg, 14)], none)) rfl rfl (by simp) (cfn) (o_loadBA (atL (k := 14) rfl) sz27 (by decide) ag27 rfl rfl (v := eRat (at' out x1)) rfl ?_)
          refine dC (vs := [AV.int .i64 1]) rfl (vl' vr (vn)) (fun _ => rational_Of_ctr hc1 (fun _ hr => ⟨by rw [hr], rfl⟩)) rfl ?_
          refine dL (E := ([(rg, 9)], none)) rfl rfl (by simp) (cfa (by simp [apartE]) (cfn)) (o_loadBA (atL (k := 9) rfl) sz27 (by decide) ag27 rfl rfl (v := eRat r1) rfl ?_)
          refine dC (vs := [eRat r4, eRat r1]) rfl (vl' vr (vl' vr (vn))) (fun _ => rational_Sub_ctr hc2 (fun _ hr => ⟨by rw [hr], rfl⟩)) rfl ?_
          refine dC (vs := [eRat (at' out x1), eRat r5]) rfl (vl' vr (vl' vr (vn))) (fun _ => rational_Mul_ctr hc3 (fun _ hr => ⟨by rw [hr], rfl⟩)) rfl ?_
          refine dL (E := ([], some (rg, 61))) rfl rfl (by simp) (cfo (by kernel_rfl) (cfo (by kernel_rfl) (cfn))) (o_bslice td22 ok27 zav27 (es := [eRat r6]) rfl (kk := 3) rfl rfl rfl rfl rfl rfl (fun g10 => ?_))
          refine dL (E := ([(rg, 61)], some (rg, 62))) rfl rfl (by simp) (cfo (by kernel_rfl) (cfo (by kernel_rfl) (cfo (by kernel_rfl) (cfn)))) (o_appR td22 bts27 ok27 zav27 (es := works) (xs := [r6]) (enc := eRat) (atL (k := 62) rfl) (by first | rfl | simp only [len_set', len_rep']) (view_row (atL (k := 61) rfl) (by simp only [len_set', len_rep', List.length_map, List.length_append, List.length_cons, List.length_nil])) (kk := 3) rfl rfl (fun _ => rfl) (fun _ => rfl) hg2 rfl (fun _ => setL) (fun g11 => ?_))
          refine dP rfl rfl (o_assign (v := .sl 3 rg 62 g11 0 ((works ++ [r6]).length)) rfl ?_)
          refine dN ?_
          refine Vc.region' ?_
          refine Wl.cons rg (o_addG rfl rfl h.1 ?_)
          replace h := h.2
          refine Wl.cons rg (o_move (v := .int .i64 (x1 + 1)) rfl ?_)
          refine Wl.nil ?_
          exact ⟨(((x1 + 1), (failed ++ [r3]), (works ++ [r6])), (g9, g11)), (canon (fc vr (fc vr (fc vr (fc vr (fc vr (fc vr (fc vr (fc vr (fc vr (fc vr (fn))))))))))) (sc rfl (sc rfl (sc rfl (sn))))), h⟩
        · replace h := h.2 hb3
          refine Vc.exit' (exB_self ?_)
          refine Vc.region' ?_
          refine Wl.cons rg (o_move (v := .sl 3 rg 62 g6 0 works.length) rfl ?_)
          refine Wl.cons rg (o_move (v := .sl 3 rg 54 g5 0 failed.length) rfl ?_)
          refine Wl.cons rg (o_appR td22 bts27 ok27 zav27 (es := works) (xs := failed) (enc := eRat) (atL (k := 62) rfl) (by first | rfl | simp only [len_set', len_rep']) (view_row (atL (k := 54) rfl) (by simp only [len_set', len_rep', List.length_map, List.length_append, List.length_cons, List.length_nil])) (kk := 3) rfl rfl (fun _ => rfl) (fun _ => rfl) h.1 rfl (fun _ => setL) (fun g12 => ?_))
          replace h := h.2
          refine Wl.cons rg (o_assign (v := .sl 3 rg 62 g12 0 ((works ++ failed).length)) rfl ?_)
          refine Wl.nil ?_
          refine Vc.region' ?_
          refine Wl.cons rg (o_addG rfl rfl h.1 ?_)
          replace h := h.2
          refine Wl.cons rg (o_move (v := .int .i64 (x + 1)) rfl ?_)
          refine Wl.nil ?_
          exact ⟨((works ++ failed), (x + 1)), (EWk.trans (canon_freeze (k := 62) (xs := List.map eRat (works ++ failed)) rfl (es := [(0, eL eRat fail), (1, eL eRat repair), (7, eL eRat (works ++ failed)), (24, .int .i64 (fail.length : Int)), (25, .int .i64 (x + 1))]) (fc vr (fc vr (fc (frz_full rfl) (fc vr (fc vr (fn)))))) (m := []) (sn)) (canon (fc vr (fc vr (fc vr (fc vr (fc vr (fn)))))) (sn))), h⟩
    · replace h := h.2 hb1
      refine Vc.exit' (exB_self ?_)
      refine Vc.seq' ?_
      refine Vc.region' ?_
      refine Wl.cons rg (o_move (v := eL eRat out) rfl ?_)
      refine Wl.cons rg (o_assign (v := eL eRat out) rfl ?_)
      refine Wl.cons rg (o_assign (v := .niface) rfl ?_)
      refine Wl.nil ?_
      refine Vc.ret' ?_
      refine res_tmp (v := eL eRat out) rfl ?_
      refine res_tmp (v := .niface) rfl ?_
      refine res_nil ?_
      show Gives _ (.tuple [eL eRat out, .niface]) _
      exact gives_out hrg (VW.tupL (vl' vr (vl' vr (vn)))) (hQ _ _ h)
theorem base_Words_ctr {a : List Int} {b : List Int} {Q : Bool → Prop} {S : St} {R : AV → St → Prop} (h : base_Words_W a b Q) (hQ : ∀ r1, Q r1 → R (AV.bool r1) S) :
    Ctr Try.prog 93 [eL (AV.int .u32) a, eL (AV.int .u32) b] S R := by
  unfold base_Words_W at h
  refine enterT Try.func93 rfl Try.ntmps93 Try.results93 (by kernel_rfl) (fun rg hrg => ?_)
  refine Vc.seq' ?_
  refine Vc.region' ?_
  refine Wl.cons rg (o_assign (v := .bool false) rfl ?_)
  refine Wl.nil ?_
  refine Vc.seq' ?_
  refine Vc.seq' ?_
  refine Vc.region' ?_
  refine Wl.cons rg (o_move (v := eL (AV.int .u32) a) rfl ?_)
  refine Wl.cons rg (o_len td25 rfl ?_)
  refine Wl.cons rg (o_move (v := eL (AV.int .u32) b) rfl ?_)
  refine Wl.cons rg (o_len td25 rfl ?_)
  refine Wl.cons rg (o_neq rfl rfl ?_)
  refine Wl.nil ?_
  refine Vc.cond' rfl (fun hb => ?_) (fun hb => ?_)
  · replace h := h.1 hb
    refine Vc.seq' ?_
    refine Vc.region' ?_
    refine Wl.cons rg (o_assign (v := .bool false) rfl ?_)
    refine Wl.nil ?_
    refine Vc.ret' ?_
    refine res_tmp (v := .bool false) rfl ?_
    refine res_nil ?_
    show Gives _ (.bool false) _
    exact gives_out hrg (VW.refl _) (hQ _ h)
  · replace h := h.2 hb
    refine Vc.skip' ?_
    refine Vc.seq' ?_
    refine Vc.seq' ?_
    refine Vc.region' ?_
    refine Wl.cons rg (o_move (v := eL (AV.int .u32) a) rfl ?_)
    refine Wl.cons rg (o_len td25 rfl ?_)
    refine Wl.cons rg (o_move (v := .int .i64 0) rfl ?_)
    refine Wl.nil ?_
    refine Vc.blk ?_
    obtain ⟨I, μ, h0, hI⟩ := h
    refine Vc.loop' (σ := (Int)) (fun y => I y) (fun y => μ y) (fun y => envOf [(0, eL (AV.int .u32) a), (1, eL (AV.int .u32) b), (12, .int .i64 (a.length : Int)), (13, .int .i64 y)]) (fun y => stL S rg []) 0 (canon (fc vr (fc vr (fc vr (fc vr (fn))))) (sn)) h0 (fun x h => ?_)
    replace h := hI x h
    show Vc _ _ _ _ (envOf [(0, eL (AV.int .u32) a), (1, eL (AV.int .u32) b), (12, .int .i64 (a.length : Int)), (13, .int .i64 x)]) (stL S rg [])
    refine Vc.seq' ?_
    refine Vc.region' ?_
    refine Wl.cons rg (o_lss rfl rfl ?_)
    refine Wl.nil ?_
    refine Vc.seq' ?_
    refine Vc.cond' rfl (fun hb1 => ?_) (fun hb1 => ?_)
    · replace h := h.1 hb1
      refine Vc.skip' ?_
      refine Vc.seq' ?_
      refine Vc.blk ?_
      refine Vc.seq' ?_
      refine Vc.region' ?_
      refine Wl.cons rg (o_move (v := .int .i64 x) rfl ?_)
      refine Wl.cons rg (o_assign (v := .int .i64 x) rfl ?_)
      refine Wl.nil ?_
      refine Vc.seq' ?_
      have hg := h.1
      replace h := h.2
      have hg1 := h.1
      replace h := h.2
      refine Vc.drawn' mixed rg (fun _ => jcr) (by kernel_rfl) ?_
      refine dP rfl rfl (o_move (v := eL (AV.int .u32) a) rfl ?_)
      refine dP rfl rfl (o_move (v := .int .i64 x) rfl ?_)
      refine dP rfl rfl (o_idxL td25 sz173 (by decide) (fun _ => rfl) rfl rfl hg ?_)
      refine dP rfl rfl (o_loadI1 sz173 ag173 rfl rfl (v := .int .u32 (at' a x)) rfl ?_)
      refine dP rfl rfl (o_move (v := eL (AV.int .u32) b) rfl ?_)
      refine dP rfl rfl (o_move (v := .int .i64 x) rfl ?_)
      refine dP rfl rfl (o_idxL td25 sz173 (by decide) (fun _ => rfl) rfl rfl hg1 ?_)
      refine dP rfl rfl (o_loadI1 sz173 ag173 rfl rfl (v := .int .u32 (at' b x)) rfl ?_)
      refine dP rfl rfl (o_neq rfl rfl ?_)
      refine dN ?_
      refine Vc.cond' rfl (fun hb2 => ?_) (fun hb2 => ?_)
      · replace h := h.1 hb2
        refine Vc.seq' ?_
        refine Vc.region' ?_
        refine Wl.cons rg (o_assign (v := .bool false) rfl ?_)
        refine Wl.nil ?_
        refine Vc.ret' ?_
        refine res_tmp (v := .bool false) rfl ?_
        refine res_nil ?_
        show Gives _ (.bool false) _
        exact gives_out hrg (VW.refl _) (hQ _ h)
      · replace h := h.2 hb2
        refine Vc.skip' ?_
        refine Vc.region' ?_
        refine Wl.cons rg (o_addG rfl rfl h.1 ?_)
        replace h := h.2
        refine Wl.cons rg (o_move (v := .int .i64 (x + 1)) rfl ?_)
        refine Wl.nil ?_
        exact ⟨(x + 1), (canon (fc vr (fc vr (fc vr (fc vr (fn))))) (sn)), h⟩
    · replace h := h.2 hb1
      refine Vc.exit' (exB_self ?_)
      refine Vc.seq' ?_
      refine Vc.region' ?_
      refine Wl.cons rg (o_assign (v := .bool true) rfl ?_)
      refine Wl.nil ?_
      refine Vc.ret' ?_
      refine res_tmp (v := .bool true) rfl ?_
      refine res_nil ?_
      show Gives _ (.bool true) _
      exact gives_out hrg (VW.refl _) (hQ _ h)
theorem base_Rat_ctr {a : GRat} {b : GRat} {Q : Bool → Prop} {S : St} {R : AV → St → Prop} (h : base_Rat_W a b Q) (hQ : ∀ r1, Q r1 → R (AV.bool r1) S) :
    Ctr Try.prog 29 [eRat a, eRat b] S R := by
  unfold base_Rat_W at h
  refine enterT Try.func29 rfl Try.ntmps29 Try.results29 (by kernel_rfl) (fun rg hrg => ?_)
  refine Vc.seq' ?_
  refine Vc.region' ?_
  refine Wl.cons rg (o_box (v := eRat a) rfl rfl (kk := 3) rfl (by decide) (fun g1 => ?_))
  refine Wl.cons rg (o_box (v := eRat b) rfl rfl (kk := 3) rfl (by decide) (fun g2 => ?_))
  refine Wl.cons rg (o_assign (v := .bool false) rfl ?_)
  refine Wl.nil ?_
  refine Vc.seq' ?_
  refine Vc.region' ?_
  refine Wl.cons rg (o_faP td27 rfl rfl (by rw [sz4]; decide) rfl ?_)
  refine Wl.cons rg (o_loadB1 (atL (k := 2) rfl) sz4 ag4 rfl rfl (v := .bool a.Neg) rfl ?_)
  refine Wl.cons rg (o_faP td27 rfl rfl (by rw [sz4]; decide) rfl ?_)
  refine Wl.cons rg (o_loadB1 (atL (k := 3) rfl) sz4 ag4 rfl rfl (v := .bool b.Neg) rfl ?_)
  refine Wl.cons rg (o_eqlB td4 rfl rfl ?_)
  refine Wl.cons rg (o_move (v := .bool (a.Neg == b.Neg)) rfl ?_)
  refine Wl.guard rfl rfl (fun hb => ?_) (fun hb => ?_)
  · replace h := h.1 hb
    refine Wl.cons rg (o_faP td27 rfl rfl (by rw [sz25]; decide) rfl ?_)
    refine Wl.guardT rfl rfl hb ?_
    refine Wl.cons rg (o_loadB1 (atL (k := 2) rfl) sz25 ag25 rfl rfl (v := eL (AV.int .u32) a.Num) rfl ?_)
    refine Wl.guardT rfl rfl hb ?_
    refine Wl.cons rg (o_faP td27 rfl rfl (by rw [sz25]; decide) rfl ?_)
    refine Wl.guardT rfl rfl hb ?_
    refine Wl.cons rg (o_loadB1 (atL (k := 3) rfl) sz25 ag25 rfl rfl (v := eL (AV.int .u32) b.Num) rfl ?_)
    refine Wl.guardT rfl rfl hb ?_
    refine Wl.cons rg (o_call (us := [eL (AV.int .u32) a.Num, eL (AV.int .u32) b.Num]) rfl (vl' vr (vl' vr (vn))) (base_Words_ctr h fun r h => ?_))
    refine Wl.cons rg (o_pickT rfl hb (v := .bool r) rfl ?_)
    refine Wl.cons rg (o_move (v := .bool r) rfl ?_)
    refine Wl.guard rfl rfl (fun hb1 => ?_) (fun hb1 => ?_)
    · replace h := h.1 hb1
      refine Wl.cons rg (o_faP td27 rfl rfl (by rw [sz25]; decide) rfl ?_)
      refine Wl.guardT rfl rfl hb1 ?_
      refine Wl.cons rg (o_loadB1 (atL (k := 2) rfl) sz25 ag25 rfl rfl (v := eL (AV.int .u32) a.Den) rfl ?_)
      refine Wl.guardT rfl rfl hb1 ?_
      refine Wl.cons rg (o_faP td27 rfl rfl (by rw [sz25]; decide) rfl ?_)
      refine Wl.guardT rfl rfl hb1 ?_
      refine Wl.cons rg (o_loadB1 (atL (k := 3) rfl) sz25 ag25 rfl rfl (v := eL (AV.int .u32) b.Den) rfl ?_)
      refine Wl.guardT rfl rfl hb1 ?_
      refine Wl.cons rg (o_call (us := [eL (AV.int .u32) a.Den, eL (AV.int .u32) b.Den]) rfl (vl' vr (vl' vr (vn))) (base_Words_ctr h fun r1 h => ?_))
      refine Wl.cons rg (o_pickT rfl hb1 (v := .bool r1) rfl ?_)
      refine Wl.cons rg (o_assign (v := .bool r1) rfl ?_)
      refine Wl.nil ?_
      refine Vc.ret' ?_
      refine res_tmp (v := .bool r1) rfl ?_
      refine res_nil ?_
      show Gives _ (.bool r1) _
      exact gives_out hrg (VW.refl _) (hQ _ h)
    · replace h := h.2 hb1
      refine Wl.guardF rfl rfl hb1 rfl ?_
      refine Wl.guardF rfl rfl hb1 rfl ?_
      refine Wl.guardF rfl rfl hb1 rfl ?_
      refine Wl.guardF rfl rfl hb1 rfl ?_
      refine Wl.cons rg (o_pickF rfl hb1 (v := .bool false) rfl ?_)
      refine Wl.cons rg (o_assign (v := .bool false) rfl ?_)
      refine Wl.nil ?_
      refine Vc.ret' ?_
      refine res_tmp (v := .bool false) rfl ?_
      refine res_nil ?_
      show Gives _ (.bool false) _
      exact gives_out hrg (VW.refl _) (hQ _ h)
  · replace h := h.2 hb
    refine Wl.guardF rfl rfl hb rfl ?_
    refine Wl.guardF rfl rfl hb rfl ?_
    refine Wl.guardF rfl rfl hb rfl ?_
    refine Wl.guardF rfl rfl hb rfl ?_
    refine Wl.cons rg (o_pickF rfl hb (v := .bool false) rfl ?_)
    refine Wl.cons rg (o_move (v := .bool false) rfl ?_)
    refine Wl.guardF rfl rfl rfl rfl ?_
    refine Wl.guardF rfl rfl rfl rfl ?_
    refine Wl.guardF rfl rfl rfl rfl ?_
    refine Wl.guardF rfl rfl rfl rfl ?_
    refine Wl.guardF rfl rfl rfl rfl ?_
    refine Wl.cons rg (o_pickF rfl rfl (v := .bool false) rfl ?_)
    refine Wl.cons rg (o_assign (v := .bool false) rfl ?_)
    refine Wl.nil ?_
    refine Vc.ret' ?_
    refine res_tmp (v := .bool false) rfl ?_
    refine res_nil ?_
    show Gives _ (.bool false) _
    exact gives_out hrg (VW.refl _) (hQ _ h)
theorem base_Rats_ctr {a : List GRat} {b : List GRat} {Q : Bool → Prop} {S : St} {R : AV → St → Prop} (h : base_Rats_W a b Q) (hQ : ∀ r1, Q r1 → R (AV.bool r1) S) :
    Ctr Try.prog 28 [eL eRat a, eL eRat b] S R := by
  unfold base_Rats_W at h
  refine enterT Try.func28 rfl Try.ntmps28 Try.results28 (by kernel_rfl) (fun rg hrg => ?_)
  refine Vc.seq' ?_
  refine Vc.region' ?_
  refine Wl.cons rg (o_assign (v := .bool false) rfl ?_)
  refine Wl.nil ?_
  refine Vc.seq' ?_
  refine Vc.seq' ?_
  refine Vc.region' ?_
  refine Wl.cons rg (o_move (v := eL eRat a) rfl ?_)
  refine Wl.cons rg (o_len td22 rfl ?_)
  refine Wl.cons rg (o_move (v := eL eRat b) rfl ?_)
  refine Wl.cons rg (o_len td22 rfl ?_)
  refine Wl.cons rg (o_neq rfl rfl ?_)
  refine Wl.nil ?_
  refine Vc.cond' rfl (fun hb => ?_) (fun hb => ?_)
  · replace h := h.1 hb
    refine Vc.seq' ?_
    refine Vc.region' ?_
    refine Wl.cons rg (o_assign (v := .bool false) rfl ?_)
    refine Wl.nil ?_
    refine Vc.ret' ?_
    refine res_tmp (v := .bool false) rfl ?_
    refine res_nil ?_
    show Gives _ (.bool false) _
    exact gives_out hrg (VW.refl _) (hQ _ h)
  · replace h := h.2 hb
    refine Vc.skip' ?_
    refine Vc.seq' ?_
    refine Vc.seq' ?_
    refine Vc.region' ?_
    refine Wl.cons rg (o_move (v := eL eRat a) rfl ?_)
    refine Wl.cons rg (o_len td22 rfl ?_)
    refine Wl.cons rg (o_move (v := .int .i64 0) rfl ?_)
    refine Wl.nil ?_
    refine Vc.blk ?_
    obtain ⟨I, μ, h0, hI⟩ := h
    refine Vc.loop' (σ := (Int)) (fun y => I y) (fun y => μ y) (fun y => envOf [(0, eL eRat a), (1, eL eRat b), (12, .int .i64 (a.length : Int)), (13, .int .i64 y)]) (fun y => stL S rg []) 0 (canon (fc vr (fc vr (fc vr (fc vr (fn))))) (sn)) h0 (fun x h => ?_)
    replace h := hI x h
    show Vc _ _ _ _ (envOf [(0, eL eRat a), (1, eL eRat b), (12, .int .i64 (a.length : Int)), (13, .int .i64 x)]) (stL S rg [])
    refine Vc.seq' ?_
    refine Vc.region' ?_
    refine Wl.cons rg (o_lss rfl rfl ?_)
    refine Wl.nil ?_
    refine Vc.seq' ?_
    refine Vc.cond' rfl (fun hb1 => ?_) (fun hb1 => ?_)
    · replace h := h.1 hb1
      refine Vc.skip' ?_
      refine Vc.seq' ?_
      refine Vc.blk ?_
      refine Vc.seq' ?_
      refine Vc.region' ?_
      refine Wl.cons rg (o_move (v := .int .i64 x) rfl ?_)
      refine Wl.cons rg (o_assign (v := .int .i64 x) rfl ?_)
      refine Wl.nil ?_
      refine Vc.seq' ?_
      have hg := h.1
      replace h := h.2
      have hg1 := h.1
      replace h := h.2
      obtain ⟨r, hc, h⟩ := h
      refine Vc.drawn' mixed rg (usOf [(8, pc (.bool r))]) (by kernel_rfl) ?_
      refine dP rfl rfl (o_move (v := eL eRat a) rfl ?_)
      refine dP rfl rfl (o_move (v := .int .i64 x) rfl ?_)
      refine dP rfl rfl (o_idxL td22 sz27 (by decide) (fun _ => rfl) rfl rfl hg ?_)
      refine dP rfl rfl (o_loadIA sz27 (by decide) ag27 rfl rfl (v := eRat (at' a x)) rfl ?_)
      refine dP rfl rfl (o_move (v := eL eRat b) rfl ?_)
      refine dP rfl rfl (o_move (v := .int .i64 x) rfl ?_)
      refine dP rfl rfl (o_idxL td22 sz27 (by decide) (fun _ => rfl) rfl rfl hg1 ?_)
      refine dP rfl rfl (o_loadIA sz27 (by decide) ag27 rfl rfl (v := eRat (at' b x)) rfl ?_)
      refine dC (vs := [eRat (at' a x), eRat (at' b x)]) rfl (vl' vr (vl' vr (vn))) (fun _ => base_Rat_ctr hc (fun _ hr => ⟨by rw [hr], rfl⟩)) rfl ?_
      refine dP rfl rfl (o_not rfl ?_)
      refine dN ?_
      refine Vc.cond' rfl (fun hb2 => ?_) (fun hb2 => ?_)
      · replace h := h.1 hb2
        refine Vc.seq' ?_
        refine Vc.region' ?_
        refine Wl.cons rg (o_assign (v := .bool false) rfl ?_)
        refine Wl.nil ?_
        refine Vc.ret' ?_
        refine res_tmp (v := .bool false) rfl ?_
        refine res_nil ?_
        show Gives _ (.bool false) _
        exact gives_out hrg (VW.refl _) (hQ _ h)
      · replace h := h.2 hb2
        refine Vc.skip' ?_
        refine Vc.region' ?_
        refine Wl.cons rg (o_addG rfl rfl h.1 ?_)
        replace h := h.2
        refine Wl.cons rg (o_move (v := .int .i64 (x + 1)) rfl ?_)
        refine Wl.nil ?_
        exact ⟨(x + 1), (canon (fc vr (fc vr (fc vr (fc vr (fn))))) (sn)), h⟩
    · replace h := h.2 hb1
      refine Vc.exit' (exB_self ?_)
      refine Vc.seq' ?_
      refine Vc.region' ?_
      refine Wl.cons rg (o_assign (v := .bool true) rfl ?_)
      refine Wl.nil ?_
      refine Vc.ret' ?_
      refine res_tmp (v := .bool true) rfl ?_
      refine res_nil ?_
      show Gives _ (.bool true) _
      exact gives_out hrg (VW.refl _) (hQ _ h)
theorem ref01_Bits_ctr {a : List Int} {Q : Int → Prop} {S : St} {R : AV → St → Prop} (h : ref01_Bits_W a Q) (hQ : ∀ r1, Q r1 → R (AV.int .i64 r1) S) :
    Ctr Try.prog 164 [eL (AV.int .u32) a] S R := by
  unfold ref01_Bits_W at h
  refine enterT Try.func164 rfl Try.ntmps164 Try.results164 (by kernel_rfl) (fun rg hrg => ?_)
  refine Vc.seq' ?_
  refine Vc.region' ?_
  refine Wl.cons rg (o_assign (v := .int .i64 0) rfl ?_)
  refine Wl.nil ?_
  refine Vc.seq' ?_
  refine Vc.region' ?_
  refine Wl.cons rg (o_assign (v := .int .i64 0) rfl ?_)
  refine Wl.nil ?_
  refine Vc.seq' ?_
  refine Vc.seq' ?_
  refine Vc.region' ?_
  refine Wl.cons rg (o_move (v := eL (AV.int .u32) a) rfl ?_)
  refine Wl.cons rg (o_len td25 rfl ?_)
  refine Wl.cons rg (o_move (v := .int .i64 0) rfl ?_)
  refine Wl.nil ?_
  refine Vc.blk ?_
  obtain ⟨I, μ, h0, hI⟩ := h
  refine Vc.loop' (σ := (Int × Int)) (fun y => I y) (fun y => μ y) (fun y => envOf [(3, .int .i64 y.1), (7, eL (AV.int .u32) a), (8, .int .i64 (a.length : Int)), (9, .int .i64 y.2)]) (fun y => stL S rg []) (0, 0) (canon (fc vr (fc vr (fc vr (fc vr (fn))))) (sn)) h0 (fun y h => ?_)
  obtain ⟨n, x⟩ := y
  replace h := hI (n, x) h
  show Vc _ _ _ _ (envOf [(3, .int .i64 n), (7, eL (AV.int .u32) a), (8, .int .i64 (a.length : Int)), (9, .int .i64 x)]) (stL S rg [])
  refine Vc.seq' ?_
  refine Vc.region' ?_
  refine Wl.cons rg (o_lss rfl rfl ?_)
  refine Wl.nil ?_
  refine Vc.seq' ?_
  refine Vc.cond' rfl (fun hb => ?_) (fun hb => ?_)
  · replace h := h.1 hb
    refine Vc.skip' ?_
    refine Vc.seq' ?_
    refine Vc.blk ?_
    refine Vc.seq' ?_
    refine Vc.region' ?_
    refine Wl.cons rg (o_move (v := .int .i64 x) rfl ?_)
    refine Wl.cons rg (o_idxL td25 sz173 (by decide) (fun _ => rfl) rfl rfl h.1 ?_)
    replace h := h.2
    refine Wl.cons rg (o_loadI1 sz173 ag173 rfl rfl (v := .int .u32 (at' a x)) rfl ?_)
    refine Wl.cons rg (o_assign (v := .int .i64 x) rfl ?_)
    refine Wl.cons rg (o_assign (v := .int .u32 (at' a x)) rfl ?_)
    refine Wl.nil ?_
    refine Vc.seq' ?_
    refine Vc.region' ?_
    refine Wl.cons rg (o_move (v := .int .i64 0) rfl ?_)
    refine Wl.nil ?_
    refine Vc.blk ?_
    obtain ⟨I, μ, h0, hI⟩ := h
    refine Vc.loop' (σ := (Int × Int)) (fun y => I y) (fun y => μ y) (fun y => envOf [(3, .int .i64 y.1), (4, .int .i64 x), (5, .int .u32 (at' a x)), (7, eL (AV.int .u32) a), (8, .int .i64 (a.length : Int)), (9, .int .i64 x), (14, .int .i64 y.2)]) (fun y => stL S rg []) (n, 0) (canon (fc vr (fc vr (fc vr (fc vr (fc vr (fc vr (fc vr (fn)))))))) (sn)) h0 (fun y h => ?_)
    obtain ⟨n1, x1⟩ := y
    replace h := hI (n1, x1) h
    show Vc _ _ _ _ (envOf [(3, .int .i64 n1), (4, .int .i64 x), (5, .int .u32 (at' a x)), (7, eL (AV.int .u32) a), (8, .int .i64 (a.length : Int)), (9, .int .i64 x), (14, .int .i64 x1)]) (stL S rg [])
    refine Vc.seq' ?_
    refine Vc.region' ?_
    refine Wl.cons rg (o_lss rfl rfl ?_)
    refine Wl.nil ?_
    refine Vc.seq' ?_
    refine Vc.cond' rfl (fun hb1 => ?_) (fun hb1 => ?_)
    · replace h := h.1 hb1
      refine Vc.skip' ?_
      refine Vc.seq' ?_
      refine Vc.blk ?_
      refine Vc.seq' ?_
      refine Vc.region' ?_
      refine Wl.cons rg (o_move (v := .int .i64 x1) rfl ?_)
      refine Wl.cons rg (o_assign (v := .int .i64 x1) rfl ?_)
      refine Wl.nil ?_
      refine Vc.seq' ?_
      refine Vc.region' ?_
      refine Wl.cons rg (o_move (v := .int .u32 (at' a x)) rfl ?_)
      refine Wl.cons rg (o_move (v := .int .i64 x1) rfl ?_)
      refine Wl.cons rg (o_shr rfl rfl h.1 ?_)
      replace h := h.2
      refine Wl.cons rg (o_and rfl rfl ?_)
      refine Wl.cons rg (o_eql rfl rfl ?_)
      refine Wl.nil ?_
      refine Vc.cond' rfl (fun hb2 => ?_) (fun hb2 => ?_)
      · replace h := h.1 hb2
        refine Vc.region' ?_
        refine Wl.cons rg (o_move (v := .int .i64 x) rfl ?_)
        refine Wl.cons rg (o_mulG rfl rfl h.1 ?_)
        replace h := h.2
        refine Wl.cons rg (o_move (v := .int .i64 x1) rfl ?_)
        refine Wl.cons rg (o_addG rfl rfl h.1 ?_)
        replace h := h.2
        refine Wl.cons rg (o_addG rfl rfl h.1 ?_)
        replace h := h.2
        refine Wl.cons rg (o_assign (v := .int .i64 (((32 * x) + x1) + 1)) rfl ?_)
        refine Wl.nil ?_
        refine Vc.region' ?_
        refine Wl.cons rg (o_addG rfl rfl h.1 ?_)
        replace h := h.2
        refine Wl.cons rg (o_move (v := .int .i64 (x1 + 1)) rfl ?_)
        refine Wl.nil ?_
        exact ⟨((((32 * x) + x1) + 1), (x1 + 1)), (canon (fc vr (fc vr (fc vr (fc vr (fc vr (fc vr (fc vr (fn)))))))) (sn)), h⟩
      · replace h := h.2 hb2
        refine Vc.skip' ?_
        refine Vc.region' ?_
        refine Wl.cons rg (o_addG rfl rfl h.1 ?_)
        replace h := h.2
        refine Wl.cons rg (o_move (v := .int .i64 (x1 + 1)) rfl ?_)
        refine Wl.nil ?_
        exact ⟨(n1, (x1 + 1)), (canon (fc vr (fc vr (fc vr (fc vr (fc vr (fc vr (fc vr (fn)))))))) (sn)), h⟩
    · replace h := h.2 hb1
      refine Vc.exit' (exB_self ?_)
      refine Vc.region' ?_
      refine Wl.cons rg (o_addG rfl rfl h.1 ?_)
      replace h := h.2
      refine Wl.cons rg (o_move (v := .int .i64 (x + 1)) rfl ?_)
      refine Wl.nil ?_
      exact ⟨(n1, (x + 1)), (canon (fc vr (fc vr (fc vr (fc vr (fn))))) (sn)), h⟩
  · replace h := h.2 hb
    refine Vc.exit' (exB_self ?_)
    refine Vc.seq' ?_
    refine Vc.region' ?_
    refine Wl.cons rg (o_move (v := .int .i64 n) rfl ?_)
    refine Wl.cons rg (o_assign (v := .int .i64 n) rfl ?_)
    refine Wl.nil ?_
    refine Vc.ret' ?_
    refine res_tmp (v := .int .i64 n) rfl ?_
    refine res_nil ?_
    show Gives _ (.int .i64 n) _
    exact gives_out hrg (VW.refl _) (hQ _ h)
theorem ref01_Trim_ctr {a : List Int} {Q : List Int → Prop} {S : St} {R : AV → St → Prop} (h : ref01_Trim_W a Q) (hQ : ∀ r1, Q r1 → R (eL (AV.int .u32) r1) S) :
    Ctr Try.prog 163 [eL (AV.int .u32) a] S R := by
  unfold ref01_Trim_W at h
  refine enterT Try.func163 rfl Try.ntmps163 Try.results163 (by kernel_rfl) (fun rg hrg => ?_)
  refine Vc.seq' ?_
  refine Vc.region' ?_
  refine Wl.cons rg (o_assign (v := .nil) rfl ?_)
  refine Wl.nil ?_
  refine Vc.seq' ?_
  refine Vc.region' ?_
  refine Wl.cons rg (o_move (v := eL (AV.int .u32) a) rfl ?_)
  refine Wl.cons rg (o_len td25 rfl ?_)
  refine Wl.cons rg (o_assign (v := .int .i64 (a.length : Int)) rfl ?_)
  refine Wl.nil ?_
  obtain ⟨J, h, hJ⟩ := h
  refine Vc.join' (σ := (Int)) (fun y => J y) (fun y => envOf [(0, eL (AV.int .u32) a), (3, .int .i64 y)]) (fun y => stL S rg []) (fun n h => ?_) ?_
  · replace h := hJ n h
    show Vc _ _ _ _ (envOf [(0, eL (AV.int .u32) a), (3, .int .i64 n)]) (stL S rg [])
    refine Vc.seq' ?_
    refine Vc.region' ?_
    refine Wl.cons rg (o_bslice td25 ok173 zav173 (es := []) rfl (kk := 1) rfl rfl rfl rfl rfl rfl (fun g1 => ?_))
    refine Wl.cons rg (o_move (v := eL (AV.int .u32) a) rfl ?_)
    refine Wl.cons rg (o_move (v := .int .i64 n) rfl ?_)
    refine Wl.cons rg (o_sliceL td25 sz173 (by decide) (fun _ => rfl) rfl (l := 0) (h := n) rfl rfl h.1 ?_)
    replace h := h.2
    refine Wl.cons rg (o_appR td25 bts173 ok173 zav173 (es := []) (xs := (sub' a 0 n)) (enc := AV.int .u32) (atL (k := 18) rfl) (by first | rfl | simp only [len_set', len_rep']) (rfl) (kk := 1) rfl rfl (fun _ => rfl) (fun _ => rfl) h.1 rfl (fun _ => setL) (fun g2 => ?_))
    replace h := h.2
    refine Wl.cons rg (o_assign (v := .sl 1 rg 18 g2 0 (([] ++ (sub' a 0 n)).length)) rfl ?_)
    refine Wl.nil ?_
    refine Vc.ret' ?_
    refine res_tmp (v := .sl 1 rg 18 g2 0 (([] ++ (sub' a 0 n)).length)) rfl ?_
    refine res_nil ?_
    show Gives _ (.sl 1 rg 18 g2 0 (([] ++ (sub' a 0 n)).length)) _
    refine gives_freeze (k := 18) (xs := List.map (AV.int .u32) ([] ++ (sub' a 0 n))) rfl (v' := eL (AV.int .u32) ([] ++ (sub' a 0 n))) (frz_full rfl) ?_
    exact gives_out hrg (VW.refl _) (hQ _ h)
  · refine Vc.blk ?_
    obtain ⟨I, μ, h0, hI⟩ := h
    refine Vc.loop' (σ := (Int)) (fun y => I y) (fun y => μ y) (fun y => envOf [(0, eL (AV.int .u32) a), (3, .int .i64 y)]) (fun y => stL S rg []) (a.length : Int) (canon (fc vr (fc vr (fn))) (sn)) h0 (fun n1 h => ?_)
    replace h := hI n1 h
    show Vc _ _ _ _ (envOf [(0, eL (AV.int .u32) a), (3, .int .i64 n1)]) (stL S rg [])
    refine Vc.seq' ?_
    refine Vc.seq' ?_
    refine Vc.region' ?_
    refine Wl.cons rg (o_move (v := .int .i64 n1) rfl ?_)
    refine Wl.cons rg (o_gtr rfl rfl ?_)
    refine Wl.cons rg (o_move (v := .bool (decide (0 < n1))) rfl ?_)
    refine Wl.guard rfl rfl (fun hb => ?_) (fun hb => ?_)
    · replace h := h.1 hb
      refine Wl.cons rg (o_move (v := eL (AV.int .u32) a) rfl ?_)
      refine Wl.guardT rfl rfl hb ?_
      refine Wl.cons rg (o_move (v := .int .i64 n1) rfl ?_)
      refine Wl.guardT rfl rfl hb ?_
      refine Wl.cons rg (o_subG rfl rfl h.1 ?_)
      replace h := h.2
      refine Wl.guardT rfl rfl hb ?_
      refine Wl.cons rg (o_idxL td25 sz173 (by decide) (fun _ => rfl) rfl rfl h.1 ?_)
      replace h := h.2
      refine Wl.guardT rfl rfl hb ?_
      refine Wl.cons rg (o_loadI1 sz173 ag173 rfl rfl (v := .int .u32 (at' a (n1 - 1))) rfl ?_)
      refine Wl.guardT rfl rfl hb ?_
      refine Wl.cons rg (o_eql rfl rfl ?_)
      refine Wl.cons rg (o_pickT rfl hb (v := .bool ((at' a (n1 - 1)) == 0)) rfl ?_)
      refine Wl.nil ?_
      refine Vc.cond' rfl (fun hb1 => ?_) (fun hb1 => ?_)
      · replace h := h.1 hb1
        refine Vc.skip' ?_
        refine Vc.blk ?_
        refine Vc.region' ?_
        refine Wl.cons rg (o_move (v := .int .i64 n1) rfl ?_)
        refine Wl.cons rg (o_subG rfl rfl h.1 ?_)
        replace h := h.2
        refine Wl.cons rg (o_assign (v := .int .i64 (n1 - 1)) rfl ?_)
        refine Wl.nil ?_
        exact ⟨(n1 - 1), (canon (fc vr (fc vr (fn))) (sn)), h⟩
      · replace h := h.2 hb1
        refine Vc.exit' (exB_self ?_)
        exact ⟨n1, (canon (fc vr (fc vr (fn))) (sn)), h⟩
    · replace h := h.2 hb
      refine Wl.guardF rfl rfl hb rfl ?_
      refine Wl.guardF rfl rfl hb rfl ?_
      refine Wl.guardF rfl rfl hb rfl ?_
      refine Wl.guardF rfl rfl hb rfl ?_
      refine Wl.guardF rfl rfl hb rfl ?_
      refine Wl.cons rg (o_pickF rfl hb (v := .bool false) rfl ?_)
      refine Wl.nil ?_
      refine Vc.cond' rfl (fun hb => Bool.noConfusion hb) (fun _ => ?_)
      refine Vc.exit' (exB_self ?_)
      exact ⟨n1, (canon (fc vr (fc vr (fn))) (sn)), h⟩
theorem ref01_word_ctr {a : List Int} {i : Int} {Q : Int → Prop} {S : St} {R : AV → St → Prop} (h : ref01_word_W a i Q) (hQ : ∀ r1, Q r1 → R (AV.int .u64 r1) S) :
    Ctr Try.prog 162 [eL (AV.int .u32) a, AV.int .i64 i] S R := by
  unfold ref01_word_W at h
  refine enterT Try.func162 rfl Try.ntmps162 Try.results162 (by kernel_rfl) (fun rg hrg => ?_)
  refine Vc.seq' ?_
  refine Vc.region' ?_
  refine Wl.cons rg (o_assign (v := .int .u64 0) rfl ?_)
  refine Wl.nil ?_
  refine Vc.seq' ?_
  refine Vc.seq' ?_
  refine Vc.region' ?_
  refine Wl.cons rg (o_move (v := .int .i64 i) rfl ?_)
  refine Wl.cons rg (o_move (v := eL (AV.int .u32) a) rfl ?_)
  refine Wl.cons rg (o_len td25 rfl ?_)
  refine Wl.cons rg (o_lss rfl rfl ?_)
  refine Wl.nil ?_
  refine Vc.cond' rfl (fun hb => ?_) (fun hb => ?_)
  · replace h := h.1 hb
    refine Vc.seq' ?_
    refine Vc.region' ?_
    refine Wl.cons rg (o_move (v := eL (AV.int .u32) a) rfl ?_)
    refine Wl.cons rg (o_move (v := .int .i64 i) rfl ?_)
    refine Wl.cons rg (o_idxL td25 sz173 (by decide) (fun _ => rfl) rfl rfl h.1 ?_)
    replace h := h.2
    refine Wl.cons rg (o_loadI1 sz173 ag173 rfl rfl (v := .int .u32 (at' a i)) rfl ?_)
    refine Wl.cons rg (o_conv td173 td179 rfl ?_)
    refine Wl.cons rg (o_assign (v := .int .u64 (IntKind.wrap .u64 (at' a i))) rfl ?_)
    refine Wl.nil ?_
    refine Vc.ret' ?_
    refine res_tmp (v := .int .u64 (IntKind.wrap .u64 (at' a i))) rfl ?_
    refine res_nil ?_
    show Gives _ (.int .u64 (IntKind.wrap .u64 (at' a i))) _
    exact gives_out hrg (VW.refl _) (hQ _ h)
  · replace h := h.2 hb
    refine Vc.skip' ?_
    refine Vc.seq' ?_
    refine Vc.region' ?_
    refine Wl.cons rg (o_assign (v := .int .u64 0) rfl ?_)
    refine Wl.nil ?_
    refine Vc.ret' ?_
    refine res_tmp (v := .int .u64 0) rfl ?_
    refine res_nil ?_
    show Gives _ (.int .u64 0) _
    exact gives_out hrg (VW.refl _) (hQ _ h)
theorem ref01_Mul_ctr {a : List Int} {b : List Int} {Q : List Int → Prop} {S : St} {R : AV → St → Prop} (h : ref01_Mul_W a b Q) (hQ : ∀ r1, Q r1 → R (eL (AV.int .u32) r1) S) :
    Ctr Try.prog 136 [eL (AV.int .u32) a, eL (AV.int .u32) b] S R := by
  unfold ref01_Mul_W at h
  refine enterT Try.func136 rfl Try.ntmps136 Try.results136 (by kernel_rfl) (fun rg hrg => ?_)
  refine Vc.seq' ?_
  refine Vc.region' ?_
  refine Wl.cons rg (o_assign (v := .nil) rfl ?_)
  refine Wl.nil ?_
  refine Vc.seq' ?_
  refine Vc.region' ?_
  refine Wl.cons rg (o_move (v := eL (AV.int .u32) a) rfl ?_)
  refine Wl.cons rg (o_len td25 rfl ?_)
  refine Wl.cons rg (o_move (v := eL (AV.int .u32) b) rfl ?_)
  refine Wl.cons rg (o_len td25 rfl ?_)
  refine Wl.cons rg (o_addG rfl rfl h.1 ?_)
  replace h := h.2
  refine Wl.cons rg (o_addG rfl rfl h.1 ?_)
  replace h := h.2
  refine Wl.cons rg (o_make td25 bts173 ok173 (enc := AV.int .u32) (z' := 0) zav173 (kk := 1) rfl rfl rfl h.1 (fun g1 => ?_))
  replace h := h.2
  refine Wl.cons rg (o_assign (v := .sl 1 rg 17 g1 0 (Int.toNat (((a.length : Int) + (b.length : Int)) + 1))) rfl ?_)
  refine Wl.nil ?_
  refine Vc.seq' ?_
  refine Vc.seq' ?_
  refine Vc.region' ?_
  refine Wl.cons rg (o_move (v := eL (AV.int .u32) a) rfl ?_)
  refine Wl.cons rg (o_len td25 rfl ?_)
  refine Wl.cons rg (o_move (v := .int .i64 0) rfl ?_)
  refine Wl.nil ?_
  refine Vc.blk ?_
  obtain ⟨I, μ, h0, hI⟩ := h
  refine Vc.loop' (σ := (Int × (List Int))) (fun y => I y) (fun y => μ y) (fun y => envOf [(1, eL (AV.int .u32) b), (5, .sl 1 rg 17 g1 0 y.2.length), (18, eL (AV.int .u32) a), (19, .int .i64 (a.length : Int)), (20, .int .i64 y.1)]) (fun y => stL S rg [(17, .arr 1 (List.map (AV.int .u32) y.2), g1)]) (0, (rep' (((a.length : Int) + (b.length : Int)) + 1) 0)) (canon (fc vr (fc (VW.slen (by first | rfl | simp only [len_set', len_rep'])) (fc vr (fc vr (fc vr (fn)))))) (sc rfl (sn))) h0 (fun y h => ?_)
  obtain ⟨x, out⟩ := y
  replace h := hI (x, out) h
  show Vc _ _ _ _ (envOf [(1, eL (AV.int .u32) b), (5, .sl 1 rg 17 g1 0 out.length), (18, eL (AV.int .u32) a), (19, .int .i64 (a.length : Int)), (20, .int .i64 x)]) (stL S rg [(17, .arr 1 (List.map (AV.int .u32) out), g1)])
  refine Vc.seq' ?_
  refine Vc.region' ?_
  refine Wl.cons rg (o_lss rfl rfl ?_)
  refine Wl.nil ?_
  refine Vc.seq' ?_
  refine Vc.cond' rfl (fun hb => ?_) (fun hb => ?_)
  · replace h := h.1 hb
    refine Vc.skip' ?_
    refine Vc.seq' ?_
    refine Vc.blk ?_
    refine Vc.seq' ?_
    refine Vc.region' ?_
    refine Wl.cons rg (o_move (v := .int .i64 x) rfl ?_)
    refine Wl.cons rg (o_idxL td25 sz173 (by decide) (fun _ => rfl) rfl rfl h.1 ?_)
    replace h := h.2
    refine Wl.cons rg (o_loadI1 sz173 ag173 rfl rfl (v := .int .u32 (at' a x)) rfl ?_)
    refine Wl.cons rg (o_assign (v := .int .i64 x) rfl ?_)
    refine Wl.cons rg (o_assign (v := .int .u32 (at' a x)) rfl ?_)
    refine Wl.nil ?_
    refine Vc.seq' ?_
    refine Vc.region' ?_
    refine Wl.cons rg (o_assign (v := .int .u64 0) rfl ?_)
    refine Wl.nil ?_
    refine Vc.seq' ?_
    refine Vc.region' ?_
    refine Wl.cons rg (o_move (v := eL (AV.int .u32) b) rfl ?_)
    refine Wl.cons rg (o_len td25 rfl ?_)
    refine Wl.cons rg (o_addG rfl rfl h.1 ?_)
    replace h := h.2
    refine Wl.cons rg (o_move (v := .int .i64 0) rfl ?_)
    refine Wl.nil ?_
    refine Vc.blk ?_
    obtain ⟨I, μ, h0, hI⟩ := h
    refine Vc.loop' (σ := (Int × Int × (List Int))) (fun y => I y) (fun y => μ y) (fun y => envOf [(1, eL (AV.int .u32) b), (5, .sl 1 rg 17 g1 0 y.2.2.length), (6, .int .i64 x), (7, .int .u32 (at' a x)), (8, .int .u64 y.1), (18, eL (AV.int .u32) a), (19, .int .i64 (a.length : Int)), (20, .int .i64 x), (27, .int .i64 ((b.length : Int) + 1)), (28, .int .i64 y.2.1)]) (fun y => stL S rg [(17, .arr 1 (List.map (AV.int .u32) y.2.2), g1)]) (0, 0, out) (canon (fc vr (fc vr (fc vr (fc vr (fc vr (fc vr (fc vr (fc vr (fc vr (fc vr (fn))))))))))) (sc rfl (sn))) h0 (fun y h => ?_)
    obtain ⟨carry, x1, out1⟩ := y
    replace h := hI (carry, x1, out1) h
    show Vc _ _ _ _ (envOf [(1, eL (AV.int .u32) b), (5, .sl 1 rg 17 g1 0 out1.length), (6, .int .i64 x), (7, .int .u32 (at' a x)), (8, .int .u64 carry), (18, eL (AV.int .u32) a), (19, .int .i64 (a.length : Int)), (20, .int .i64 x), (27, .int .i64 ((b.length : Int) + 1)), (28, .int .i64 x1)]) (stL S rg [(17, .arr 1 (List.map (AV.int .u32) out1), g1)])
    refine Vc.seq' ?_
    refine Vc.region' ?_
    refine Wl.cons rg (o_lss rfl rfl ?_)
    refine Wl.nil ?_
    refine Vc.seq' ?_
    refine Vc.cond' rfl (fun hb1 => ?_) (fun hb1 => ?_)
    · replace h := h.1 hb1
      refine Vc.skip' ?_
      refine Vc.seq' ?_
      refine Vc.blk ?_
      refine Vc.seq' ?_
      refine Vc.region' ?_
      refine Wl.cons rg (o_move (v := .int .i64 x1) rfl ?_)
      refine Wl.cons rg (o_assign (v := .int .i64 x1) rfl ?_)
      refine Wl.nil ?_
      refine Vc.seq' ?_
      obtain ⟨r, hc, h⟩ := h
      have hg := h.1
      replace h := h.2
      have hi := h.1
      replace h := h.2
      refine Vc.drawn' mixed rg (usOf [(4, pc (.int .u64 r))]) (by kernel_rfl) ?_
      refine dP rfl rfl (o_move (v := .int .u32 (at' a x)) rfl ?_)
      refine dP rfl rfl (o_conv td173 td179 rfl ?_)
      refine dP rfl rfl (o_move (v := eL (AV.int .u32) b) rfl ?_)
      refine dP rfl rfl (o_move (v := .int .i64 x1) rfl ?_)
      refine dC (vs := [eL (AV.int .u32) b, AV.int .i64 x1]) rfl (vl' vr (vl' vr (vn))) (fun _ => ref01_word_ctr hc (fun _ hr => ⟨by rw [hr], rfl⟩)) rfl ?_
      refine dP rfl rfl (o_mul rfl rfl ?_)
      refine dP rfl rfl (o_move (v := .sl 1 rg 17 g1 0 out1.length) rfl ?_)
      refine dP rfl rfl (o_move (v := .int .i64 x) rfl ?_)
      refine dP rfl rfl (o_move (v := .int .i64 x1) rfl ?_)
      refine dP rfl rfl (o_addG rfl rfl hg ?_)
      refine dP rfl rfl (o_idxR0 td25 sz173 (by decide) rfl rfl hi ?_)
      refine dL (E := ([(rg, 17)], none)) rfl rfl (by simp) (cfn) (o_loadR1 (atL (k := 17) rfl) sz173 ag173 rfl (lt_of hi (by first | rfl | simp only [len_set', len_rep'])) rfl (v := .int .u32 (at' out1 (x + x1))) rfl ?_)
      refine dP rfl rfl (o_conv td173 td179 rfl ?_)
      refine dP rfl rfl (o_add rfl rfl ?_)
      refine dP rfl rfl (o_move (v := .int .u64 carry) rfl ?_)
      refine dP rfl rfl (o_add rfl rfl ?_)
      refine dP rfl rfl (o_assign (v := .int .u64 (IntKind.wrap .u64 ((IntKind.wrap .u64 ((IntKind.wrap .u64 ((IntKind.wrap .u64 (at' a x)) * r)) + (IntKind.wrap .u64 (at' out1 (x + x1))))) + carry))) rfl ?_)
      refine dN ?_
      refine Vc.seq' ?_
      refine Vc.region' ?_
      refine Wl.cons rg (o_move (v := .sl 1 rg 17 g1 0 out1.length) rfl ?_)
      refine Wl.cons rg (o_move (v := .int .i64 x) rfl ?_)
      refine Wl.cons rg (o_move (v := .int .i64 x1) rfl ?_)
      refine Wl.cons rg (o_addG rfl rfl h.1 ?_)
      replace h := h.2
      refine Wl.cons rg (o_move (v := .int .u64 (IntKind.wrap .u64 ((IntKind.wrap .u64 ((IntKind.wrap .u64 ((IntKind.wrap .u64 (at' a x)) * r)) + (IntKind.wrap .u64 (at' out1 (x + x1))))) + carry))) rfl ?_)
      refine Wl.cons rg (o_conv td179 td173 rfl ?_)
      refine Wl.cons rg (o_idxR0 td25 sz173 (by decide) rfl rfl h.1 ?_)
      have hi1 := h.1
      replace h := h.2
      refine Wl.cons rg (o_storeR1 (atL (k := 17) rfl) sz173 (by decide) (x' := (IntKind.wrap .u32 (IntKind.wrap .u64 ((IntKind.wrap .u64 ((IntKind.wrap .u64 ((IntKind.wrap .u64 (at' a x)) * r)) + (IntKind.wrap .u64 (at' out1 (x + x1))))) + carry)))) (fun _ => rfl) rfl rfl (lt_of hi1 (by first | rfl | simp only [len_set', len_rep'])) rfl rfl setL ?_)
      refine Wl.nil ?_
      refine Vc.region' ?_
      refine Wl.cons rg (o_move (v := .int .u64 (IntKind.wrap .u64 ((IntKind.wrap .u64 ((IntKind.wrap .u64 ((IntKind.wrap .u64 (at' a x)) * r)) + (IntKind.wrap .u64 (at' out1 (x + x1))))) + carry))) rfl ?_)
      refine Wl.cons rg (o_shr rfl rfl (by decide) ?_)
      obtain ⟨carry1, hs⟩ : ∃ qz, qz = ((IntKind.wrap .u64 ((IntKind.wrap .u64 ((IntKind.wrap .u64 ((IntKind.wrap .u64 (at' a x)) * r)) + (IntKind.wrap .u64 (at' out1 (x + x1))))) + carry)) / 2 ^ (Int.toNat 32)) := ⟨_, rfl⟩
      replace h := h carry1 hs
      refine Wl.cons rg (o_assign (v := .int .u64 carry1) (by subst hs; rfl) ?_)
      refine Wl.nil ?_
      refine Vc.region' ?_
      refine Wl.cons rg (o_addG rfl rfl h.1 ?_)
      replace h := h.2
      refine Wl.cons rg (o_move (v := .int .i64 (x1 + 1)) rfl ?_)
      refine Wl.nil ?_
      exact ⟨(carry1, (x1 + 1), (set' out1 (x + x1) (IntKind.wrap .u32 (IntKind.wrap .u64 ((IntKind.wrap .u64 ((IntKind.wrap .u64 ((IntKind.wrap .u64 (at' a x)) * r)) + (IntKind.wrap .u64 (at' out1 (x + x1))))) + carry))))), (canon (fc vr (fc (VW.slen (by first | rfl | simp only [len_set', len_rep'])) (fc vr (fc vr (fc vr (fc vr (fc vr (fc vr (fc vr (fc vr (fn))))))))))) (sc rfl (sn))), h⟩
    · replace h := h.2 hb1
      refine Vc.exit' (exB_self ?_)
      refine Vc.region' ?_
      refine Wl.cons rg (o_addG rfl rfl h.1 ?_)
      replace h := h.2
      refine Wl.cons rg (o_move (v := .int .i64 (x + 1)) rfl ?_)
      refine Wl.nil ?_
      exact ⟨((x + 1), out1), (canon (fc vr (fc vr (fc vr (fc vr (fc vr (fn)))))) (sc rfl (sn))), h⟩
  · replace h := h.2 hb
    refine Vc.exit' (exB_self ?_)
    refine Vc.seq' ?_
    refine Vc.region' ?_
    refine Wl.cons rg (o_move (v := .sl 1 rg 17 g1 0 out.length) rfl ?_)
    refine Wl.wk (canon_freeze (k := 17) (xs := List.map (AV.int .u32) out) rfl (es := [(58, eL (AV.int .u32) out)]) (fc (frz_full rfl) (fn)) (m := []) (sn)) ?_
    refine Wl.cons rg (o_call (us := [eL (AV.int .u32) out]) rfl (vl' vr (vn)) (ref01_Trim_ctr h fun r1 h => ?_))
    refine Wl.cons rg (o_assign (v := eL (AV.int .u32) r1) rfl ?_)
    refine Wl.nil ?_
    refine Vc.ret' ?_
    refine res_tmp (v := eL (AV.int .u32) r1) rfl ?_
    refine res_nil ?_
    show Gives _ (eL (AV.int .u32) r1) _
    exact gives_out hrg (VW.refl _) (hQ _ h)
theorem ref01_Cmp_ctr {a : List Int} {b : List Int} {Q : Int → Prop} {S : St} {R : AV → St → Prop} (h : ref01_Cmp_W a b Q) (hQ : ∀ r1, Q r1 → R (AV.int .i64 r1) S) :
    Ctr Try.prog 139 [eL (AV.int .u32) a, eL (AV.int .u32) b] S R := by
  unfold ref01_Cmp_W at h
  refine enterT Try.func139 rfl Try.ntmps139 Try.results139 (by kernel_rfl) (fun rg hrg => ?_)
  refine Vc.seq' ?_
  refine Vc.region' ?_
  refine Wl.cons rg (o_assign (v := .int .i64 0) rfl ?_)
  refine Wl.nil ?_
  refine Vc.seq' ?_
  refine Vc.seq' ?_
  refine Vc.region' ?_
  refine Wl.cons rg (o_move (v := eL (AV.int .u32) a) rfl ?_)
  refine Wl.cons rg (o_len td25 rfl ?_)
  refine Wl.cons rg (o_move (v := eL (AV.int .u32) b) rfl ?_)
  refine Wl.cons rg (o_len td25 rfl ?_)
  refine Wl.cons rg (o_max rfl rfl ?_)
  refine Wl.cons rg (o_subG rfl rfl h.1 ?_)
  replace h := h.2
  obtain ⟨i, hs⟩ : ∃ qz, qz = ((max (a.length : Int) (b.length : Int)) - 1) := ⟨_, rfl⟩
  replace h := h i hs
  refine Wl.cons rg (o_assign (v := .int .i64 i) (by subst hs; rfl) ?_)
  refine Wl.nil ?_
  refine Vc.blk ?_
  obtain ⟨I, μ, h0, hI⟩ := h
  refine Vc.loop' (σ := (Int)) (fun y => I y) (fun y => μ y) (fun y => envOf [(0, eL (AV.int .u32) a), (1, eL (AV.int .u32) b), (5, .int .i64 y)]) (fun y => stL S rg []) i (canon (fc vr (fc vr (fc vr (fn)))) (sn)) h0 (fun i1 h => ?_)
  replace h := hI i1 h
  show Vc _ _ _ _ (envOf [(0, eL (AV.int .u32) a), (1, eL (AV.int .u32) b), (5, .int .i64 i1)]) (stL S rg [])
  refine Vc.seq' ?_
  refine Vc.seq' ?_
  refine Vc.region' ?_
  refine Wl.cons rg (o_move (v := .int .i64 i1) rfl ?_)
  refine Wl.cons rg (o_geq rfl rfl ?_)
  refine Wl.nil ?_
  refine Vc.cond' rfl (fun hb => ?_) (fun hb => ?_)
  · replace h := h.1 hb
    refine Vc.skip' ?_
    refine Vc.seq' ?_
    refine Vc.blk ?_
    refine Vc.seq' ?_
    refine Vc.seq' ?_
    refine Vc.region' ?_
    refine Wl.cons rg (o_move (v := eL (AV.int .u32) a) rfl ?_)
    refine Wl.cons rg (o_move (v := .int .i64 i1) rfl ?_)
    refine Wl.cons rg (o_call (us := [eL (AV.int .u32) a, AV.int .i64 i1]) rfl (vl' vr (vl' vr (vn))) (ref01_word_ctr h fun r h => ?_))
    refine Wl.cons rg (o_move (v := eL (AV.int .u32) b) rfl ?_)
    refine Wl.cons rg (o_move (v := .int .i64 i1) rfl ?_)
    refine Wl.cons rg (o_call (us := [eL (AV.int .u32) b, AV.int .i64 i1]) rfl (vl' vr (vl' vr (vn))) (ref01_word_ctr h fun r1 h => ?_))
    refine Wl.cons rg (o_lss rfl rfl ?_)
    refine Wl.nil ?_
    refine Vc.cond' rfl (fun hb1 => ?_) (fun hb1 => ?_)
    · replace h := h.1 hb1
      refine Vc.seq' ?_
      refine Vc.region' ?_
      refine Wl.cons rg (o_assign (v := .int .i64 (-1)) rfl ?_)
      refine Wl.nil ?_
      refine Vc.ret' ?_
      refine res_tmp (v := .int .i64 (-1)) rfl ?_
      refine res_nil ?_
      show Gives _ (.int .i64 (-1)) _
      exact gives_out hrg (VW.refl _) (hQ _ h)
    · replace h := h.2 hb1
      refine Vc.skip' ?_
      refine Vc.seq' ?_
      refine Vc.region' ?_
      refine Wl.cons rg (o_move (v := eL (AV.int .u32) a) rfl ?_)
      refine Wl.cons rg (o_move (v := .int .i64 i1) rfl ?_)
      refine Wl.cons rg (o_call (us := [eL (AV.int .u32) a, AV.int .i64 i1]) rfl (vl' vr (vl' vr (vn))) (ref01_word_ctr h fun r2 h => ?_))
      refine Wl.cons rg (o_move (v := eL (AV.int .u32) b) rfl ?_)
      refine Wl.cons rg (o_move (v := .int .i64 i1) rfl ?_)
      refine Wl.cons rg (o_call (us := [eL (AV.int .u32) b, AV.int .i64 i1]) rfl (vl' vr (vl' vr (vn))) (ref01_word_ctr h fun r3 h => ?_))
      refine Wl.cons rg (o_gtr rfl rfl ?_)
      refine Wl.nil ?_
      refine Vc.cond' rfl (fun hb2 => ?_) (fun hb2 => ?_)
      · replace h := h.1 hb2
        refine Vc.seq' ?_
        refine Vc.region' ?_
        refine Wl.cons rg (o_assign (v := .int .i64 1) rfl ?_)
        refine Wl.nil ?_
        refine Vc.ret' ?_
        refine res_tmp (v := .int .i64 1) rfl ?_
        refine res_nil ?_
        show Gives _ (.int .i64 1) _
        exact gives_out hrg (VW.refl _) (hQ _ h)
      · replace h := h.2 hb2
        refine Vc.skip' ?_
        refine Vc.region' ?_
        refine Wl.cons rg (o_move (v := .int .i64 i1) rfl ?_)
        refine Wl.cons rg (o_subG rfl rfl h.1 ?_)
        replace h := h.2
        refine Wl.cons rg (o_assign (v := .int .i64 (i1 - 1)) rfl ?_)
        refine Wl.nil ?_
        exact ⟨(i1 - 1), (canon (fc vr (fc vr (fc vr (fn)))) (sn)), h⟩
  · replace h := h.2 hb
    refine Vc.exit' (exB_self ?_)
    refine Vc.seq' ?_
    refine Vc.region' ?_
    refine Wl.cons rg (o_assign (v := .int .i64 0) rfl ?_)
    refine Wl.nil ?_
    refine Vc.ret' ?_
    refine res_tmp (v := .int .i64 0) rfl ?_
    refine res_nil ?_
    show Gives _ (.int .i64 0) _
    exact gives_out hrg (VW.refl _) (hQ _ h)
theorem ref01_Sub_ctr {a : List Int} {b : List Int} {Q : List Int → Int → Prop} {S : St} {R : AV → St → Prop} (h : ref01_Sub_W a b Q) (hQ : ∀ r1 r2, Q r1 r2 → R (.tuple [eL (AV.int .u32) r1, AV.int .i64 r2]) S) :
    Ctr Try.prog 140 [eL (AV.int .u32) a, eL (AV.int .u32) b] S R := by
  unfold ref01_Sub_W at h
  refine enterT Try.func140 rfl Try.ntmps140 Try.results140 (by kernel_rfl) (fun rg hrg => ?_)
  refine Vc.seq' ?_
  refine Vc.region' ?_
  refine Wl.cons rg (o_assign (v := .nil) rfl ?_)
  refine Wl.cons rg (o_assign (v := .int .i64 0) rfl ?_)
  refine Wl.nil ?_
  refine Vc.seq' ?_
  refine Vc.seq' ?_
  refine Vc.region' ?_
  refine Wl.cons rg (o_move (v := eL (AV.int .u32) a) rfl ?_)
  refine Wl.cons rg (o_move (v := eL (AV.int .u32) b) rfl ?_)
  refine Wl.cons rg (o_call (us := [eL (AV.int .u32) a, eL (AV.int .u32) b]) rfl (vl' vr (vl' vr (vn))) (ref01_Cmp_ctr h fun r h => ?_))
  refine Wl.cons rg (o_lss rfl rfl ?_)
  refine Wl.nil ?_
  refine Vc.cond' rfl (fun hb => ?_) (fun hb => ?_)
  · replace h := h.1 hb
    refine Vc.seq' ?_
    refine Vc.region' ?_
    refine Wl.cons rg (o_assign (v := .nil) rfl ?_)
    refine Wl.cons rg (o_assign (v := .int .i64 3) rfl ?_)
    refine Wl.nil ?_
    refine Vc.ret' ?_
    refine res_tmp (v := .nil) rfl ?_
    refine res_tmp (v := .int .i64 3) rfl ?_
    refine res_nil ?_
    show Gives _ (.tuple [.nil, .int .i64 3]) _
    exact gives_out hrg (VW.tupL (vl' (VW.nilL) (vl' vr (vn)))) (hQ _ _ h)
  · replace h := h.2 hb
    refine Vc.skip' ?_
    refine Vc.seq' ?_
    refine Vc.region' ?_
    refine Wl.cons rg (o_assign (v := .nil) rfl ?_)
    refine Wl.nil ?_
    refine Vc.seq' ?_
    refine Vc.region' ?_
    refine Wl.cons rg (o_assign (v := .int .u64 0) rfl ?_)
    refine Wl.nil ?_
    refine Vc.seq' ?_
    refine Vc.seq' ?_
    refine Vc.region' ?_
    refine Wl.cons rg (o_move (v := eL (AV.int .u32) a) rfl ?_)
    refine Wl.cons rg (o_len td25 rfl ?_)
    refine Wl.cons rg (o_move (v := .int .i64 0) rfl ?_)
    refine Wl.nil ?_
    refine Vc.blk ?_
    refine Vc.mat 6 32 1 rfl (by decide) (fun g1 => ?_)
    obtain ⟨I, μ, h0, hI⟩ := h
    refine Vc.loop' (σ := ((Int × Int × (List Int)) × (Nat))) (fun y => I y.1) (fun y => μ y.1) (fun y => envOf [(0, eL (AV.int .u32) a), (1, eL (AV.int .u32) b), (6, .sl 1 rg 32 y.2 0 y.1.2.2.length), (7, .int .u64 y.1.1), (15, .int .i64 (a.length : Int)), (16, .int .i64 y.1.2.1)]) (fun y => stL S rg [(32, .arr 1 (List.map (AV.int .u32) y.1.2.2), y.2)]) ((0, 0, []), g1) (canon (fc vr (fc vr (fc (VW.slen (by first | rfl | simp only [len_set', len_rep'])) (fc vr (fc vr (fc vr (fn))))))) (sc rfl (sn))) h0 (fun y h => ?_)
    obtain ⟨⟨borrow, x, out⟩, g2⟩ := y
    replace h := hI (borrow, x, out) h
    show Vc _ _ _ _ (envOf [(0, eL (AV.int .u32) a), (1, eL (AV.int .u32) b), (6, .sl 1 rg 32 g2 0 out.length), (7, .int .u64 borrow), (15, .int .i64 (a.length : Int)), (16, .int .i64 x)]) (stL S rg [(32, .arr 1 (List.map (AV.int .u32) out), g2)])
    refine Vc.seq' ?_
    refine Vc.region' ?_
    refine Wl.cons rg (o_lss rfl rfl ?_)
    refine Wl.nil ?_
    refine Vc.seq' ?_
    refine Vc.cond' rfl (fun hb1 => ?_) (fun hb1 => ?_)
    · replace h := h.1 hb1
      refine Vc.skip' ?_
      refine Vc.seq' ?_
      refine Vc.blk ?_
      refine Vc.seq' ?_
      refine Vc.region' ?_
      refine Wl.cons rg (o_move (v := .int .i64 x) rfl ?_)
      refine Wl.cons rg (o_assign (v := .int .i64 x) rfl ?_)
      refine Wl.nil ?_
      refine Vc.seq' ?_
      refine Vc.region' ?_
      refine Wl.cons rg (o_move (v := eL (AV.int .u32) a) rfl ?_)
      refine Wl.cons rg (o_move (v := .int .i64 x) rfl ?_)
      refine Wl.cons rg (o_call (us := [eL (AV.int .u32) a, AV.int .i64 x]) rfl (vl' vr (vl' vr (vn))) (ref01_word_ctr h fun r1 h => ?_))
      refine Wl.cons rg (o_move (v := eL (AV.int .u32) b) rfl ?_)
      refine Wl.cons rg (o_move (v := .int .i64 x) rfl ?_)
      refine Wl.cons rg (o_call (us := [eL (AV.int .u32) b, AV.int .i64 x]) rfl (vl' vr (vl' vr (vn))) (ref01_word_ctr h fun r2 h => ?_))
      refine Wl.cons rg (o_sub rfl rfl ?_)
      refine Wl.cons rg (o_move (v := .int .u64 borrow) rfl ?_)
      refine Wl.cons rg (o_sub rfl rfl ?_)
      obtain ⟨s, hs⟩ : ∃ qz, qz = (IntKind.wrap .u64 ((IntKind.wrap .u64 (r1 - r2)) - borrow)) := ⟨_, rfl⟩
      replace h := h s hs
      refine Wl.cons rg (o_assign (v := .int .u64 s) (by subst hs; rfl) ?_)
      refine Wl.nil ?_
      refine Vc.seq' ?_
      refine Vc.region' ?_
      refine Wl.cons rg (o_move (v := .sl 1 rg 32 g2 0 out.length) rfl ?_)
      refine Wl.cons rg (o_move (v := .int .u64 s) rfl ?_)
      refine Wl.cons rg (o_conv td179 td173 rfl ?_)
      refine Wl.cons rg (o_bslice td25 ok173 zav173 (es := [.int .u32 (IntKind.wrap .u32 s)]) rfl (kk := 1) rfl rfl rfl rfl rfl rfl (fun g3 => ?_))
      refine Wl.cons rg (o_appR td25 bts173 ok173 zav173 (es := out) (xs := [(IntKind.wrap .u32 s)]) (enc := AV.int .u32) (atL (k := 32) rfl) (by first | rfl | simp only [len_set', len_rep']) (view_row (atL (k := 31) rfl) (by simp only [len_set', len_rep', List.length_map, List.length_append, List.length_cons, List.length_nil])) (kk := 1) rfl rfl (fun _ => rfl) (fun _ => rfl) h.1 rfl (fun _ => setL) (fun g4 => ?_))
      replace h := h.2
      refine Wl.cons rg (o_assign (v := .sl 1 rg 32 g4 0 ((out ++ [(IntKind.wrap .u32 s)]).length)) rfl ?_)
      refine Wl.nil ?_
      refine Vc.region' ?_
      refine Wl.cons rg (o_move (v := .int .u64 s) rfl ?_)
      refine Wl.cons rg (o_shr rfl rfl (by decide) ?_)
      refine Wl.cons rg (o_assign (v := .int .u64 (s / 2 ^ (Int.toNat 63))) rfl ?_)
      refine Wl.nil ?_
      refine Vc.region' ?_
      refine Wl.cons rg (o_addG rfl rfl h.1 ?_)
      replace h := h.2
      refine Wl.cons rg (o_move (v := .int .i64 (x + 1)) rfl ?_)
      refine Wl.nil ?_
      exact ⟨(((s / 2 ^ (Int.toNat 63)), (x + 1), (out ++ [(IntKind.wrap .u32 s)])), g4), (canon (fc vr (fc vr (fc vr (fc vr (fc vr (fc vr (fn))))))) (sc rfl (sn))), h⟩
    · replace h := h.2 hb1
      refine Vc.exit' (exB_self ?_)
      refine Vc.seq' ?_
      refine Vc.region' ?_
      refine Wl.cons rg (o_move (v := .sl 1 rg 32 g2 0 out.length) rfl ?_)
      refine Wl.wk (canon_freeze (k := 32) (xs := List.map (AV.int .u32) out) rfl (es := [(36, eL (AV.int .u32) out)]) (fc (frz_full rfl) (fn)) (m := []) (sn)) ?_
      refine Wl.cons rg (o_call (us := [eL (AV.int .u32) out]) rfl (vl' vr (vn)) (ref01_Trim_ctr h fun r3 h => ?_))
      refine Wl.cons rg (o_assign (v := eL (AV.int .u32) r3) rfl ?_)
      refine Wl.cons rg (o_assign (v := .int .i64 0) rfl ?_)
      refine Wl.nil ?_
      refine Vc.ret' ?_
      refine res_tmp (v := eL (AV.int .u32) r3) rfl ?_
      refine res_tmp (v := .int .i64 0) rfl ?_
      refine res_nil ?_
      show Gives _ (.tuple [eL (AV.int .u32) r3, .int .i64 0]) _
      exact gives_out hrg (VW.tupL (vl' vr (vl' vr (vn)))) (hQ _ _ h)
theorem ref01_up_ctr {a : List Int} {s : Int} {Q : List Int → Prop} {S : St} {R : AV → St → Prop} (h : ref01_up_W a s Q) (hQ : ∀ r1, Q r1 → R (eL (AV.int .u32) r1) S) :
    Ctr Try.prog 177 [eL (AV.int .u32) a, AV.int .i64 s] S R := by
  unfold ref01_up_W at h
  refine enterT Try.func177 rfl Try.ntmps177 Try.results177 (by kernel_rfl) (fun rg hrg => ?_)
  refine Vc.seq' ?_
  refine Vc.region' ?_
  refine Wl.cons rg (o_assign (v := .nil) rfl ?_)
  refine Wl.nil ?_
  refine Vc.seq' ?_
  refine Vc.region' ?_
  refine Wl.cons rg (o_assign (v := .nil) rfl ?_)
  refine Wl.nil ?_
  refine Vc.seq' ?_
  refine Vc.region' ?_
  refine Wl.cons rg (o_assign (v := .int .u64 0) rfl ?_)
  refine Wl.nil ?_
  refine Vc.seq' ?_
  refine Vc.seq' ?_
  refine Vc.region' ?_
  refine Wl.cons rg (o_move (v := eL (AV.int .u32) a) rfl ?_)
  refine Wl.cons rg (o_len td25 rfl ?_)
  refine Wl.cons rg (o_move (v := .int .i64 0) rfl ?_)
  refine Wl.nil ?_
  refine Vc.blk ?_
  refine Vc.mat 5 25 1 rfl (by decide) (fun g1 => ?_)
  obtain ⟨I, μ, h0, hI⟩ := h
  refine Vc.loop' (σ := ((Int × Int × (List Int)) × (Nat))) (fun y => I y.1) (fun y => μ y.1) (fun y => envOf [(1, .int .i64 s), (5, .sl 1 rg 25 y.2 0 y.1.2.2.length), (6, .int .u64 y.1.1), (9, eL (AV.int .u32) a), (10, .int .i64 (a.length : Int)), (11, .int .i64 y.1.2.1)]) (fun y => stL S rg [(25, .arr 1 (List.map (AV.int .u32) y.1.2.2), y.2)]) ((0, 0, []), g1) (canon (fc vr (fc (VW.slen (by first | rfl | simp only [len_set', len_rep'])) (fc vr (fc vr (fc vr (fc vr (fn))))))) (sc rfl (sn))) h0 (fun y h => ?_)
  obtain ⟨⟨carry, x, out⟩, g2⟩ := y
  replace h := hI (carry, x, out) h
  show Vc _ _ _ _ (envOf [(1, .int .i64 s), (5, .sl 1 rg 25 g2 0 out.length), (6, .int .u64 carry), (9, eL (AV.int .u32) a), (10, .int .i64 (a.length : Int)), (11, .int .i64 x)]) (stL S rg [(25, .arr 1 (List.map (AV.int .u32) out), g2)])
  refine Vc.seq' ?_
  refine Vc.region' ?_
  refine Wl.cons rg (o_lss rfl rfl ?_)
  refine Wl.nil ?_
  refine Vc.seq' ?_
  refine Vc.cond' rfl (fun hb => ?_) (fun hb => ?_)
  · replace h := h.1 hb
    refine Vc.skip' ?_
    refine Vc.seq' ?_
    refine Vc.blk ?_
    refine Vc.seq' ?_
    refine Vc.region' ?_
    refine Wl.cons rg (o_idxL td25 sz173 (by decide) (fun _ => rfl) rfl rfl h.1 ?_)
    replace h := h.2
    refine Wl.cons rg (o_loadI1 sz173 ag173 rfl rfl (v := .int .u32 (at' a x)) rfl ?_)
    refine Wl.cons rg (o_assign (v := .int .u32 (at' a x)) rfl ?_)
    refine Wl.nil ?_
    refine Vc.seq' ?_
    refine Vc.region' ?_
    refine Wl.cons rg (o_move (v := .int .u64 carry) rfl ?_)
    refine Wl.cons rg (o_move (v := .int .u32 (at' a x)) rfl ?_)
    refine Wl.cons rg (o_conv td173 td179 rfl ?_)
    refine Wl.cons rg (o_move (v := .int .i64 s) rfl ?_)
    refine Wl.cons rg (o_shl rfl rfl h.1 ?_)
    replace h := h.2
    refine Wl.cons rg (o_or rfl rfl ?_)
    obtain ⟨carry1, hs⟩ : ∃ qz, qz = (bits .or .u64 carry (IntKind.wrap .u64 ((IntKind.wrap .u64 (at' a x)) * 2 ^ (Int.toNat s)))) := ⟨_, rfl⟩
    replace h := h carry1 hs
    refine Wl.cons rg (o_assign (v := .int .u64 carry1) (by subst hs; rfl) ?_)
    refine Wl.nil ?_
    refine Vc.seq' ?_
    refine Vc.region' ?_
    refine Wl.cons rg (o_move (v := .sl 1 rg 25 g2 0 out.length) rfl ?_)
    refine Wl.cons rg (o_move (v := .int .u64 carry1) rfl ?_)
    refine Wl.cons rg (o_conv td179 td173 rfl ?_)
    refine Wl.cons rg (o_bslice td25 ok173 zav173 (es := [.int .u32 (IntKind.wrap .u32 carry1)]) rfl (kk := 1) rfl rfl rfl rfl rfl rfl (fun g3 => ?_))
    refine Wl.cons rg (o_appR td25 bts173 ok173 zav173 (es := out) (xs := [(IntKind.wrap .u32 carry1)]) (enc := AV.int .u32) (atL (k := 25) rfl) (by first | rfl | simp only [len_set', len_rep']) (view_row (atL (k := 24) rfl) (by simp only [len_set', len_rep', List.length_map, List.length_append, List.length_cons, List.length_nil])) (kk := 1) rfl rfl (fun _ => rfl) (fun _ => rfl) h.1 rfl (fun _ => setL) (fun g4 => ?_))
    replace h := h.2
    refine Wl.cons rg (o_assign (v := .sl 1 rg 25 g4 0 ((out ++ [(IntKind.wrap .u32 carry1)]).length)) rfl ?_)
    refine Wl.nil ?_
    refine Vc.region' ?_
    refine Wl.cons rg (o_move (v := .int .u64 carry1) rfl ?_)
    refine Wl.cons rg (o_shr rfl rfl (by decide) ?_)
    refine Wl.cons rg (o_assign (v := .int .u64 (carry1 / 2 ^ (Int.toNat 32))) rfl ?_)
    refine Wl.nil ?_
    refine Vc.region' ?_
    refine Wl.cons rg (o_addG rfl rfl h.1 ?_)
    replace h := h.2
    refine Wl.cons rg (o_move (v := .int .i64 (x + 1)) rfl ?_)
    refine Wl.nil ?_
    exact ⟨(((carry1 / 2 ^ (Int.toNat 32)), (x + 1), (out ++ [(IntKind.wrap .u32 carry1)])), g4), (canon (fc vr (fc vr (fc vr (fc vr (fc vr (fc vr (fn))))))) (sc rfl (sn))), h⟩
  · replace h := h.2 hb
    refine Vc.exit' (exB_self ?_)
    refine Vc.seq' ?_
    refine Vc.region' ?_
    refine Wl.cons rg (o_move (v := .sl 1 rg 25 g2 0 out.length) rfl ?_)
    refine Wl.cons rg (o_move (v := .int .u64 carry) rfl ?_)
    refine Wl.cons rg (o_conv td179 td173 rfl ?_)
    refine Wl.cons rg (o_bslice td25 ok173 zav173 (es := [.int .u32 (IntKind.wrap .u32 carry)]) rfl (kk := 1) rfl rfl rfl rfl rfl rfl (fun g5 => ?_))
    refine Wl.cons rg (o_appR td25 bts173 ok173 zav173 (es := out) (xs := [(IntKind.wrap .u32 carry)]) (enc := AV.int .u32) (atL (k := 25) rfl) (by first | rfl | simp only [len_set', len_rep']) (view_row (atL (k := 32) rfl) (by simp only [len_set', len_rep', List.length_map, List.length_append, List.length_cons, List.length_nil])) (kk := 1) rfl rfl (fun _ => rfl) (fun _ => rfl) h.1 rfl (fun _ => setL) (fun g6 => ?_))
    replace h := h.2
    refine Wl.wk (canon_freeze (k := 25) (xs := List.map (AV.int .u32) (out ++ [(IntKind.wrap .u32 carry)])) rfl (es := [(33, eL (AV.int .u32) (out ++ [(IntKind.wrap .u32 carry)]))]) (fc (frz_full rfl) (fn)) (m := []) (sn)) ?_
    refine Wl.cons rg (o_call (us := [eL (AV.int .u32) (out ++ [(IntKind.wrap .u32 carry)])]) rfl (vl' vr (vn)) (ref01_Trim_ctr h fun r h => ?_))
    refine Wl.cons rg (o_assign (v := eL (AV.int .u32) r) rfl ?_)
    refine Wl.nil ?_
    refine Vc.ret' ?_
    refine res_tmp (v := eL (AV.int .u32) r) rfl ?_
    refine res_nil ?_
    show Gives _ (eL (AV.int .u32) r) _
    exact gives_out hrg (VW.refl _) (hQ _ h)
theorem ref01_down_ctr {a : List Int} {s : Int} {Q : List Int → Prop} {S : St} {R : AV → St → Prop} (h : ref01_down_W a s Q) (hQ : ∀ r1, Q r1 → R (eL (AV.int .u32) r1) S) :
    Ctr Try.prog 178 [eL (AV.int .u32) a, AV.int .i64 s] S R := by
  unfold ref01_down_W at h
  refine enterT Try.func178 rfl Try.ntmps178 Try.results178 (by kernel_rfl) (fun rg hrg => ?_)
  refine Vc.seq' ?_
  refine Vc.region' ?_
  refine Wl.cons rg (o_assign (v := .nil) rfl ?_)
  refine Wl.nil ?_
  refine Vc.seq' ?_
  refine Vc.region' ?_
  refine Wl.cons rg (o_assign (v := .nil) rfl ?_)
  refine Wl.nil ?_
  refine Vc.seq' ?_
  refine Vc.seq' ?_
  refine Vc.region' ?_
  refine Wl.cons rg (o_move (v := eL (AV.int .u32) a) rfl ?_)
  refine Wl.cons rg (o_len td25 rfl ?_)
  refine Wl.cons rg (o_move (v := .int .i64 0) rfl ?_)
  refine Wl.nil ?_
  refine Vc.blk ?_
  refine Vc.mat 5 26 1 rfl (by decide) (fun g1 => ?_)
  obtain ⟨I, μ, h0, hI⟩ := h
  refine Vc.loop' (σ := ((Int × (List Int)) × (Nat))) (fun y => I y.1) (fun y => μ y.1) (fun y => envOf [(0, eL (AV.int .u32) a), (1, .int .i64 s), (5, .sl 1 rg 26 y.2 0 y.1.2.length), (8, .int .i64 (a.length : Int)), (9, .int .i64 y.1.1)]) (fun y => stL S rg [(26, .arr 1 (List.map (AV.int .u32) y.1.2), y.2)]) ((0, []), g1) (canon (fc vr (fc vr (fc (VW.slen (by first | rfl | simp only [len_set', len_rep'])) (fc vr (fc vr (fn)))))) (sc rfl (sn))) h0 (fun y h => ?_)
  obtain ⟨⟨x, out⟩, g2⟩ := y
  replace h := hI (x, out) h
  show Vc _ _ _ _ (envOf [(0, eL (AV.int .u32) a), (1, .int .i64 s), (5, .sl 1 rg 26 g2 0 out.length), (8, .int .i64 (a.length : Int)), (9, .int .i64 x)]) (stL S rg [(26, .arr 1 (List.map (AV.int .u32) out), g2)])
  refine Vc.seq' ?_
  refine Vc.region' ?_
  refine Wl.cons rg (o_lss rfl rfl ?_)
  refine Wl.nil ?_
  refine Vc.seq' ?_
  refine Vc.cond' rfl (fun hb => ?_) (fun hb => ?_)
  · replace h := h.1 hb
    refine Vc.skip' ?_
    refine Vc.seq' ?_
    refine Vc.blk ?_
    refine Vc.seq' ?_
    refine Vc.region' ?_
    refine Wl.cons rg (o_move (v := .int .i64 x) rfl ?_)
    refine Wl.cons rg (o_assign (v := .int .i64 x) rfl ?_)
    refine Wl.nil ?_
    refine Vc.region' ?_
    refine Wl.cons rg (o_move (v := .sl 1 rg 26 g2 0 out.length) rfl ?_)
    refine Wl.cons rg (o_move (v := eL (AV.int .u32) a) rfl ?_)
    refine Wl.cons rg (o_move (v := .int .i64 x) rfl ?_)
    refine Wl.cons rg (o_call (us := [eL (AV.int .u32) a, AV.int .i64 x]) rfl (vl' vr (vl' vr (vn))) (ref01_word_ctr h fun r h => ?_))
    refine Wl.cons rg (o_move (v := eL (AV.int .u32) a) rfl ?_)
    refine Wl.cons rg (o_move (v := .int .i64 x) rfl ?_)
    refine Wl.cons rg (o_addG rfl rfl h.1 ?_)
    replace h := h.2
    refine Wl.cons rg (o_call (us := [eL (AV.int .u32) a, AV.int .i64 (x + 1)]) rfl (vl' vr (vl' vr (vn))) (ref01_word_ctr h fun r1 h => ?_))
    refine Wl.cons rg (o_shl rfl rfl (by decide) ?_)
    refine Wl.cons rg (o_or rfl rfl ?_)
    refine Wl.cons rg (o_move (v := .int .i64 s) rfl ?_)
    refine Wl.cons rg (o_shr rfl rfl h.1 ?_)
    replace h := h.2
    refine Wl.cons rg (o_conv td179 td173 rfl ?_)
    refine Wl.cons rg (o_bslice td25 ok173 zav173 (es := [.int .u32 (IntKind.wrap .u32 ((bits .or .u64 r (IntKind.wrap .u64 (r1 * 2 ^ (Int.toNat 32)))) / 2 ^ (Int.toNat s)))]) rfl (kk := 1) rfl rfl rfl rfl rfl rfl (fun g3 => ?_))
    refine Wl.cons rg (o_appR td25 bts173 ok173 zav173 (es := out) (xs := [(IntKind.wrap .u32 ((bits .or .u64 r (IntKind.wrap .u64 (r1 * 2 ^ (Int.toNat 32)))) / 2 ^ (Int.toNat s)))]) (enc := AV.int .u32) (atL (k := 26) rfl) (by first | rfl | simp only [len_set', len_rep']) (view_row (atL (k := 25) rfl) (by simp only [len_set', len_rep', List.length_map, List.length_append, List.length_cons, List.length_nil])) (kk := 1) rfl rfl (fun _ => rfl) (fun _ => rfl) h.1 rfl (fun _ => setL) (fun g4 => ?_))
    replace h := h.2
    refine Wl.cons rg (o_assign (v := .sl 1 rg 26 g4 0 ((out ++ [(IntKind.wrap .u32 ((bits .or .u64 r (IntKind.wrap .u64 (r1 * 2 ^ (Int.toNat 32)))) / 2 ^ (Int.toNat s)))]).length)) rfl ?_)
    refine Wl.nil ?_
    refine Vc.region' ?_
    refine Wl.cons rg (o_addG rfl rfl h.1 ?_)
    replace h := h.2
    refine Wl.cons rg (o_move (v := .int .i64 (x + 1)) rfl ?_)
    refine Wl.nil ?_
    exact ⟨(((x + 1), (out ++ [(IntKind.wrap .u32 ((bits .or .u64 r (IntKind.wrap .u64 (r1 * 2 ^ (Int.toNat 32)))) / 2 ^ (Int.toNat s)))])), g4), (canon (fc vr (fc vr (fc vr (fc vr (fc vr (fn)))))) (sc rfl (sn))), h⟩
  · replace h := h.2 hb
    refine Vc.exit' (exB_self ?_)
    refine Vc.seq' ?_
    refine Vc.region' ?_
    refine Wl.cons rg (o_move (v := .sl 1 rg 26 g2 0 out.length) rfl ?_)
    refine Wl.wk (canon_freeze (k := 26) (xs := List.map (AV.int .u32) out) rfl (es := [(28, eL (AV.int .u32) out)]) (fc (frz_full rfl) (fn)) (m := []) (sn)) ?_
    refine Wl.cons rg (o_call (us := [eL (AV.int .u32) out]) rfl (vl' vr (vn)) (ref01_Trim_ctr h fun r2 h => ?_))
    refine Wl.cons rg (o_assign (v := eL (AV.int .u32) r2) rfl ?_)
    refine Wl.nil ?_
    refine Vc.ret' ?_
    refine res_tmp (v := eL (AV.int .u32) r2) rfl ?_
    refine res_nil ?_
    show Gives _ (eL (AV.int .u32) r2) _
    exact gives_out hrg (VW.refl _) (hQ _ h)
theorem ref01_Div_ctr {a : List Int} {b : List Int} {Q : List Int → List Int → Int → Prop} {S : St} {R : AV → St → Prop} (h : ref01_Div_W a b Q) (hQ : ∀ r1 r2 r3, Q r1 r2 r3 → R (.tuple [eL (AV.int .u32) r1, eL (AV.int .u32) r2, AV.int .i64 r3]) S) :
    Ctr Try.prog 166 [eL (AV.int .u32) a, eL (AV.int .u32) b] S R := by
  unfold ref01_Div_W at h
  refine enterT Try.func166 rfl Try.ntmps166 Try.results166 (by kernel_rfl) (fun rg hrg => ?_)
  refine Vc.seq' ?_
  refine Vc.region' ?_
  refine Wl.cons rg (o_assign (v := .nil) rfl ?_)
  refine Wl.cons rg (o_assign (v := .nil) rfl ?_)
  refine Wl.cons rg (o_assign (v := .int .i64 0) rfl ?_)
  refine Wl.nil ?_
  refine Vc.seq' ?_
  refine Vc.region' ?_
  refine Wl.cons rg (o_move (v := eL (AV.int .u32) b) rfl ?_)
  refine Wl.cons rg (o_call (us := [eL (AV.int .u32) b]) rfl (vl' vr (vn)) (ref01_Trim_ctr h fun b1 h => ?_))
  refine Wl.cons rg (o_assign (v := eL (AV.int .u32) b1) rfl ?_)
  refine Wl.nil ?_
  refine Vc.seq' ?_
  refine Vc.region' ?_
  refine Wl.cons rg (o_move (v := eL (AV.int .u32) b1) rfl ?_)
  refine Wl.cons rg (o_len td25 rfl ?_)
  refine Wl.cons rg (o_assign (v := .int .i64 (b1.length : Int)) rfl ?_)
  refine Wl.nil ?_
  refine Vc.seq' ?_
  refine Vc.seq' ?_
  refine Vc.region' ?_
  refine Wl.cons rg (o_move (v := .int .i64 (b1.length : Int)) rfl ?_)
  refine Wl.cons rg (o_eql rfl rfl ?_)
  refine Wl.nil ?_
  refine Vc.cond' rfl (fun hb => ?_) (fun hb => ?_)
  · replace h := h.1 hb
    refine Vc.seq' ?_
    refine Vc.region' ?_
    refine Wl.cons rg (o_assign (v := .nil) rfl ?_)
    refine Wl.cons rg (o_assign (v := .nil) rfl ?_)
    refine Wl.cons rg (o_assign (v := .int .i64 8) rfl ?_)
    refine Wl.nil ?_
    refine Vc.ret' ?_
    refine res_tmp (v := .nil) rfl ?_
    refine res_tmp (v := .nil) rfl ?_
    refine res_tmp (v := .int .i64 8) rfl ?_
    refine res_nil ?_
    show Gives _ (.tuple [.nil, .nil, .int .i64 8]) _
    exact gives_out hrg (VW.tupL (vl' (VW.nilL) (vl' (VW.nilL) (vl' vr (vn))))) (hQ _ _ _ h)
  · replace h := h.2 hb
    refine Vc.skip' ?_
    refine Vc.seq' ?_
    refine Vc.region' ?_
    refine Wl.cons rg (o_assign (v := .int .i64 0) rfl ?_)
    refine Wl.nil ?_
    refine Vc.seq' ?_
    refine Vc.blk ?_
    obtain ⟨I, μ, h0, hI⟩ := h
    refine Vc.loop' (σ := (Int)) (fun y => I y) (fun y => μ y) (fun y => envOf [(0, eL (AV.int .u32) a), (1, eL (AV.int .u32) b1), (7, .int .i64 (b1.length : Int)), (8, .int .i64 y)]) (fun y => stL S rg []) 0 (canon (fc vr (fc vr (fc vr (fc vr (fn))))) (sn)) h0 (fun s h => ?_)
    replace h := hI s h
    show Vc _ _ _ _ (envOf [(0, eL (AV.int .u32) a), (1, eL (AV.int .u32) b1), (7, .int .i64 (b1.length : Int)), (8, .int .i64 s)]) (stL S rg [])
    refine Vc.seq' ?_
    refine Vc.seq' ?_
    refine Vc.region' ?_
    refine Wl.cons rg (o_move (v := eL (AV.int .u32) b1) rfl ?_)
    refine Wl.cons rg (o_move (v := .int .i64 (b1.length : Int)) rfl ?_)
    refine Wl.cons rg (o_subG rfl rfl h.1 ?_)
    replace h := h.2
    refine Wl.cons rg (o_idxL td25 sz173 (by decide) (fun _ => rfl) rfl rfl h.1 ?_)
    replace h := h.2
    refine Wl.cons rg (o_loadI1 sz173 ag173 rfl rfl (v := .int .u32 (at' b1 ((b1.length : Int) - 1))) rfl ?_)
    refine Wl.cons rg (o_move (v := .int .i64 s) rfl ?_)
    refine Wl.cons rg (o_shl rfl rfl h.1 ?_)
    replace h := h.2
    refine Wl.cons rg (o_and rfl rfl ?_)
    refine Wl.cons rg (o_eql rfl rfl ?_)
    refine Wl.nil ?_
    refine Vc.cond' rfl (fun hb1 => ?_) (fun hb1 => ?_)
    · replace h := h.1 hb1
      refine Vc.skip' ?_
      refine Vc.blk ?_
      refine Vc.region' ?_
      refine Wl.cons rg (o_move (v := .int .i64 s) rfl ?_)
      refine Wl.cons rg (o_addG rfl rfl h.1 ?_)
      replace h := h.2
      refine Wl.cons rg (o_assign (v := .int .i64 (s + 1)) rfl ?_)
      refine Wl.nil ?_
      exact ⟨(s + 1), (canon (fc vr (fc vr (fc vr (fc vr (fn))))) (sn)), h⟩
    · replace h := h.2 hb1
      refine Vc.exit' (exB_self ?_)
      refine Vc.seq' ?_
      refine Vc.region' ?_
      refine Wl.cons rg (o_move (v := eL (AV.int .u32) a) rfl ?_)
      refine Wl.cons rg (o_move (v := .int .i64 s) rfl ?_)
      refine Wl.cons rg (o_call (us := [eL (AV.int .u32) a, AV.int .i64 s]) rfl (vl' vr (vl' vr (vn))) (ref01_up_ctr h fun a1 h => ?_))
      refine Wl.cons rg (o_move (v := eL (AV.int .u32) b1) rfl ?_)
      refine Wl.cons rg (o_move (v := .int .i64 s) rfl ?_)
      refine Wl.cons rg (o_call (us := [eL (AV.int .u32) b1, AV.int .i64 s]) rfl (vl' vr (vl' vr (vn))) (ref01_up_ctr h fun b2 h => ?_))
      refine Wl.cons rg (o_assign (v := eL (AV.int .u32) a1) rfl ?_)
      refine Wl.cons rg (o_assign (v := eL (AV.int .u32) b2) rfl ?_)
      refine Wl.nil ?_
      refine Vc.seq' ?_
      have hg := h.1
      replace h := h.2
      have hg1 := h.1
      replace h := h.2
      have hg2 := h.1
      replace h := h.2
      have hg3 := h.1
      replace h := h.2
      have hg4 := h.1
      replace h := h.2
      refine Vc.drawn' mixed rg (fun _ => jcr) (by kernel_rfl) ?_
      refine dP rfl rfl (o_move (v := eL (AV.int .u32) a1) rfl ?_)
      refine dP rfl rfl (o_len td25 rfl ?_)
      refine dL (E := ([], some (rg, 39))) rfl rfl (by simp) (cfn) (o_make td25 bts173 ok173 (enc := AV.int .u32) (z' := 0) zav173 (kk := 1) rfl rfl rfl hg (fun g1 => ?_))
      refine dL (E := ([], some (rg, 40))) rfl rfl (by simp) (cfa (by simp [apartE]) (cfn)) (o_bslice td25 ok173 zav173 (es := []) rfl (kk := 1) rfl rfl rfl rfl rfl rfl (fun g2 => ?_))
      refine dP rfl rfl (o_move (v := eL (AV.int .u32) a1) rfl ?_)
      refine dP rfl rfl (o_move (v := eL (AV.int .u32) a1) rfl ?_)
      refine dP rfl rfl (o_len td25 rfl ?_)
      refine dP rfl rfl (o_move (v := .int .i64 (b1.length : Int)) rfl ?_)
      refine dP rfl rfl (o_subG rfl rfl hg1 ?_)
      refine dP rfl rfl (o_addG rfl rfl hg2 ?_)
      refine dP rfl rfl (o_max rfl rfl ?_)
      refine dP rfl rfl (o_sliceL td25 sz173 (by decide) (fun _ => rfl) rfl (l := (max 0 (((a1.length : Int) - (b1.length : Int)) + 1))) (h := (a1.length : Int)) rfl rfl hg3 ?_)
      refine dL (E := ([], some (rg, 40))) rfl rfl (by simp) (cfo (by kernel_rfl) (cfa (by simp [apartE]) (cfn))) (o_appR td25 bts173 ok173 zav173 (es := []) (xs := (sub' a1 (max 0 (((a1.length : Int) - (b1.length : Int)) + 1)) (a1.length : Int))) (enc := AV.int .u32) (atL (k := 40) rfl) (by first | rfl | simp only [len_set', len_rep']) (rfl) (kk := 1) rfl rfl (fun _ => rfl) (fun _ => rfl) hg4 rfl (fun _ => setL) (fun g3 => ?_))
      refine dP rfl rfl (o_assign (v := .sl 1 rg 39 g1 0 (Int.toNat (a1.length : Int))) rfl ?_)
      refine dP rfl rfl (o_assign (v := .sl 1 rg 40 g3 0 (([] ++ (sub' a1 (max 0 (((a1.length : Int) - (b1.length : Int)) + 1)) (a1.length : Int))).length)) rfl ?_)
      refine dN ?_
      refine Vc.seq' ?_
      refine Vc.seq' ?_
      refine Vc.region' ?_
      refine Wl.cons rg (o_move (v := eL (AV.int .u32) a1) rfl ?_)
      refine Wl.cons rg (o_len td25 rfl ?_)
      refine Wl.cons rg (o_move (v := .int .i64 (b1.length : Int)) rfl ?_)
      refine Wl.cons rg (o_subG rfl rfl h.1 ?_)
      replace h := h.2
      refine Wl.cons rg (o_assign (v := .int .i64 ((a1.length : Int) - (b1.length : Int))) rfl ?_)
      refine Wl.nil ?_
      refine Vc.blk ?_
      refine Vc.wk (canon_freeze (k := 40) (xs := List.map (AV.int .u32) ([] ++ (sub' a1 (max 0 (((a1.length : Int) - (b1.length : Int)) + 1)) (a1.length : Int)))) rfl (es := [(0, eL (AV.int .u32) a1), (1, eL (AV.int .u32) b2), (7, .int .i64 (b1.length : Int)), (8, .int .i64 s), (9, .sl 1 rg 39 g1 0 (Int.toNat (a1.length : Int))), (10, eL (AV.int .u32) ([] ++ (sub' a1 (max 0 (((a1.length : Int) - (b1.length : Int)) + 1)) (a1.length : Int)))), (11, .int .i64 ((a1.length : Int) - (b1.length : Int)))]) (fc vr (fc vr (fc vr (fc vr (fc (frz_ne rfl) (fc (frz_full rfl) (fc vr (fn)))))))) (m := [(39, .arr 1 (List.map (AV.int .u32) (rep' (a1.length : Int) 0)), g1)]) (sc rfl (sn))) ?_
      obtain ⟨I, μ, h0, hI⟩ := h
      refine Vc.loop' (σ := ((List Int) × Int × (List Int))) (fun y => I y) (fun y => μ y) (fun y => envOf [(0, eL (AV.int .u32) a1), (1, eL (AV.int .u32) b2), (7, .int .i64 (b1.length : Int)), (8, .int .i64 s), (9, .sl 1 rg 39 g1 0 y.2.2.length), (10, eL (AV.int .u32) y.1), (11, .int .i64 y.2.1)]) (fun y => stL S rg [(39, .arr 1 (List.map (AV.int .u32) y.2.2), g1)]) (([] ++ (sub' a1 (max 0 (((a1.length : Int) - (b1.length : Int)) + 1)) (a1.length : Int))), ((a1.length : Int) - (b1.length : Int)), (rep' (a1.length : Int) 0)) (canon (fc vr (fc vr (fc vr (fc vr (fc (VW.slen (by first | rfl | simp only [len_set', len_rep'])) (fc vr (fc vr (fn)))))))) (sc rfl (sn))) h0 (fun y h => ?_)
      obtain ⟨r, i, q⟩ := y
      replace h := hI (r, i, q) h
      show Vc _ _ _ _ (envOf [(0, eL (AV.int .u32) a1), (1, eL (AV.int .u32) b2), (7, .int .i64 (b1.length : Int)), (8, .int .i64 s), (9, .sl 1 rg 39 g1 0 q.length), (10, eL (AV.int .u32) r), (11, .int .i64 i)]) (stL S rg [(39, .arr 1 (List.map (AV.int .u32) q), g1)])
      refine Vc.seq' ?_
      refine Vc.seq' ?_
      refine Vc.region' ?_
      refine Wl.cons rg (o_move (v := .int .i64 i) rfl ?_)
      refine Wl.cons rg (o_geq rfl rfl ?_)
      refine Wl.nil ?_
      refine Vc.cond' rfl (fun hb2 => ?_) (fun hb2 => ?_)
      · replace h := h.1 hb2
        refine Vc.skip' ?_
        refine Vc.seq' ?_
        refine Vc.blk ?_
        refine Vc.seq' ?_
        refine Vc.region' ?_
        refine Wl.cons rg (o_move (v := eL (AV.int .u32) a1) rfl ?_)
        refine Wl.cons rg (o_move (v := .int .i64 i) rfl ?_)
        refine Wl.cons rg (o_idxL td25 sz173 (by decide) (fun _ => rfl) rfl rfl h.1 ?_)
        replace h := h.2
        refine Wl.cons rg (o_loadI1 sz173 ag173 rfl rfl (v := .int .u32 (at' a1 i)) rfl ?_)
        refine Wl.cons rg (o_bslice td25 ok173 zav173 (es := [.int .u32 (at' a1 i)]) rfl (kk := 1) rfl rfl rfl rfl rfl rfl (fun g4 => ?_))
        refine Wl.cons rg (o_move (v := eL (AV.int .u32) r) rfl ?_)
        refine Wl.cons rg (o_appR td25 bts173 ok173 zav173 (es := [(at' a1 i)]) (xs := r) (enc := AV.int .u32) (atL (k := 62) rfl) (by first | rfl | simp only [len_set', len_rep']) (rfl) (kk := 1) rfl rfl (fun _ => rfl) (fun _ => rfl) h.1 rfl (fun _ => setL) (fun g5 => ?_))
        replace h := h.2
        refine Wl.wk (canon_freeze (k := 62) (xs := List.map (AV.int .u32) ([(at' a1 i)] ++ r)) rfl (es := [(0, eL (AV.int .u32) a1), (1, eL (AV.int .u32) b2), (7, .int .i64 (b1.length : Int)), (8, .int .i64 s), (9, .sl 1 rg 39 g1 0 q.length), (11, .int .i64 i), (64, eL (AV.int .u32) ([(at' a1 i)] ++ r))]) (fc vr (fc vr (fc vr (fc vr (fc (frz_ne rfl) (fc vr (fc (frz_full rfl) (fn)))))))) (m := [(39, .arr 1 (List.map (AV.int .u32) q), g1)]) (sc rfl (sn))) ?_
        refine Wl.cons rg (o_call (us := [eL (AV.int .u32) ([(at' a1 i)] ++ r)]) rfl (vl' vr (vn)) (ref01_Trim_ctr h fun r1 h => ?_))
        refine Wl.cons rg (o_assign (v := eL (AV.int .u32) r1) rfl ?_)
        refine Wl.nil ?_
        refine Vc.seq' ?_
        refine Vc.region' ?_
        refine Wl.cons rg (o_move (v := eL (AV.int .u32) r1) rfl ?_)
        refine Wl.cons rg (o_move (v := .int .i64 (b1.length : Int)) rfl ?_)
        refine Wl.cons rg (o_call (us := [eL (AV.int .u32) r1, AV.int .i64 (b1.length : Int)]) rfl (vl' vr (vl' vr (vn))) (ref01_word_ctr h fun r2 h => ?_))
        refine Wl.cons rg (o_shl rfl rfl (by decide) ?_)
        refine Wl.cons rg (o_move (v := eL (AV.int .u32) r1) rfl ?_)
        refine Wl.cons rg (o_move (v := .int .i64 (b1.length : Int)) rfl ?_)
        refine Wl.cons rg (o_subG rfl rfl h.1 ?_)
        replace h := h.2
        refine Wl.cons rg (o_call (us := [eL (AV.int .u32) r1, AV.int .i64 ((b1.length : Int) - 1)]) rfl (vl' vr (vl' vr (vn))) (ref01_word_ctr h fun r3 h => ?_))
        refine Wl.cons rg (o_or rfl rfl ?_)
        refine Wl.cons rg (o_move (v := eL (AV.int .u32) b2) rfl ?_)
        refine Wl.cons rg (o_move (v := .int .i64 (b1.length : Int)) rfl ?_)
        refine Wl.cons rg (o_subG rfl rfl h.1 ?_)
        replace h := h.2
        refine Wl.cons rg (o_call (us := [eL (AV.int .u32) b2, AV.int .i64 ((b1.length : Int) - 1)]) rfl (vl' vr (vl' vr (vn))) (ref01_word_ctr h fun r4 h => ?_))
        refine Wl.cons rg (o_quo rfl rfl h.1 ?_)
        replace h := h.2
        refine Wl.cons rg (o_min rfl rfl ?_)
        obtain ⟨guess, hs⟩ : ∃ qz, qz = (min (IntKind.wrap .u64 (Int.tdiv (bits .or .u64 (IntKind.wrap .u64 (r2 * 2 ^ (Int.toNat 32))) r3) r4)) 4294967295) := ⟨_, rfl⟩
        replace h := h guess hs
        refine Wl.cons rg (o_assign (v := .int .u64 guess) (by subst hs; rfl) ?_)
        refine Wl.nil ?_
        refine Vc.seq' ?_
        refine Vc.region' ?_
        refine Wl.cons rg (o_move (v := eL (AV.int .u32) b2) rfl ?_)
        refine Wl.cons rg (o_move (v := .int .u64 guess) rfl ?_)
        refine Wl.cons rg (o_conv td179 td173 rfl ?_)
        refine Wl.cons rg (o_bslice td25 ok173 zav173 (es := [.int .u32 (IntKind.wrap .u32 guess)]) rfl (kk := 1) rfl rfl rfl rfl rfl rfl (fun g6 => ?_))
        refine Wl.wk (canon_freeze (k := 84) (xs := List.map (AV.int .u32) [(IntKind.wrap .u32 guess)]) rfl (es := [(0, eL (AV.int .u32) a1), (1, eL (AV.int .u32) b2), (7, .int .i64 (b1.length : Int)), (8, .int .i64 s), (9, .sl 1 rg 39 g1 0 q.length), (10, eL (AV.int .u32) r1), (11, .int .i64 i), (12, .int .u64 guess), (81, eL (AV.int .u32) b2), (84, eL (AV.int .u32) [(IntKind.wrap .u32 guess)])]) (fc vr (fc vr (fc vr (fc vr (fc (frz_ne rfl) (fc vr (fc vr (fc vr (fc vr (fc (frz_full rfl) (fn))))))))))) (m := [(39, .arr 1 (List.map (AV.int .u32) q), g1)]) (sc rfl (sn))) ?_
        refine Wl.cons rg (o_call (us := [eL (AV.int .u32) b2, eL (AV.int .u32) [(IntKind.wrap .u32 guess)]]) rfl (vl' vr (vl' vr (vn))) (ref01_Mul_ctr h fun p h => ?_))
        refine Wl.cons rg (o_assign (v := eL (AV.int .u32) p) rfl ?_)
        refine Wl.nil ?_
        refine Vc.seq' ?_
        refine Vc.blk ?_
        obtain ⟨I, μ, h0, hI⟩ := h
        refine Vc.loop' (σ := (Int × (List Int))) (fun y => I y) (fun y => μ y) (fun y => envOf [(0, eL (AV.int .u32) a1), (1, eL (AV.int .u32) b2), (7, .int .i64 (b1.length : Int)), (8, .int .i64 s), (9, .sl 1 rg 39 g1 0 q.length), (10, eL (AV.int .u32) r1), (11, .int .i64 i), (12, .int .u64 y.1), (13, eL (AV.int .u32) y.2)]) (fun y => stL S rg [(39, .arr 1 (List.map (AV.int .u32) q), g1)]) (guess, p) (canon (fc vr (fc vr (fc vr (fc vr (fc vr (fc vr (fc vr (fc vr (fc vr (fn)))))))))) (sc rfl (sn))) h0 (fun y h => ?_)
        obtain ⟨guess1, p1⟩ := y
        replace h := hI (guess1, p1) h
        show Vc _ _ _ _ (envOf [(0, eL (AV.int .u32) a1), (1, eL (AV.int .u32) b2), (7, .int .i64 (b1.length : Int)), (8, .int .i64 s), (9, .sl 1 rg 39 g1 0 q.length), (10, eL (AV.int .u32) r1), (11, .int .i64 i), (12, .int .u64 guess1), (13, eL (AV.int .u32) p1)]) (stL S rg [(39, .arr 1 (List.map (AV.int .u32) q), g1)])
        refine Vc.seq' ?_
        refine Vc.seq' ?_
        refine Vc.region' ?_
        refine Wl.cons rg (o_move (v := eL (AV.int .u32) p1) rfl ?_)
        refine Wl.cons rg (o_move (v := eL (AV.int .u32) r1) rfl ?_)
        refine Wl.cons rg (o_call (us := [eL (AV.int .u32) p1, eL (AV.int .u32) r1]) rfl (vl' vr (vl' vr (vn))) (ref01_Cmp_ctr h fun r5 h => ?_))
        refine Wl.cons rg (o_gtr rfl rfl ?_)
        refine Wl.nil ?_
        refine Vc.cond' rfl (fun hb3 => ?_) (fun hb3 => ?_)
        · replace h := h.1 hb3
          refine Vc.skip' ?_
          refine Vc.blk ?_
          refine Vc.seq' ?_
          refine Vc.region' ?_
          refine Wl.cons rg (o_move (v := .int .u64 guess1) rfl ?_)
          refine Wl.cons rg (o_sub rfl rfl ?_)
          refine Wl.cons rg (o_assign (v := .int .u64 (IntKind.wrap .u64 (guess1 - 1))) rfl ?_)
          refine Wl.nil ?_
          refine Vc.region' ?_
          refine Wl.cons rg (o_move (v := eL (AV.int .u32) p1) rfl ?_)
          refine Wl.cons rg (o_move (v := eL (AV.int .u32) b2) rfl ?_)
          refine Wl.cons rg (o_call (us := [eL (AV.int .u32) p1, eL (AV.int .u32) b2]) rfl (vl' vr (vl' vr (vn))) (ref01_Sub_ctr h fun r6 r7 h => ?_))
          refine Wl.cons rg (o_move (v := .tuple [eL (AV.int .u32) r6, .int .i64 r7]) rfl ?_)
          refine Wl.cons rg (o_extract (v := eL (AV.int .u32) r6) rfl rfl rfl ?_)
          refine Wl.cons rg (o_extract (v := .int .i64 r7) rfl rfl rfl ?_)
          refine Wl.cons rg (o_assign (v := eL (AV.int .u32) r6) rfl ?_)
          refine Wl.nil ?_
          exact ⟨((IntKind.wrap .u64 (guess1 - 1)), r6), (canon (fc vr (fc vr (fc vr (fc vr (fc vr (fc vr (fc vr (fc vr (fc vr (fn)))))))))) (sc rfl (sn))), h⟩
        · replace h := h.2 hb3
          refine Vc.exit' (exB_self ?_)
          refine Vc.seq' ?_
          refine Vc.region' ?_
          refine Wl.cons rg (o_move (v := eL (AV.int .u32) r1) rfl ?_)
          refine Wl.cons rg (o_move (v := eL (AV.int .u32) p1) rfl ?_)
          refine Wl.cons rg (o_call (us := [eL (AV.int .u32) r1, eL (AV.int .u32) p1]) rfl (vl' vr (vl' vr (vn))) (ref01_Sub_ctr h fun r8 r9 h => ?_))
          refine Wl.cons rg (o_move (v := .tuple [eL (AV.int .u32) r8, .int .i64 r9]) rfl ?_)
          refine Wl.cons rg (o_extract (v := eL (AV.int .u32) r8) rfl rfl rfl ?_)
          refine Wl.cons rg (o_extract (v := .int .i64 r9) rfl rfl rfl ?_)
          refine Wl.cons rg (o_assign (v := eL (AV.int .u32) r8) rfl ?_)
          refine Wl.nil ?_
          refine Vc.region' ?_
          refine Wl.cons rg (o_move (v := .sl 1 rg 39 g1 0 q.length) rfl ?_)
          refine Wl.cons rg (o_move (v := .int .i64 i) rfl ?_)
          refine Wl.cons rg (o_move (v := .int .u64 guess1) rfl ?_)
          refine Wl.cons rg (o_conv td179 td173 rfl ?_)
          refine Wl.cons rg (o_idxR0 td25 sz173 (by decide) rfl rfl h.1 ?_)
          have hi := h.1
          replace h := h.2
          refine Wl.cons rg (o_storeR1 (atL (k := 39) rfl) sz173 (by decide) (x' := (IntKind.wrap .u32 guess1)) (fun _ => rfl) rfl rfl (lt_of hi (by first | rfl | simp only [len_set', len_rep'])) rfl rfl setL ?_)
          refine Wl.nil ?_
          refine Vc.region' ?_
          refine Wl.cons rg (o_move (v := .int .i64 i) rfl ?_)
          refine Wl.cons rg (o_subG rfl rfl h.1 ?_)
          replace h := h.2
          refine Wl.cons rg (o_assign (v := .int .i64 (i - 1)) rfl ?_)
          refine Wl.nil ?_
          exact ⟨(r8, (i - 1), (set' q i (IntKind.wrap .u32 guess1))), (canon (fc vr (fc vr (fc vr (fc vr (fc (VW.slen (by first | rfl | simp only [len_set', len_rep'])) (fc vr (fc vr (fn)))))))) (sc rfl (sn))), h⟩
      · replace h := h.2 hb2
        refine Vc.exit' (exB_self ?_)
        refine Vc.seq' ?_
        refine Vc.region' ?_
        refine Wl.cons rg (o_move (v := .sl 1 rg 39 g1 0 q.length) rfl ?_)
        refine Wl.wk (canon_freeze (k := 39) (xs := List.map (AV.int .u32) q) rfl (es := [(8, .int .i64 s), (10, eL (AV.int .u32) r), (109, eL (AV.int .u32) q)]) (fc vr (fc vr (fc (frz_full rfl) (fn)))) (m := []) (sn)) ?_
        refine Wl.cons rg (o_call (us := [eL (AV.int .u32) q]) rfl (vl' vr (vn)) (ref01_Trim_ctr h fun r10 h => ?_))
        refine Wl.cons rg (o_move (v := eL (AV.int .u32) r) rfl ?_)
        refine Wl.cons rg (o_move (v := .int .i64 s) rfl ?_)
        refine Wl.cons rg (o_call (us := [eL (AV.int .u32) r, AV.int .i64 s]) rfl (vl' vr (vl' vr (vn))) (ref01_down_ctr h fun r11 h => ?_))
        refine Wl.cons rg (o_assign (v := eL (AV.int .u32) r10) rfl ?_)
        refine Wl.cons rg (o_assign (v := eL (AV.int .u32) r11) rfl ?_)
        refine Wl.cons rg (o_assign (v := .int .i64 0) rfl ?_)
        refine Wl.nil ?_
        refine Vc.ret' ?_
        refine res_tmp (v := eL (AV.int .u32) r10) rfl ?_
        refine res_tmp (v := eL (AV.int .u32) r11) rfl ?_
        refine res_tmp (v := .int .i64 0) rfl ?_
        refine res_nil ?_
        show Gives _ (.tuple [eL (AV.int .u32) r10, eL (AV.int .u32) r11, .int .i64 0]) _
        exact gives_out hrg (VW.tupL (vl' vr (vl' vr (vl' vr (vn))))) (hQ _ _ _ h)
theorem ref01_Gcd_ctr {a : List Int} {b : List Int} {Q : List Int → Prop} {S : St} {R : AV → St → Prop} (h : ref01_Gcd_W a b Q) (hQ : ∀ r1, Q r1 → R (eL (AV.int .u32) r1) S) :
    Ctr Try.prog 165 [eL (AV.int .u32) a, eL (AV.int .u32) b] S R := by
  unfold ref01_Gcd_W at h
  refine enterT Try.func165 rfl Try.ntmps165 Try.results165 (by kernel_rfl) (fun rg hrg => ?_)
  refine Vc.seq' ?_
  refine Vc.region' ?_
  refine Wl.cons rg (o_assign (v := .nil) rfl ?_)
  refine Wl.nil ?_
  refine Vc.seq' ?_
  refine Vc.region' ?_
  refine Wl.cons rg (o_move (v := eL (AV.int .u32) a) rfl ?_)
  refine Wl.cons rg (o_call (us := [eL (AV.int .u32) a]) rfl (vl' vr (vn)) (ref01_Trim_ctr h fun a1 h => ?_))
  refine Wl.cons rg (o_move (v := eL (AV.int .u32) b) rfl ?_)
  refine Wl.cons rg (o_call (us := [eL (AV.int .u32) b]) rfl (vl' vr (vn)) (ref01_Trim_ctr h fun b1 h => ?_))
  refine Wl.cons rg (o_assign (v := eL (AV.int .u32) a1) rfl ?_)
  refine Wl.cons rg (o_assign (v := eL (AV.int .u32) b1) rfl ?_)
  refine Wl.nil ?_
  refine Vc.seq' ?_
  refine Vc.blk ?_
  obtain ⟨I, μ, h0, hI⟩ := h
  refine Vc.loop' (σ := ((List Int) × (List Int))) (fun y => I y) (fun y => μ y) (fun y => envOf [(0, eL (AV.int .u32) y.1), (1, eL (AV.int .u32) y.2)]) (fun y => stL S rg []) (a1, b1) (canon (fc vr (fc vr (fn))) (sn)) h0 (fun y h => ?_)
  obtain ⟨a2, b2⟩ := y
  replace h := hI (a2, b2) h
  show Vc _ _ _ _ (envOf [(0, eL (AV.int .u32) a2), (1, eL (AV.int .u32) b2)]) (stL S rg [])
  refine Vc.seq' ?_
  refine Vc.seq' ?_
  refine Vc.region' ?_
  refine Wl.cons rg (o_move (v := eL (AV.int .u32) b2) rfl ?_)
  refine Wl.cons rg (o_len td25 rfl ?_)
  refine Wl.cons rg (o_gtr rfl rfl ?_)
  refine Wl.nil ?_
  refine Vc.cond' rfl (fun hb => ?_) (fun hb => ?_)
  · replace h := h.1 hb
    refine Vc.skip' ?_
    refine Vc.blk ?_
    refine Vc.seq' ?_
    refine Vc.region' ?_
    refine Wl.cons rg (o_move (v := eL (AV.int .u32) a2) rfl ?_)
    refine Wl.cons rg (o_move (v := eL (AV.int .u32) b2) rfl ?_)
    refine Wl.cons rg (o_call (us := [eL (AV.int .u32) a2, eL (AV.int .u32) b2]) rfl (vl' vr (vl' vr (vn))) (ref01_Div_ctr h fun r r1 r2 h => ?_))
    refine Wl.cons rg (o_move (v := .tuple [eL (AV.int .u32) r, eL (AV.int .u32) r1, .int .i64 r2]) rfl ?_)
    refine Wl.cons rg (o_extract (v := eL (AV.int .u32) r) rfl rfl rfl ?_)
    refine Wl.cons rg (o_extract (v := eL (AV.int .u32) r1) rfl rfl rfl ?_)
    refine Wl.cons rg (o_extract (v := .int .i64 r2) rfl rfl rfl ?_)
    refine Wl.cons rg (o_assign (v := eL (AV.int .u32) r) rfl ?_)
    refine Wl.cons rg (o_assign (v := eL (AV.int .u32) r1) rfl ?_)
    refine Wl.cons rg (o_assign (v := .int .i64 r2) rfl ?_)
    refine Wl.nil ?_
    refine Vc.region' ?_
    refine Wl.cons rg (o_move (v := eL (AV.int .u32) b2) rfl ?_)
    refine Wl.cons rg (o_move (v := eL (AV.int .u32) r1) rfl ?_)
    refine Wl.cons rg (o_assign (v := eL (AV.int .u32) b2) rfl ?_)
    refine Wl.cons rg (o_assign (v := eL (AV.int .u32) r1) rfl ?_)
    refine Wl.nil ?_
    exact ⟨(b2, r1), (canon (fc vr (fc vr (fn))) (sn)), h⟩
  · replace h := h.2 hb
    refine Vc.exit' (exB_self ?_)
    refine Vc.seq' ?_
    refine Vc.region' ?_
    refine Wl.cons rg (o_move (v := eL (AV.int .u32) a2) rfl ?_)
    refine Wl.cons rg (o_assign (v := eL (AV.int .u32) a2) rfl ?_)
    refine Wl.nil ?_
    refine Vc.ret' ?_
    refine res_tmp (v := eL (AV.int .u32) a2) rfl ?_
    refine res_nil ?_
    show Gives _ (eL (AV.int .u32) a2) _
    exact gives_out hrg (VW.refl _) (hQ _ h)
theorem ref02_From_ctr {neg : Bool} {num : List Int} {den : List Int} {Q : GRat → Int → Prop} {S : St} {R : AV → St → Prop} (h : ref02_From_W neg num den Q) (hQ : ∀ r1 r2, Q r1 r2 → R (.tuple [eRat r1, AV.int .i64 r2]) S) :
    Ctr Try.prog 137 [AV.bool neg, eL (AV.int .u32) num, eL (AV.int .u32) den] S R := by
  unfold ref02_From_W at h
  refine enterT Try.func137 rfl Try.ntmps137 Try.results137 (by kernel_rfl) (fun rg hrg => ?_)
  refine Vc.seq' ?_
  refine Vc.region' ?_
  refine Wl.cons rg (o_alloc zav27 ok27 (kk := 3) rfl (fun g1 => ?_))
  refine Wl.cons rg (o_assign (v := .int .i64 0) rfl ?_)
  refine Wl.nil ?_
  refine Vc.seq' ?_
  refine Vc.seq' ?_
  refine Vc.region' ?_
  refine Wl.cons rg (o_move (v := eL (AV.int .u32) den) rfl ?_)
  refine Wl.cons rg (o_call (us := [eL (AV.int .u32) den]) rfl (vl' vr (vn)) (ref01_Bits_ctr h fun r h => ?_))
  refine Wl.cons rg (o_eql rfl rfl ?_)
  refine Wl.nil ?_
  refine Vc.cond' rfl (fun hb => ?_) (fun hb => ?_)
  · replace h := h.1 hb
    refine Vc.seq' ?_
    refine Vc.region' ?_
    refine Wl.cons rg (o_build td27 zav27 bok27 szs27 sz27 (ps := []) rfl rfl (v := .agg [.bool false, .nil, .nil]) rfl ?_)
    refine Wl.cons rg (o_storeB (atL (k := 6) rfl) sz27 (by decide) rfl (w := .agg [.bool false, .nil, .nil]) rfl rfl rfl (v := .agg [.bool false, .nil, .nil]) rfl setL ?_)
    refine Wl.cons rg (o_assign (v := .int .i64 8) rfl ?_)
    refine Wl.nil ?_
    refine Vc.ret' ?_
    refine res_cellA (atL (k := 6) rfl) sz27 (by decide) ag27 rfl rfl (v := .agg [.bool false, .nil, .nil]) rfl ?_
    refine res_tmp (v := .int .i64 8) rfl ?_
    refine res_nil ?_
    show Gives _ (.tuple [.agg [.bool false, .nil, .nil], .int .i64 8]) _
    exact gives_out hrg (VW.tupL (vl' (VW.aggL (vl' vr (vl' (VW.nilL) (vl' (VW.nilL) (vn))))) (vl' vr (vn)))) (hQ _ _ h)
  · replace h := h.2 hb
    refine Vc.skip' ?_
    refine Vc.seq' ?_
    refine Vc.seq' ?_
    refine Vc.region' ?_
    refine Wl.cons rg (o_move (v := eL (AV.int .u32) num) rfl ?_)
    refine Wl.cons rg (o_call (us := [eL (AV.int .u32) num]) rfl (vl' vr (vn)) (ref01_Bits_ctr h fun r1 h => ?_))
    refine Wl.cons rg (o_eql rfl rfl ?_)
    refine Wl.nil ?_
    refine Vc.cond' rfl (fun hb1 => ?_) (fun hb1 => ?_)
    · replace h := h.1 hb1
      refine Vc.seq' ?_
      refine Vc.region' ?_
      refine Wl.cons rg (o_build td27 zav27 bok27 szs27 sz27 (ps := []) rfl rfl (v := .agg [.bool false, .nil, .nil]) rfl ?_)
      refine Wl.cons rg (o_storeB (atL (k := 6) rfl) sz27 (by decide) rfl (w := .agg [.bool false, .nil, .nil]) rfl rfl rfl (v := .agg [.bool false, .nil, .nil]) rfl setL ?_)
      refine Wl.cons rg (o_assign (v := .int .i64 0) rfl ?_)
      refine Wl.nil ?_
      refine Vc.ret' ?_
      refine res_cellA (atL (k := 6) rfl) sz27 (by decide) ag27 rfl rfl (v := .agg [.bool false, .nil, .nil]) rfl ?_
      refine res_tmp (v := .int .i64 0) rfl ?_
      refine res_nil ?_
      show Gives _ (.tuple [.agg [.bool false, .nil, .nil], .int .i64 0]) _
      exact gives_out hrg (VW.tupL (vl' (VW.aggL (vl' vr (vl' (VW.nilL) (vl' (VW.nilL) (vn))))) (vl' vr (vn)))) (hQ _ _ h)
    · replace h := h.2 hb1
      refine Vc.skip' ?_
      refine Vc.seq' ?_
      refine Vc.region' ?_
      refine Wl.cons rg (o_move (v := eL (AV.int .u32) num) rfl ?_)
      refine Wl.cons rg (o_move (v := eL (AV.int .u32) den) rfl ?_)
      refine Wl.cons rg (o_call (us := [eL (AV.int .u32) num, eL (AV.int .u32) den]) rfl (vl' vr (vl' vr (vn))) (ref01_Gcd_ctr h fun g2 h => ?_))
      refine Wl.cons rg (o_assign (v := eL (AV.int .u32) g2) rfl ?_)
      refine Wl.nil ?_
      refine Vc.seq' ?_
      refine Vc.region' ?_
      refine Wl.cons rg (o_move (v := eL (AV.int .u32) num) rfl ?_)
      refine Wl.cons rg (o_move (v := eL (AV.int .u32) g2) rfl ?_)
      refine Wl.cons rg (o_call (us := [eL (AV.int .u32) num, eL (AV.int .u32) g2]) rfl (vl' vr (vl' vr (vn))) (ref01_Div_ctr h fun r2 r3 r4 h => ?_))
      refine Wl.cons rg (o_move (v := .tuple [eL (AV.int .u32) r2, eL (AV.int .u32) r3, .int .i64 r4]) rfl ?_)
      refine Wl.cons rg (o_extract (v := eL (AV.int .u32) r2) rfl rfl rfl ?_)
      refine Wl.cons rg (o_extract (v := eL (AV.int .u32) r3) rfl rfl rfl ?_)
      refine Wl.cons rg (o_extract (v := .int .i64 r4) rfl rfl rfl ?_)
      refine Wl.cons rg (o_assign (v := eL (AV.int .u32) r2) rfl ?_)
      refine Wl.cons rg (o_assign (v := eL (AV.int .u32) r3) rfl ?_)
      refine Wl.cons rg (o_assign (v := .int .i64 r4) rfl ?_)
      refine Wl.nil ?_
      refine Vc.seq' ?_
      refine Vc.region' ?_
      refine Wl.cons rg (o_move (v := eL (AV.int .u32) den) rfl ?_)
      refine Wl.cons rg (o_move (v := eL (AV.int .u32) g2) rfl ?_)
      refine Wl.cons rg (o_call (us := [eL (AV.int .u32) den, eL (AV.int .u32) g2]) rfl (vl' vr (vl' vr (vn))) (ref01_Div_ctr h fun r5 r6 r7 h => ?_))
      refine Wl.cons rg (o_move (v := .tuple [eL (AV.int .u32) r5, eL (AV.int .u32) r6, .int .i64 r7]) rfl ?_)
      refine Wl.cons rg (o_extract (v := eL (AV.int .u32) r5) rfl rfl rfl ?_)
      refine Wl.cons rg (o_extract (v := eL (AV.int .u32) r6) rfl rfl rfl ?_)
      refine Wl.cons rg (o_extract (v := .int .i64 r7) rfl rfl rfl ?_)
      refine Wl.cons rg (o_assign (v := eL (AV.int .u32) r5) rfl ?_)
      refine Wl.cons rg (o_assign (v := eL (AV.int .u32) r6) rfl ?_)
      refine Wl.cons rg (o_assign (v := .int .i64 r7) rfl ?_)
      refine Wl.nil ?_
      refine Vc.seq' ?_
      refine Vc.region' ?_
      refine Wl.cons rg (o_move (v := .bool neg) rfl ?_)
      refine Wl.cons rg (o_move (v := eL (AV.int .u32) r2) rfl ?_)
      refine Wl.cons rg (o_move (v := eL (AV.int .u32) r5) rfl ?_)
      refine Wl.cons rg (o_build td27 zav27 bok27 szs27 sz27 (ps := [(0, .bool neg), (1, eL (AV.int .u32) r2), (2, eL (AV.int .u32) r5)]) rfl rfl (v := .agg [.bool neg, eL (AV.int .u32) r2, eL (AV.int .u32) r5]) rfl ?_)
      refine Wl.cons rg (o_storeB (atL (k := 6) rfl) sz27 (by decide) rfl (w := .agg [.bool neg, eL (AV.int .u32) r2, eL (AV.int .u32) r5]) rfl rfl rfl (v := .agg [.bool neg, eL (AV.int .u32) r2, eL (AV.int .u32) r5]) rfl setL ?_)
      refine Wl.cons rg (o_assign (v := .int .i64 0) rfl ?_)
      refine Wl.nil ?_
      refine Vc.ret' ?_
      refine res_cellA (atL (k := 6) rfl) sz27 (by decide) ag27 rfl rfl (v := .agg [.bool neg, eL (AV.int .u32) r2, eL (AV.int .u32) r5]) rfl ?_
      refine res_tmp (v := .int .i64 0) rfl ?_
      refine res_nil ?_
      show Gives _ (.tuple [.agg [.bool neg, eL (AV.int .u32) r2, eL (AV.int .u32) r5], .int .i64 0]) _
      exact gives_out hrg (VW.tupL (vl' vr (vl' vr (vn)))) (hQ _ _ h)
theorem ref02_size_ctr {n : Int} {Q : List Int → Prop} {S : St} {R : AV → St → Prop} (h : ref02_size_W n Q) (hQ : ∀ r1, Q r1 → R (eL (AV.int .u32) r1) S) :
    Ctr Try.prog 167 [AV.int .i64 n] S R := by
  unfold ref02_size_W at h
  refine enterT Try.func167 rfl Try.ntmps167 Try.results167 (by kernel_rfl) (fun rg hrg => ?_)
  refine Vc.seq' ?_
  refine Vc.region' ?_
  refine Wl.cons rg (o_assign (v := .nil) rfl ?_)
  refine Wl.nil ?_
  refine Vc.seq' ?_
  refine Vc.region' ?_
  refine Wl.cons rg (o_move (v := .int .i64 n) rfl ?_)
  refine Wl.cons rg (o_conv td3 td179 rfl ?_)
  refine Wl.cons rg (o_assign (v := .int .u64 (IntKind.wrap .u64 n)) rfl ?_)
  refine Wl.nil ?_
  obtain ⟨J, h, hJ⟩ := h
  refine Vc.join' (σ := (Int)) (fun y => J y) (fun y => envOf [(3, .int .u64 y)]) (fun y => stL S rg []) (fun u h => ?_) ?_
  · replace h := hJ u h
    show Vc _ _ _ _ (envOf [(3, .int .u64 u)]) (stL S rg [])
    refine Vc.seq' ?_
    refine Vc.region' ?_
    refine Wl.cons rg (o_move (v := .int .u64 u) rfl ?_)
    refine Wl.cons rg (o_conv td179 td173 rfl ?_)
    refine Wl.cons rg (o_move (v := .int .u64 u) rfl ?_)
    refine Wl.cons rg (o_shr rfl rfl (by decide) ?_)
    refine Wl.cons rg (o_conv td179 td173 rfl ?_)
    refine Wl.cons rg (o_bslice td25 ok173 zav173 (es := [.int .u32 (IntKind.wrap .u32 u), .int .u32 (IntKind.wrap .u32 (u / 2 ^ (Int.toNat 32)))]) rfl (kk := 1) rfl rfl rfl rfl rfl rfl (fun g1 => ?_))
    refine Wl.cons rg (o_assign (v := .sl 1 rg 15 g1 0 ([(IntKind.wrap .u32 u), (IntKind.wrap .u32 (u / 2 ^ (Int.toNat 32)))].length)) rfl ?_)
    refine Wl.nil ?_
    refine Vc.ret' ?_
    refine res_tmp (v := .sl 1 rg 15 g1 0 ([(IntKind.wrap .u32 u), (IntKind.wrap .u32 (u / 2 ^ (Int.toNat 32)))].length)) rfl ?_
    refine res_nil ?_
    show Gives _ (.sl 1 rg 15 g1 0 ([(IntKind.wrap .u32 u), (IntKind.wrap .u32 (u / 2 ^ (Int.toNat 32)))].length)) _
    refine gives_freeze (k := 15) (xs := List.map (AV.int .u32) [(IntKind.wrap .u32 u), (IntKind.wrap .u32 (u / 2 ^ (Int.toNat 32)))]) rfl (v' := eL (AV.int .u32) [(IntKind.wrap .u32 u), (IntKind.wrap .u32 (u / 2 ^ (Int.toNat 32)))]) (frz_full rfl) ?_
    exact gives_out hrg (VW.refl _) (hQ _ h)
  · refine Vc.seq' ?_
    refine Vc.region' ?_
    refine Wl.cons rg (o_move (v := .int .i64 n) rfl ?_)
    refine Wl.cons rg (o_lss rfl rfl ?_)
    refine Wl.nil ?_
    refine Vc.cond' rfl (fun hb => ?_) (fun hb => ?_)
    · replace h := h.1 hb
      refine Vc.region' ?_
      refine Wl.cons rg (o_move (v := .int .u64 (IntKind.wrap .u64 n)) rfl ?_)
      refine Wl.cons rg (o_neg rfl ?_)
      obtain ⟨u1, hs⟩ : ∃ qz, qz = (IntKind.wrap .u64 (0 - (IntKind.wrap .u64 n))) := ⟨_, rfl⟩
      replace h := h u1 hs
      refine Wl.cons rg (o_assign (v := .int .u64 u1) (by subst hs; rfl) ?_)
      refine Wl.nil ?_
      exact ⟨u1, (canon (fc vr (fn)) (sn)), h⟩
    · replace h := h.2 hb
      refine Vc.skip' ?_
      exact ⟨(IntKind.wrap .u64 n), (canon (fc vr (fn)) (sn)), h⟩
theorem ref02_Make_ctr {n : Int} {d : Int} {Q : GRat → Int → Prop} {S : St} {R : AV → St → Prop} (h : ref02_Make_W n d Q) (hQ : ∀ r1 r2, Q r1 r2 → R (.tuple [eRat r1, AV.int .i64 r2]) S) :
    Ctr Try.prog 141 [AV.int .i64 n, AV.int .i64 d] S R := by
  unfold ref02_Make_W at h
  refine enterT Try.func141 rfl Try.ntmps141 Try.results141 (by kernel_rfl) (fun rg hrg => ?_)
  refine Vc.seq' ?_
  refine Vc.region' ?_
  refine Wl.cons rg (o_alloc zav27 ok27 (kk := 3) rfl (fun g1 => ?_))
  refine Wl.cons rg (o_assign (v := .int .i64 0) rfl ?_)
  refine Wl.nil ?_
  refine Vc.seq' ?_
  refine Vc.region' ?_
  refine Wl.cons rg (o_move (v := .int .i64 n) rfl ?_)
  refine Wl.cons rg (o_lss rfl rfl ?_)
  refine Wl.cons rg (o_move (v := .int .i64 d) rfl ?_)
  refine Wl.cons rg (o_lss rfl rfl ?_)
  refine Wl.cons rg (o_neqB td4 rfl rfl ?_)
  refine Wl.cons rg (o_move (v := .int .i64 n) rfl ?_)
  refine Wl.cons rg (o_call (us := [AV.int .i64 n]) rfl (vl' vr (vn)) (ref02_size_ctr h fun r h => ?_))
  refine Wl.cons rg (o_move (v := .int .i64 d) rfl ?_)
  refine Wl.cons rg (o_call (us := [AV.int .i64 d]) rfl (vl' vr (vn)) (ref02_size_ctr h fun r1 h => ?_))
  refine Wl.cons rg (o_call (us := [AV.bool ((decide (n < 0)) != (decide (d < 0))), eL (AV.int .u32) r, eL (AV.int .u32) r1]) rfl (vl' vr (vl' vr (vl' vr (vn)))) (ref02_From_ctr h fun r2 r3 h => ?_))
  refine Wl.cons rg (o_extract (v := eRat r2) rfl rfl rfl ?_)
  refine Wl.cons rg (o_extract (v := .int .i64 r3) rfl rfl rfl ?_)
  refine Wl.cons rg (o_storeB (atL (k := 4) rfl) sz27 (by decide) rfl (w := eRat r2) rfl rfl rfl (v := eRat r2) rfl setL ?_)
  refine Wl.cons rg (o_assign (v := .int .i64 r3) rfl ?_)
  refine Wl.nil ?_
  refine Vc.ret' ?_
  refine res_cellA (atL (k := 4) rfl) sz27 (by decide) ag27 rfl rfl (v := eRat r2) rfl ?_
  refine res_tmp (v := .int .i64 r3) rfl ?_
  refine res_nil ?_
  show Gives _ (.tuple [eRat r2, .int .i64 r3]) _
  exact gives_out hrg (VW.tupL (vl' vr (vl' vr (vn)))) (hQ _ _ h)
end Go.Proofs.Ytonbnfgknijpoaa
