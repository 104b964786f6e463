/- Walks of functions. Conditions: none. -/
import Derived.Test.YtiamkdpljeemkaaWa
import Derived.Test.YtiamkdpljeemkaaGgTy
/- Walks of functions. Conditions: none. -/
namespace Go.Proofs.Ytiamkdpljeemkaa
open Go.Gg
set_option maxRecDepth 100000
theorem base_Ints_ctr {a : List Int} {b : List Int} {Q : Bool → Prop} {S : St} {R : AV → St → Prop} (h : base_Ints_W a b Q) (hQ : ∀ r1, Q r1 → R (AV.bool r1) S) :
    Ctr Try.prog 49 [eL (AV.int .i64) a, eL (AV.int .i64) b] S R := by
  unfold base_Ints_W at h
  refine enterT Try.func49 rfl Try.ntmps49 Try.results49 (by kernel_rfl) (fun rg hrg => ?_)
  refine qZ (rZ (asZ (.bool false) rfl (nZ (qZ (qZ (rZ (mvZ (eL (AV.int .i64) a) rfl (wZ rg (o_len td25 rfl (mvZ (eL (AV.int .i64) b) rfl (wZ rg (o_len td25 rfl (wZ rg (o_neq rfl rfl (nZ ?_)))))))))))))))
  refine Vc.cond' rfl (fun hb => ?_) (fun hb => ?_)
  · replace h := h.1 hb
    refine qZ (rZ (asZ (.bool false) rfl (nZ ?_)))
    refine Vc.ret' ?_
    refine res_tmp (v := .bool false) rfl (res_nil ?_)
    show Gives _ (.bool false) _
    exact gives_out hrg (VW.refl _) (hQ _ h)
  replace h := h.2 hb
  refine Vc.skip' ?_
  refine qZ (qZ (rZ (mvZ (eL (AV.int .i64) a) rfl (wZ rg (o_len td25 rfl (mvZ (.int .i64 0) rfl (nZ ?_)))))))
  refine Vc.blk ?_
  obtain ⟨I, μ, h0, hI⟩ := h
  refine Vc.loop' (σ := (Int)) (fun y => I y) (fun y => μ y) (fun y => envOf [(0, eL (AV.int .i64) a), (1, eL (AV.int .i64) b), (12, .int .i64 (a.length : Int)), (13, .int .i64 y)]) (fun y => stL S rg []) 0 (canon (fc vr (fc vr (fc vr (fc vr (fn))))) (sn)) h0 (fun x h => ?_)
  replace h := hI x h
  show Vc _ _ _ _ (envOf [(0, eL (AV.int .i64) a), (1, eL (AV.int .i64) b), (12, .int .i64 (a.length : Int)), (13, .int .i64 x)]) (stL S rg [])
  refine qZ (rZ (wZ rg (o_lss rfl rfl (nZ (qZ ?_)))))
  refine Vc.cond' rfl (fun hb1 => ?_) (fun hb1 => ?_)
  · replace h := h.1 hb1
    refine Vc.skip' ?_
    refine qZ ?_
    refine Vc.blk ?_
    refine qZ (rZ (mvZ (.int .i64 x) rfl (asZ (.int .i64 x) rfl (nZ (qZ ?_)))))
    have hg := h.1
    replace h := h.2
    have hg1 := h.1
    replace h := h.2
    refine Vc.drawn' mixed rg (fun _ => jcr2) (by kernel_rfl) ?_
    refine dP rfl rfl (o_move (v := eL (AV.int .i64) a) rfl (dP rfl rfl (o_move (v := .int .i64 x) rfl (dP rfl rfl (o_idxL td25 sz3 (by decide) (fun _ => rfl) rfl rfl hg (dP rfl rfl (o_loadI1 sz3 ag3 rfl rfl (v := .int .i64 (at' a x)) rfl (dP rfl rfl (o_move (v := eL (AV.int .i64) b) rfl (dP rfl rfl (o_move (v := .int .i64 x) rfl (dP rfl rfl (o_idxL td25 sz3 (by decide) (fun _ => rfl) rfl rfl hg1 ?_)))))))))))))
    refine dP rfl rfl (o_loadI1 sz3 ag3 rfl rfl (v := .int .i64 (at' b x)) rfl (dP rfl rfl (o_neq rfl rfl (dN ?_))))
    refine Vc.cond' rfl (fun hb2 => ?_) (fun hb2 => ?_)
    · replace h := h.1 hb2
      refine qZ (rZ (asZ (.bool false) rfl (nZ ?_)))
      refine Vc.ret' ?_
      refine res_tmp (v := .bool false) rfl (res_nil ?_)
      show Gives _ (.bool false) _
      exact gives_out hrg (VW.refl _) (hQ _ h)
    replace h := h.2 hb2
    refine Vc.skip' ?_
    refine rZ ?_
    refine wZ rg (o_addG rfl rfl h.1 ?_)
    replace h := h.2
    refine mvZ (.int .i64 (x + 1)) rfl (nZ ?_)
    exact ⟨(x + 1), (canon (fc vr (fc vr (fc vr (fc vr (fn))))) (sn)), h⟩
  replace h := h.2 hb1
  refine Vc.exit' (exB_self ?_)
  refine qZ (rZ (asZ (.bool true) rfl (nZ ?_)))
  refine Vc.ret' ?_
  refine res_tmp (v := .bool true) rfl (res_nil ?_)
  show Gives _ (.bool true) _
  exact gives_out hrg (VW.refl _) (hQ _ h)
theorem base_Num_ctr {err : Option Int} {Q : Int → Prop} {S : St} {R : AV → St → Prop} (h : base_Num_W err Q) (hQ : ∀ r1, Q r1 → R (AV.int .i64 r1) S) :
    Ctr Try.prog 51 [eErr 73 err] S R := by
  unfold base_Num_W at h
  refine enterT Try.func51 rfl Try.ntmps51 Try.results51 (by kernel_rfl) (fun rg hrg => ?_)
  refine qZ (rZ (asZ (.int .i64 0) rfl (nZ (qZ (qZ (rZ (mvZ (eErr 73 err) rfl (wZ rg (o_isnil td32 (E := 73) rfl rfl rfl (nZ ?_))))))))))
  refine Vc.cond' rfl (fun hb => ?_) (fun hb => ?_)
  · replace h := h.1 hb
    refine qZ (rZ (asZ (.int .i64 0) rfl (nZ ?_)))
    refine Vc.ret' ?_
    refine res_tmp (v := .int .i64 0) rfl (res_nil ?_)
    show Gives _ (.int .i64 0) _
    exact gives_out hrg (VW.refl _) (hQ _ h)
  replace h := h.2 hb
  refine Vc.skip' ?_
  refine qZ (qZ (rZ (mvZ (eErr 73 err) rfl (wZ rg (o_assertE td73 ok73 zav73 rfl (mvZ (.tuple [.int .i64 (Option.getD err 0), .bool (Option.isSome err)]) rfl (wZ rg (o_extract (v := .int .i64 (Option.getD err 0)) rfl rfl rfl (wZ rg (o_extract (v := .bool (Option.isSome err)) rfl rfl rfl (asZ (.int .i64 (Option.getD err 0)) rfl (asZ (.bool (Option.isSome err)) rfl (nZ (qZ (rZ ?_)))))))))))))))
  refine mvZ (.bool (Option.isSome err)) rfl (nZ ?_)
  refine Vc.cond' rfl (fun hb1 => ?_) (fun hb1 => ?_)
  · replace h := h.1 hb1
    refine qZ (rZ (mvZ (.int .i64 (Option.getD err 0)) rfl (asZ (.int .i64 (Option.getD err 0)) rfl (nZ ?_))))
    refine Vc.ret' ?_
    refine res_tmp (v := .int .i64 (Option.getD err 0)) rfl (res_nil ?_)
    show Gives _ (.int .i64 (Option.getD err 0)) _
    exact gives_out hrg (VW.refl _) (hQ _ h)
  replace h := h.2 hb1
  refine Vc.skip' ?_
  refine qZ (rZ (asZ (.int .i64 (-1)) rfl (nZ ?_)))
  refine Vc.ret' ?_
  refine res_tmp (v := .int .i64 (-1)) rfl (res_nil ?_)
  show Gives _ (.int .i64 (-1)) _
  exact gives_out hrg (VW.refl _) (hQ _ h)
theorem base_Is_ctr {err : Option Int} {code : Int} {Q : Bool → Prop} {S : St} {R : AV → St → Prop} (h : base_Is_W err code Q) (hQ : ∀ r1, Q r1 → R (AV.bool r1) S) :
    Ctr Try.prog 53 [eErr 73 err, AV.int .i64 code] S R := by
  unfold base_Is_W at h
  refine enterT Try.func53 rfl Try.ntmps53 Try.results53 (by kernel_rfl) (fun rg hrg => ?_)
  refine qZ (rZ (asZ (.bool false) rfl (nZ (qZ (rZ (mvZ (eErr 73 err) rfl (wZ rg (o_assertE td73 ok73 zav73 rfl (mvZ (.tuple [.int .i64 (Option.getD err 0), .bool (Option.isSome err)]) rfl (wZ rg (o_extract (v := .int .i64 (Option.getD err 0)) rfl rfl rfl (wZ rg (o_extract (v := .bool (Option.isSome err)) rfl rfl rfl (asZ (.int .i64 (Option.getD err 0)) rfl (asZ (.bool (Option.isSome err)) rfl ?_)))))))))))))))
  refine nZ (qZ (rZ (mvZ (.bool (Option.isSome err)) rfl (mvZ (.bool (Option.isSome err)) rfl ?_))))
  refine Wl.guard rfl rfl (fun hb => ?_) (fun hb => ?_)
  · replace h := h.1 hb
    refine mvZ (.int .i64 (Option.getD err 0)) rfl ?_
    refine Wl.guardT rfl rfl hb ?_
    refine mvZ (.int .i64 code) rfl ?_
    refine Wl.guardT rfl rfl hb ?_
    refine wZ rg (o_eql rfl rfl (wZ rg (o_pickT rfl hb (v := .bool ((Option.getD err 0) == code)) rfl (asZ (.bool ((Option.getD err 0) == code)) rfl (nZ ?_)))))
    refine Vc.ret' ?_
    refine res_tmp (v := .bool ((Option.getD err 0) == code)) rfl (res_nil ?_)
    show Gives _ (.bool ((Option.getD err 0) == code)) _
    exact gives_out hrg (VW.refl _) (hQ _ h)
  replace h := h.2 hb
  refine Wl.guardF rfl rfl hb rfl ?_
  refine Wl.guardF rfl rfl hb rfl ?_
  refine wZ rg (o_pickF rfl hb (v := .bool false) rfl (asZ (.bool false) rfl (nZ ?_)))
  refine Vc.ret' ?_
  refine res_tmp (v := .bool false) rfl (res_nil ?_)
  show Gives _ (.bool false) _
  exact gives_out hrg (VW.refl _) (hQ _ h)
theorem base_Clip_ctr {n : Int} {lo : Int} {hi : Int} {Q : Int → Prop} {S : St} {R : AV → St → Prop} (h : base_Clip_W n lo hi Q) (hQ : ∀ r1, Q r1 → R (AV.int .i64 r1) S) :
    Ctr Try.prog 56 [AV.int .i64 n, AV.int .i64 lo, AV.int .i64 hi] S R := by
  unfold base_Clip_W at h
  refine enterT Try.func56 rfl Try.ntmps56 Try.results56 (by kernel_rfl) (fun rg hrg => ?_)
  refine qZ (rZ (asZ (.int .i64 0) rfl (nZ (qZ (rZ (mvZ (.int .i64 lo) rfl (mvZ (.int .i64 n) rfl (mvZ (.int .i64 hi) rfl (wZ rg (o_min rfl rfl (wZ rg (o_max rfl rfl (asZ (.int .i64 (max lo (min n hi))) rfl (nZ ?_))))))))))))))
  refine Vc.ret' ?_
  refine res_tmp (v := .int .i64 (max lo (min n hi))) rfl (res_nil ?_)
  show Gives _ (.int .i64 (max lo (min n hi))) _
  exact gives_out hrg (VW.refl _) (hQ _ h)
end Go.Proofs.Ytiamkdpljeemkaa
/- Walks of functions. Conditions: none. -/
namespace Go.Proofs.Ytiamkdpljeemkaa
open Go.Gg
set_option maxRecDepth 100000
theorem math_bits_Len32_ctr {x : Int} {Q : Int → Prop} {S : St} {R : AV → St → Prop} (h : math_bits_Len32_W x Q) (hQ : ∀ r1, Q r1 → R (AV.int .i64 r1) S) :
    Ctr Try.prog 175 [AV.int .u32 x] S R := by
  unfold math_bits_Len32_W at h
  refine enterT Try.func175 rfl Try.ntmps175 Try.results175 (by kernel_rfl) (fun rg hrg => ?_)
  refine qZ (rZ (asZ (.int .i64 0) rfl (nZ ?_)))
  obtain ⟨J, h, hJ⟩ := h
  refine Vc.join' (σ := (Int × Int)) (fun y => J y) (fun y => envOf [(0, .int .u32 y.1), (2, .int .i64 y.2)]) (fun y => stL S rg []) (fun y h => ?_) ?_
  · obtain ⟨x1, n⟩ := y
    replace h := hJ (x1, n) h
    show Vc _ _ _ _ (envOf [(0, .int .u32 x1), (2, .int .i64 n)]) (stL S rg [])
    obtain ⟨J, h, hJ⟩ := h
    refine Vc.join' (σ := (Int × Int)) (fun y => J y) (fun y => envOf [(0, .int .u32 y.1), (2, .int .i64 y.2)]) (fun y => stL S rg []) (fun y h => ?_) ?_
    · obtain ⟨x2, n1⟩ := y
      replace h := hJ (x2, n1) h
      show Vc _ _ _ _ (envOf [(0, .int .u32 x2), (2, .int .i64 n1)]) (stL S rg [])
      refine qZ (rZ (mvZ (.int .i64 n1) rfl (mvZ (.int .u32 x2) rfl (wZ rg (o_conv td186 td5 rfl (wZ rg (o_indexS td9 (by kernel_rfl) rfl h.1 ?_)))))))
      replace h := h.2
      refine wZ rg (o_conv td5 td3 rfl (wZ rg (o_addG rfl rfl h.1 ?_)))
      replace h := h.2
      obtain ⟨n2, hs⟩ : ∃ qz : Int, qz = (n1 + (IntKind.wrap .i64 (byteAt str_633d862b (Int.toNat (IntKind.wrap .u8 x2))))) := ⟨_, rfl⟩
      replace h := h n2 hs
      refine wZ rg (o_assign (v := .int .i64 n2) (by subst hs; rfl) (nZ ?_))
      refine Vc.ret' ?_
      refine res_tmp (v := .int .i64 n2) rfl (res_nil ?_)
      show Gives _ (.int .i64 n2) _
      exact gives_out hrg (VW.refl _) (hQ _ h)
    refine qZ (rZ (mvZ (.int .u32 x1) rfl (wZ rg (o_geq rfl rfl (nZ ?_)))))
    refine Vc.cond' rfl (fun hb => ?_) (fun hb => ?_)
    · replace h := h.1 hb
      refine qZ (rZ (mvZ (.int .u32 x1) rfl (wZ rg (o_shr rfl rfl (by decide) (asZ (.int .u32 (x1 / 2 ^ (Int.toNat 8))) rfl (nZ (rZ (mvZ (.int .i64 n) rfl (wZ rg (o_addG rfl rfl h.1 ?_))))))))))
      replace h := h.2
      refine asZ (.int .i64 (n + 8)) rfl (nZ ?_)
      exact ⟨((x1 / 2 ^ (Int.toNat 8)), (n + 8)), (canon (fc vr (fc vr (fn))) (sn)), h⟩
    replace h := h.2 hb
    refine Vc.skip' ?_
    exact ⟨(x1, n), (canon (fc vr (fc vr (fn))) (sn)), h⟩
  refine qZ (rZ (mvZ (.int .u32 x) rfl (wZ rg (o_geq rfl rfl (nZ ?_)))))
  refine Vc.cond' rfl (fun hb1 => ?_) (fun hb1 => ?_)
  · replace h := h.1 hb1
    refine qZ (rZ (mvZ (.int .u32 x) rfl (wZ rg (o_shr rfl rfl (by decide) (asZ (.int .u32 (x / 2 ^ (Int.toNat 16))) rfl (nZ (rZ (asZ (.int .i64 16) rfl (nZ ?_)))))))))
    exact ⟨((x / 2 ^ (Int.toNat 16)), 16), (canon (fc vr (fc vr (fn))) (sn)), h⟩
  replace h := h.2 hb1
  refine Vc.skip' ?_
  exact ⟨(x, 0), (canon (fc vr (fc vr (fn))) (sn)), h⟩
theorem natural_Bits_ctr {a : List Int} {Q : Int → Prop} {S : St} {R : AV → St → Prop} (h : natural_Bits_W a Q) (hQ : ∀ r1, Q r1 → R (AV.int .i64 r1) S) :
    Ctr Try.prog 161 [eL (AV.int .u32) a] S R := by
  unfold natural_Bits_W at h
  refine enterT Try.func161 rfl Try.ntmps161 Try.results161 (by kernel_rfl) (fun rg hrg => ?_)
  refine qZ (rZ (asZ (.int .i64 0) rfl (nZ (qZ (qZ (rZ (mvZ (eL (AV.int .u32) a) rfl (wZ rg (o_len td138 rfl (wZ rg (o_subG rfl rfl h.1 ?_)))))))))))
  replace h := h.2
  refine asZ (.int .i64 ((a.length : Int) - 1)) rfl (nZ ?_)
  refine Vc.blk ?_
  obtain ⟨I, μ, h0, hI⟩ := h
  refine Vc.loop' (σ := (Int)) (fun y => I y) (fun y => μ y) (fun y => envOf [(0, eL (AV.int .u32) a), (3, .int .i64 y)]) (fun y => stL S rg []) ((a.length : Int) - 1) (canon (fc vr (fc vr (fn))) (sn)) h0 (fun i h => ?_)
  replace h := hI i h
  show Vc _ _ _ _ (envOf [(0, eL (AV.int .u32) a), (3, .int .i64 i)]) (stL S rg [])
  refine qZ (qZ (rZ (mvZ (.int .i64 i) rfl (wZ rg (o_geq rfl rfl (nZ ?_))))))
  refine Vc.cond' rfl (fun hb => ?_) (fun hb => ?_)
  · replace h := h.1 hb
    refine Vc.skip' ?_
    refine qZ ?_
    refine Vc.blk ?_
    refine qZ (rZ (mvZ (eL (AV.int .u32) a) rfl (mvZ (.int .i64 i) rfl (wZ rg (o_idxL td138 sz186 (by decide) (fun _ => rfl) rfl rfl h.1 ?_)))))
    replace h := h.2
    refine wZ rg (o_loadI1 sz186 ag186 rfl rfl (v := .int .u32 (at' a i)) rfl (wZ rg (o_neq rfl rfl (nZ ?_))))
    refine Vc.cond' rfl (fun hb1 => ?_) (fun hb1 => ?_)
    · replace h := h.1 hb1
      refine qZ (rZ (mvZ (.int .i64 i) rfl (wZ rg (o_mulG rfl rfl h.1 ?_))))
      replace h := h.2
      refine mvZ (eL (AV.int .u32) a) rfl (mvZ (.int .i64 i) rfl (wZ rg (o_idxL td138 sz186 (by decide) (fun _ => rfl) rfl rfl h.1 ?_)))
      replace h := h.2
      refine wZ rg (o_loadI1 sz186 ag186 rfl rfl (v := .int .u32 (at' a i)) rfl (wZ rg (o_call (us := [AV.int .u32 (at' a i)]) rfl (vl' vr (vn)) (math_bits_Len32_ctr h fun r h => (wZ rg (o_addG rfl rfl h.1 ?_))))))
      replace h := h.2
      refine asZ (.int .i64 ((32 * i) + r)) rfl (nZ ?_)
      refine Vc.ret' ?_
      refine res_tmp (v := .int .i64 ((32 * i) + r)) rfl (res_nil ?_)
      show Gives _ (.int .i64 ((32 * i) + r)) _
      exact gives_out hrg (VW.refl _) (hQ _ h)
    replace h := h.2 hb1
    refine Vc.skip' ?_
    refine rZ ?_
    refine mvZ (.int .i64 i) rfl (wZ rg (o_subG rfl rfl h.1 ?_))
    replace h := h.2
    refine asZ (.int .i64 (i - 1)) rfl (nZ ?_)
    exact ⟨(i - 1), (canon (fc vr (fc vr (fn))) (sn)), h⟩
  replace h := h.2 hb
  refine Vc.exit' (exB_self ?_)
  refine qZ (rZ (asZ (.int .i64 0) rfl (nZ ?_)))
  refine Vc.ret' ?_
  refine res_tmp (v := .int .i64 0) rfl (res_nil ?_)
  show Gives _ (.int .i64 0) _
  exact gives_out hrg (VW.refl _) (hQ _ h)
theorem natural_trim_ctr {a : List Int} {Q : List Int → Prop} {S : St} {R : AV → St → Prop} (h : natural_trim_W a Q) (hQ : ∀ r1, Q r1 → R (eL (AV.int .u32) r1) S) :
    Ctr Try.prog 166 [eL (AV.int .u32) a] S R := by
  unfold natural_trim_W at h
  refine enterT Try.func166 rfl Try.ntmps166 Try.results166 (by kernel_rfl) (fun rg hrg => ?_)
  refine qZ (rZ (asZ .nil rfl (nZ (qZ (rZ (mvZ (eL (AV.int .u32) a) rfl (wZ rg (o_len td138 rfl (asZ (.int .i64 (a.length : Int)) rfl (nZ ?_))))))))))
  obtain ⟨J, h, hJ⟩ := h
  refine Vc.join' (σ := (Int)) (fun y => J y) (fun y => envOf [(0, eL (AV.int .u32) a), (3, .int .i64 y)]) (fun y => stL S rg []) (fun n h => ?_) ?_
  · replace h := hJ n h
    show Vc _ _ _ _ (envOf [(0, eL (AV.int .u32) a), (3, .int .i64 n)]) (stL S rg [])
    refine qZ (qZ (rZ (mvZ (.int .i64 n) rfl (wZ rg (o_eql rfl rfl (nZ ?_))))))
    refine Vc.cond' rfl (fun hb => ?_) (fun hb => ?_)
    · replace h := h.1 hb
      refine qZ (rZ (asZ .nil rfl (nZ ?_)))
      refine Vc.ret' ?_
      refine res_tmp (v := .nil) rfl (res_nil ?_)
      show Gives _ .nil _
      exact gives_out hrg (VW.nilL) (hQ _ h)
    replace h := h.2 hb
    refine Vc.skip' ?_
    refine qZ (rZ (wZ rg (o_bslice td138 ok186 zav186 (es := []) rfl (kk := 1) rfl rfl rfl rfl rfl rfl (fun g1 => (mvZ (eL (AV.int .u32) a) rfl (mvZ (.int .i64 n) rfl (wZ rg (o_sliceL td138 sz186 (by decide) (fun _ => rfl) rfl (l := 0) (h := n) rfl rfl h.1 ?_))))))))
    replace h := h.2
    refine wZ rg (o_appR td138 bts186 ok186 zav186 (es := []) (xs := (sub' a 0 n)) (enc := AV.int .u32) (atL (k := 20) rfl) (by first | rfl | omega | (simp only [go_sem] <;> omega)) (rfl) (kk := 1) rfl rfl (fun _ => rfl) (fun _ => rfl) h.1 rfl (fun _ => setL) (fun g2 => ?_))
    replace h := h.2
    refine asZ (.sl 1 rg 20 g2 0 (([] ++ (sub' a 0 n)).length)) rfl (nZ ?_)
    refine Vc.ret' ?_
    refine res_tmp (v := .sl 1 rg 20 g2 0 (([] ++ (sub' a 0 n)).length)) rfl (res_nil ?_)
    show Gives _ (.sl 1 rg 20 g2 0 (([] ++ (sub' a 0 n)).length)) _
    refine gives_freeze (k := 20) (xs := List.map (AV.int .u32) ([] ++ (sub' a 0 n))) rfl (v' := eL (AV.int .u32) ([] ++ (sub' a 0 n))) (frz_full rfl) ?_
    exact gives_out hrg (VW.refl _) (hQ _ h)
  refine Vc.blk ?_
  obtain ⟨I, μ, h0, hI⟩ := h
  refine Vc.loop' (σ := (Int)) (fun y => I y) (fun y => μ y) (fun y => envOf [(0, eL (AV.int .u32) a), (3, .int .i64 y)]) (fun y => stL S rg []) (a.length : Int) (canon (fc vr (fc vr (fn))) (sn)) h0 (fun n1 h => ?_)
  replace h := hI n1 h
  show Vc _ _ _ _ (envOf [(0, eL (AV.int .u32) a), (3, .int .i64 n1)]) (stL S rg [])
  refine qZ (qZ (rZ (mvZ (.int .i64 n1) rfl (wZ rg (o_gtr rfl rfl (mvZ (.bool (decide (0 < n1))) rfl ?_))))))
  refine Wl.guard rfl rfl (fun hb1 => ?_) (fun hb1 => ?_)
  · replace h := h.1 hb1
    refine mvZ (eL (AV.int .u32) a) rfl ?_
    refine Wl.guardT rfl rfl hb1 ?_
    refine mvZ (.int .i64 n1) rfl ?_
    refine Wl.guardT rfl rfl hb1 ?_
    refine wZ rg (o_subG rfl rfl h.1 ?_)
    replace h := h.2
    refine Wl.guardT rfl rfl hb1 ?_
    refine wZ rg (o_idxL td138 sz186 (by decide) (fun _ => rfl) rfl rfl h.1 ?_)
    replace h := h.2
    refine Wl.guardT rfl rfl hb1 ?_
    refine wZ rg (o_loadI1 sz186 ag186 rfl rfl (v := .int .u32 (at' a (n1 - 1))) rfl ?_)
    refine Wl.guardT rfl rfl hb1 ?_
    refine wZ rg (o_eql rfl rfl (wZ rg (o_pickT rfl hb1 (v := .bool ((at' a (n1 - 1)) == 0)) rfl (nZ ?_))))
    refine Vc.cond' rfl (fun hb2 => ?_) (fun hb2 => ?_)
    · replace h := h.1 hb2
      refine Vc.skip' ?_
      refine Vc.blk ?_
      refine rZ ?_
      refine mvZ (.int .i64 n1) rfl (wZ rg (o_subG rfl rfl h.1 ?_))
      replace h := h.2
      refine asZ (.int .i64 (n1 - 1)) rfl (nZ ?_)
      exact ⟨(n1 - 1), (canon (fc vr (fc vr (fn))) (sn)), h⟩
    replace h := h.2 hb2
    refine Vc.exit' (exB_self ?_)
    exact ⟨n1, (canon (fc vr (fc vr (fn))) (sn)), h⟩
  replace h := h.2 hb1
  refine Wl.guardF rfl rfl hb1 rfl ?_
  refine Wl.guardF rfl rfl hb1 rfl ?_
  refine Wl.guardF rfl rfl hb1 rfl ?_
  refine Wl.guardF rfl rfl hb1 rfl ?_
  refine Wl.guardF rfl rfl hb1 rfl ?_
  refine wZ rg (o_pickF rfl hb1 (v := .bool false) rfl (nZ ?_))
  refine Vc.cond' rfl (fun hb => Bool.noConfusion hb) (fun _ => ?_)
  refine Vc.exit' (exB_self ?_)
  exact ⟨n1, (canon (fc vr (fc vr (fn))) (sn)), h⟩
theorem natural_Cmp_ctr {a : List Int} {b : List Int} {Q : Int → Prop} {S : St} {R : AV → St → Prop} (h : natural_Cmp_W a b Q) (hQ : ∀ r1, Q r1 → R (AV.int .i64 r1) S) :
    Ctr Try.prog 149 [eL (AV.int .u32) a, eL (AV.int .u32) b] S R := by
  unfold natural_Cmp_W at h
  refine enterT Try.func149 rfl Try.ntmps149 Try.results149 (by kernel_rfl) (fun rg hrg => ?_)
  refine qZ (rZ (asZ (.int .i64 0) rfl (nZ (qZ (rZ (mvZ (eL (AV.int .u32) a) rfl (wZ rg (o_call (us := [eL (AV.int .u32) a]) rfl (vl' vr (vn)) (natural_trim_ctr h fun a1 h => (mvZ (eL (AV.int .u32) b) rfl (wZ rg (o_call (us := [eL (AV.int .u32) b]) rfl (vl' vr (vn)) (natural_trim_ctr h fun b1 h => (asZ (eL (AV.int .u32) a1) rfl (asZ (eL (AV.int .u32) b1) rfl (nZ (qZ (qZ (rZ ?_)))))))))))))))))))
  refine mvZ (eL (AV.int .u32) a1) rfl (wZ rg (o_len td138 rfl (mvZ (eL (AV.int .u32) b1) rfl (wZ rg (o_len td138 rfl (wZ rg (o_neq rfl rfl (nZ ?_))))))))
  refine Vc.cond' rfl (fun hb => ?_) (fun hb => ?_)
  · replace h := h.1 hb
    refine qZ (qZ (rZ (mvZ (eL (AV.int .u32) a1) rfl (wZ rg (o_len td138 rfl (mvZ (eL (AV.int .u32) b1) rfl (wZ rg (o_len td138 rfl (wZ rg (o_lss rfl rfl (nZ ?_)))))))))))
    refine Vc.cond' rfl (fun hb1 => ?_) (fun hb1 => ?_)
    · replace h := h.1 hb1
      refine qZ (rZ (asZ (.int .i64 (-1)) rfl (nZ ?_)))
      refine Vc.ret' ?_
      refine res_tmp (v := .int .i64 (-1)) rfl (res_nil ?_)
      show Gives _ (.int .i64 (-1)) _
      exact gives_out hrg (VW.refl _) (hQ _ h)
    replace h := h.2 hb1
    refine Vc.skip' ?_
    refine qZ (rZ (asZ (.int .i64 1) rfl (nZ ?_)))
    refine Vc.ret' ?_
    refine res_tmp (v := .int .i64 1) rfl (res_nil ?_)
    show Gives _ (.int .i64 1) _
    exact gives_out hrg (VW.refl _) (hQ _ h)
  replace h := h.2 hb
  refine Vc.skip' ?_
  refine qZ (qZ (rZ (mvZ (eL (AV.int .u32) a1) rfl (wZ rg (o_len td138 rfl (wZ rg (o_subG rfl rfl h.1 ?_)))))))
  replace h := h.2
  refine asZ (.int .i64 ((a1.length : Int) - 1)) rfl (nZ ?_)
  refine Vc.blk ?_
  obtain ⟨I, μ, h0, hI⟩ := h
  refine Vc.loop' (σ := (Int)) (fun y => I y) (fun y => μ y) (fun y => envOf [(0, eL (AV.int .u32) a1), (1, eL (AV.int .u32) b1), (5, .int .i64 y)]) (fun y => stL S rg []) ((a1.length : Int) - 1) (canon (fc vr (fc vr (fc vr (fn)))) (sn)) h0 (fun i h => ?_)
  replace h := hI i h
  show Vc _ _ _ _ (envOf [(0, eL (AV.int .u32) a1), (1, eL (AV.int .u32) b1), (5, .int .i64 i)]) (stL S rg [])
  refine qZ (qZ (rZ (mvZ (.int .i64 i) rfl (wZ rg (o_geq rfl rfl (nZ ?_))))))
  refine Vc.cond' rfl (fun hb2 => ?_) (fun hb2 => ?_)
  · replace h := h.1 hb2
    refine Vc.skip' ?_
    refine qZ ?_
    refine Vc.blk ?_
    refine qZ (qZ ?_)
    have hg := h.1
    replace h := h.2
    have hg1 := h.1
    replace h := h.2
    refine Vc.drawn' mixed rg (fun _ => jcr2) (by kernel_rfl) ?_
    refine dP rfl rfl (o_move (v := eL (AV.int .u32) a1) rfl (dP rfl rfl (o_move (v := .int .i64 i) rfl (dP rfl rfl (o_idxL td138 sz186 (by decide) (fun _ => rfl) rfl rfl hg (dP rfl rfl (o_loadI1 sz186 ag186 rfl rfl (v := .int .u32 (at' a1 i)) rfl (dP rfl rfl (o_move (v := eL (AV.int .u32) b1) rfl (dP rfl rfl (o_move (v := .int .i64 i) rfl ?_)))))))))))
    refine dP rfl rfl (o_idxL td138 sz186 (by decide) (fun _ => rfl) rfl rfl hg1 (dP rfl rfl (o_loadI1 sz186 ag186 rfl rfl (v := .int .u32 (at' b1 i)) rfl (dP rfl rfl (o_lss rfl rfl (dN ?_))))))
    refine Vc.cond' rfl (fun hb3 => ?_) (fun hb3 => ?_)
    · replace h := h.1 hb3
      refine qZ (rZ (asZ (.int .i64 (-1)) rfl (nZ ?_)))
      refine Vc.ret' ?_
      refine res_tmp (v := .int .i64 (-1)) rfl (res_nil ?_)
      show Gives _ (.int .i64 (-1)) _
      exact gives_out hrg (VW.refl _) (hQ _ h)
    replace h := h.2 hb3
    refine Vc.skip' ?_
    refine qZ ?_
    have hg2 := h.1
    replace h := h.2
    have hg3 := h.1
    replace h := h.2
    refine Vc.drawn' mixed rg (fun _ => jcr2) (by kernel_rfl) ?_
    refine dP rfl rfl (o_move (v := eL (AV.int .u32) a1) rfl (dP rfl rfl (o_move (v := .int .i64 i) rfl (dP rfl rfl (o_idxL td138 sz186 (by decide) (fun _ => rfl) rfl rfl hg2 (dP rfl rfl (o_loadI1 sz186 ag186 rfl rfl (v := .int .u32 (at' a1 i)) rfl (dP rfl rfl (o_move (v := eL (AV.int .u32) b1) rfl (dP rfl rfl (o_move (v := .int .i64 i) rfl ?_)))))))))))
    refine dP rfl rfl (o_idxL td138 sz186 (by decide) (fun _ => rfl) rfl rfl hg3 (dP rfl rfl (o_loadI1 sz186 ag186 rfl rfl (v := .int .u32 (at' b1 i)) rfl (dP rfl rfl (o_gtr rfl rfl (dN ?_))))))
    refine Vc.cond' rfl (fun hb4 => ?_) (fun hb4 => ?_)
    · replace h := h.1 hb4
      refine qZ (rZ (asZ (.int .i64 1) rfl (nZ ?_)))
      refine Vc.ret' ?_
      refine res_tmp (v := .int .i64 1) rfl (res_nil ?_)
      show Gives _ (.int .i64 1) _
      exact gives_out hrg (VW.refl _) (hQ _ h)
    replace h := h.2 hb4
    refine Vc.skip' ?_
    refine rZ ?_
    refine mvZ (.int .i64 i) rfl (wZ rg (o_subG rfl rfl h.1 ?_))
    replace h := h.2
    refine asZ (.int .i64 (i - 1)) rfl (nZ ?_)
    exact ⟨(i - 1), (canon (fc vr (fc vr (fc vr (fn)))) (sn)), h⟩
  replace h := h.2 hb2
  refine Vc.exit' (exB_self ?_)
  refine qZ (rZ (asZ (.int .i64 0) rfl (nZ ?_)))
  refine Vc.ret' ?_
  refine res_tmp (v := .int .i64 0) rfl (res_nil ?_)
  show Gives _ (.int .i64 0) _
  exact gives_out hrg (VW.refl _) (hQ _ h)
theorem natural_Of_ctr {n : Int} {Q : List Int → Prop} {S : St} {R : AV → St → Prop} (h : natural_Of_W n Q) (hQ : ∀ r1, Q r1 → R (eL (AV.int .u32) r1) S) :
    Ctr Try.prog 164 [AV.int .i64 n] S R := by
  unfold natural_Of_W at h
  refine enterT Try.func164 rfl Try.ntmps164 Try.results164 (by kernel_rfl) (fun rg hrg => ?_)
  refine qZ (rZ (asZ .nil rfl (nZ (qZ (qZ (rZ (mvZ (.int .i64 n) rfl (wZ rg (o_leq rfl rfl (nZ ?_))))))))))
  refine Vc.cond' rfl (fun hb => ?_) (fun hb => ?_)
  · replace h := h.1 hb
    refine qZ (rZ (asZ .nil rfl (nZ ?_)))
    refine Vc.ret' ?_
    refine res_tmp (v := .nil) rfl (res_nil ?_)
    show Gives _ .nil _
    exact gives_out hrg (VW.nilL) (hQ _ h)
  replace h := h.2 hb
  refine Vc.skip' ?_
  refine qZ (rZ (mvZ (.int .i64 n) rfl (wZ rg (o_conv td3 td186 rfl (mvZ (.int .i64 n) rfl (wZ rg (o_shr rfl rfl (by decide) (wZ rg (o_conv td3 td186 rfl (wZ rg (o_bslice td138 ok186 zav186 (es := [.int .u32 (IntKind.wrap .u32 n), .int .u32 (IntKind.wrap .u32 (n / 2 ^ (Int.toNat 32)))]) rfl (kk := 1) rfl rfl rfl rfl rfl rfl (fun g1 => ?_))))))))))))
  refine Wl.wk (canon_freeze (k := 10) (xs := List.map (AV.int .u32) [(IntKind.wrap .u32 n), (IntKind.wrap .u32 (n / 2 ^ (Int.toNat 32)))]) rfl (es := [(10, eL (AV.int .u32) [(IntKind.wrap .u32 n), (IntKind.wrap .u32 (n / 2 ^ (Int.toNat 32)))])]) (fc (frz_full rfl) (fn)) (m := []) (sn)) ?_
  refine wZ rg (o_call (us := [eL (AV.int .u32) [(IntKind.wrap .u32 n), (IntKind.wrap .u32 (n / 2 ^ (Int.toNat 32)))]]) rfl (vl' vr (vn)) (natural_trim_ctr h fun r h => (asZ (eL (AV.int .u32) r) rfl (nZ ?_))))
  refine Vc.ret' ?_
  refine res_tmp (v := eL (AV.int .u32) r) rfl (res_nil ?_)
  show Gives _ (eL (AV.int .u32) r) _
  exact gives_out hrg (VW.refl _) (hQ _ h)
theorem natural_small_ctr {a : List Int} {b : Int} {Q : List Int → Int → Prop} {S : St} {R : AV → St → Prop} (h : natural_small_W a b Q) (hQ : ∀ r1 r2, Q r1 r2 → R (.tuple [eL (AV.int .u32) r1, AV.int .u32 r2]) S) :
    Ctr Try.prog 176 [eL (AV.int .u32) a, AV.int .u32 b] S R := by
  unfold natural_small_W at h
  refine enterT Try.func176 rfl Try.ntmps176 Try.results176 (by kernel_rfl) (fun rg hrg => ?_)
  refine qZ (rZ (asZ .nil rfl (asZ (.int .u32 0) rfl (nZ (qZ (rZ (mvZ (eL (AV.int .u32) a) rfl (wZ rg (o_len td138 rfl (wZ rg (o_make td138 bts186 ok186 (enc := AV.int .u32) (z' := 0) zav186 (kk := 1) rfl rfl rfl h.1 (fun g1 => ?_))))))))))))
  replace h := h.2
  refine asZ (.sl 1 rg 11 g1 0 (Int.toNat (a.length : Int))) rfl (nZ (qZ (rZ (asZ (.int .u64 0) rfl (nZ (qZ (qZ (rZ (mvZ (eL (AV.int .u32) a) rfl (wZ rg (o_len td138 rfl (wZ rg (o_subG rfl rfl h.1 ?_)))))))))))))
  replace h := h.2
  refine asZ (.int .i64 ((a.length : Int) - 1)) rfl (nZ ?_)
  refine Vc.blk ?_
  obtain ⟨I, μ, h0, hI⟩ := h
  refine Vc.loop' (σ := (Int × Int × (List Int))) (fun y => I y) (fun y => μ y) (fun y => envOf [(0, eL (AV.int .u32) a), (1, .int .u32 b), (6, .sl 1 rg 11 g1 0 y.2.2.length), (7, .int .u64 y.1), (8, .int .i64 y.2.1)]) (fun y => stL S rg [(11, .arr 1 (List.map (AV.int .u32) y.2.2), g1)]) (0, ((a.length : Int) - 1), (rep' (a.length : Int) 0)) (canon (fc vr (fc vr (fc (VW.slen (by first | rfl | omega | (simp only [go_sem] <;> omega))) (fc vr (fc vr (fn)))))) (sc rfl (sn))) h0 (fun y h => ?_)
  obtain ⟨rest, i, out⟩ := y
  replace h := hI (rest, i, out) h
  show Vc _ _ _ _ (envOf [(0, eL (AV.int .u32) a), (1, .int .u32 b), (6, .sl 1 rg 11 g1 0 out.length), (7, .int .u64 rest), (8, .int .i64 i)]) (stL S rg [(11, .arr 1 (List.map (AV.int .u32) out), g1)])
  refine qZ (qZ (rZ (mvZ (.int .i64 i) rfl (wZ rg (o_geq rfl rfl (nZ ?_))))))
  refine Vc.cond' rfl (fun hb => ?_) (fun hb => ?_)
  · replace h := h.1 hb
    refine Vc.skip' ?_
    refine qZ ?_
    refine Vc.blk ?_
    refine qZ (rZ (mvZ (.int .u64 rest) rfl (wZ rg (o_shl rfl rfl (by decide) (mvZ (eL (AV.int .u32) a) rfl (mvZ (.int .i64 i) rfl (wZ rg (o_idxL td138 sz186 (by decide) (fun _ => rfl) rfl rfl h.1 ?_))))))))
    replace h := h.2
    refine wZ rg (o_loadI1 sz186 ag186 rfl rfl (v := .int .u32 (at' a i)) rfl (wZ rg (o_conv td186 td188 rfl (wZ rg (o_or rfl rfl ?_)))))
    obtain ⟨rest1, hs⟩ : ∃ qz : Int, qz = (bits .or .u64 (IntKind.wrap .u64 (rest * 2 ^ (Int.toNat 32))) (IntKind.wrap .u64 (at' a i))) := ⟨_, rfl⟩
    replace h := h rest1 hs
    refine wZ rg (o_assign (v := .int .u64 rest1) (by subst hs; rfl) (nZ (qZ (rZ (mvZ (.sl 1 rg 11 g1 0 out.length) rfl (mvZ (.int .i64 i) rfl (mvZ (.int .u64 rest1) rfl (mvZ (.int .u32 b) rfl (wZ rg (o_conv td186 td188 rfl (wZ rg (o_quo rfl rfl h.1 ?_))))))))))))
    replace h := h.2
    refine wZ rg (o_conv td188 td186 rfl (wZ rg (o_idxR0 td138 sz186 (by decide) rfl rfl h.1 ?_)))
    have hi := h.1
    replace h := h.2
    refine wZ rg (o_storeR1 (atL (k := 11) rfl) sz186 (by decide) (x' := (IntKind.wrap .u32 (IntKind.wrap .u64 (Int.tdiv rest1 (IntKind.wrap .u64 b))))) (fun _ => rfl) rfl rfl (lt_of hi (by first | rfl | omega | (simp only [go_sem] <;> omega))) rfl rfl setL (nZ (rZ (mvZ (.int .u64 rest1) rfl (mvZ (.int .u32 b) rfl (wZ rg (o_conv td186 td188 rfl (wZ rg (o_rem rfl rfl h.1 ?_)))))))))
    replace h := h.2
    refine asZ (.int .u64 (Int.tmod rest1 (IntKind.wrap .u64 b))) rfl (nZ (rZ (mvZ (.int .i64 i) rfl (wZ rg (o_subG rfl rfl h.1 ?_)))))
    replace h := h.2
    refine asZ (.int .i64 (i - 1)) rfl (nZ ?_)
    exact ⟨((Int.tmod rest1 (IntKind.wrap .u64 b)), (i - 1), (set' out i (IntKind.wrap .u32 (IntKind.wrap .u64 (Int.tdiv rest1 (IntKind.wrap .u64 b)))))), (canon (fc vr (fc vr (fc (VW.slen (by first | rfl | omega | (simp only [go_sem] <;> omega))) (fc vr (fc vr (fn)))))) (sc rfl (sn))), h⟩
  replace h := h.2 hb
  refine Vc.exit' (exB_self ?_)
  refine qZ (rZ (mvZ (.sl 1 rg 11 g1 0 out.length) rfl ?_))
  refine Wl.wk (canon_freeze (k := 11) (xs := List.map (AV.int .u32) out) rfl (es := [(7, .int .u64 rest), (39, eL (AV.int .u32) out)]) (fc vr (fc (frz_full rfl) (fn))) (m := []) (sn)) ?_
  refine wZ rg (o_call (us := [eL (AV.int .u32) out]) rfl (vl' vr (vn)) (natural_trim_ctr h fun r h => (mvZ (.int .u64 rest) rfl (wZ rg (o_conv td188 td186 rfl (asZ (eL (AV.int .u32) r) rfl (asZ (.int .u32 (IntKind.wrap .u32 rest)) rfl (nZ ?_))))))))
  refine Vc.ret' ?_
  refine res_tmp (v := eL (AV.int .u32) r) rfl (res_tmp (v := .int .u32 (IntKind.wrap .u32 rest)) rfl (res_nil ?_))
  show Gives _ (.tuple [eL (AV.int .u32) r, .int .u32 (IntKind.wrap .u32 rest)]) _
  exact gives_out hrg (VW.tupL (vl' vr (vl' vr (vn)))) (hQ _ _ h)
theorem math_bits_LeadingZeros32_ctr {x : Int} {Q : Int → Prop} {S : St} {R : AV → St → Prop} (h : math_bits_LeadingZeros32_W x Q) (hQ : ∀ r1, Q r1 → R (AV.int .i64 r1) S) :
    Ctr Try.prog 177 [AV.int .u32 x] S R := by
  unfold math_bits_LeadingZeros32_W at h
  refine enterT Try.func177 rfl Try.ntmps177 Try.results177 (by kernel_rfl) (fun rg hrg => ?_)
  refine qZ (rZ (asZ (.int .i64 0) rfl (nZ (qZ (rZ (mvZ (.int .u32 x) rfl (wZ rg (o_call (us := [AV.int .u32 x]) rfl (vl' vr (vn)) (math_bits_Len32_ctr h fun r h => (wZ rg (o_subG rfl rfl h.1 ?_)))))))))))
  replace h := h.2
  refine asZ (.int .i64 (32 - r)) rfl (nZ ?_)
  refine Vc.ret' ?_
  refine res_tmp (v := .int .i64 (32 - r)) rfl (res_nil ?_)
  show Gives _ (.int .i64 (32 - r)) _
  exact gives_out hrg (VW.refl _) (hQ _ h)
theorem natural_left_ctr {a : List Int} {n : Int} {Q : List Int → Prop} {S : St} {R : AV → St → Prop} (h : natural_left_W a n Q) (hQ : ∀ r1, Q r1 → R (eL (AV.int .u32) r1) S) :
    Ctr Try.prog 178 [eL (AV.int .u32) a, AV.int .i64 n] S R := by
  unfold natural_left_W at h
  refine enterT Try.func178 rfl Try.ntmps178 Try.results178 (by kernel_rfl) (fun rg hrg => ?_)
  refine qZ (rZ (asZ .nil rfl (nZ (qZ (rZ (mvZ (eL (AV.int .u32) a) rfl (wZ rg (o_len td138 rfl (wZ rg (o_addG rfl rfl h.1 ?_))))))))))
  replace h := h.2
  refine wZ rg (o_make td138 bts186 ok186 (enc := AV.int .u32) (z' := 0) zav186 (kk := 1) rfl rfl rfl h.1 (fun g1 => ?_))
  replace h := h.2
  refine asZ (.sl 1 rg 12 g1 0 (Int.toNat ((a.length : Int) + 1))) rfl (nZ (qZ (qZ (rZ (mvZ (eL (AV.int .u32) a) rfl (wZ rg (o_len td138 rfl (mvZ (.int .i64 0) rfl (nZ ?_)))))))))
  refine Vc.blk ?_
  obtain ⟨I, μ, h0, hI⟩ := h
  refine Vc.loop' (σ := (Int × (List Int))) (fun y => I y) (fun y => μ y) (fun y => envOf [(1, .int .i64 n), (5, .sl 1 rg 12 g1 0 y.2.length), (13, eL (AV.int .u32) a), (14, .int .i64 (a.length : Int)), (15, .int .i64 y.1)]) (fun y => stL S rg [(12, .arr 1 (List.map (AV.int .u32) y.2), g1)]) (0, (rep' ((a.length : Int) + 1) 0)) (canon (fc vr (fc (VW.slen (by first | rfl | omega | (simp only [go_sem] <;> omega))) (fc vr (fc vr (fc vr (fn)))))) (sc rfl (sn))) h0 (fun y h => ?_)
  obtain ⟨x, out⟩ := y
  replace h := hI (x, out) h
  show Vc _ _ _ _ (envOf [(1, .int .i64 n), (5, .sl 1 rg 12 g1 0 out.length), (13, eL (AV.int .u32) a), (14, .int .i64 (a.length : Int)), (15, .int .i64 x)]) (stL S rg [(12, .arr 1 (List.map (AV.int .u32) out), g1)])
  refine qZ (rZ (wZ rg (o_lss rfl rfl (nZ (qZ ?_)))))
  refine Vc.cond' rfl (fun hb => ?_) (fun hb => ?_)
  · replace h := h.1 hb
    refine Vc.skip' ?_
    refine qZ ?_
    refine Vc.blk ?_
    refine qZ (rZ (mvZ (.int .i64 x) rfl (wZ rg (o_idxL td138 sz186 (by decide) (fun _ => rfl) rfl rfl h.1 ?_))))
    replace h := h.2
    refine wZ rg (o_loadI1 sz186 ag186 rfl rfl (v := .int .u32 (at' a x)) rfl (asZ (.int .i64 x) rfl (asZ (.int .u32 (at' a x)) rfl (nZ (qZ (rZ (mvZ (.int .u32 (at' a x)) rfl (wZ rg (o_conv td186 td188 rfl (mvZ (.int .i64 n) rfl (wZ rg (o_shl rfl rfl h.1 ?_))))))))))))
    replace h := h.2
    obtain ⟨y1, hs⟩ : ∃ qz : Int, qz = (IntKind.wrap .u64 ((IntKind.wrap .u64 (at' a x)) * 2 ^ (Int.toNat n))) := ⟨_, rfl⟩
    replace h := h y1 hs
    refine wZ rg (o_assign (v := .int .u64 y1) (by subst hs; rfl) (nZ (qZ (rZ (mvZ (.sl 1 rg 12 g1 0 out.length) rfl (mvZ (.int .i64 x) rfl (wZ rg (o_idxR0 td138 sz186 (by decide) rfl rfl h.1 ?_))))))))
    have hi := h.1
    replace h := h.2
    refine wZ rg (o_loadR1 (atL (k := 12) rfl) sz186 ag186 rfl (lt_of hi (by first | rfl | omega | (simp only [go_sem] <;> omega))) rfl (v := .int .u32 (at' out x)) rfl (mvZ (.int .u64 y1) rfl (wZ rg (o_conv td188 td186 rfl (wZ rg (o_or rfl rfl (wZ rg (o_idxR0 td138 sz186 (by decide) rfl rfl h.1 ?_))))))))
    have hi1 := h.1
    replace h := h.2
    refine wZ rg (o_storeR1 (atL (k := 12) rfl) sz186 (by decide) (x' := (bits .or .u32 (at' out x) (IntKind.wrap .u32 y1))) (fun _ => rfl) rfl rfl (lt_of hi1 (by first | rfl | omega | (simp only [go_sem] <;> omega))) rfl rfl setL (nZ (rZ (mvZ (.sl 1 rg 12 g1 0 out.length) rfl (mvZ (.int .i64 x) rfl (wZ rg (o_addG rfl rfl h.1 ?_)))))))
    replace h := h.2
    refine mvZ (.int .u64 y1) rfl (wZ rg (o_shr rfl rfl (by decide) (wZ rg (o_conv td188 td186 rfl (wZ rg (o_idxR0 td138 sz186 (by decide) rfl rfl h.1 ?_))))))
    have hi2 := h.1
    replace h := h.2
    refine wZ rg (o_storeR1 (atL (k := 12) rfl) sz186 (by decide) (x' := (IntKind.wrap .u32 (y1 / 2 ^ (Int.toNat 32)))) (fun _ => rfl) rfl rfl (lt_of hi2 (by first | rfl | omega | (simp only [go_sem] <;> omega))) rfl rfl setL (nZ (rZ (wZ rg (o_addG rfl rfl h.1 ?_)))))
    replace h := h.2
    refine mvZ (.int .i64 (x + 1)) rfl (nZ ?_)
    exact ⟨((x + 1), (set' (set' out x (bits .or .u32 (at' out x) (IntKind.wrap .u32 y1))) (x + 1) (IntKind.wrap .u32 (y1 / 2 ^ (Int.toNat 32))))), (canon (fc vr (fc (VW.slen (by first | rfl | omega | (simp only [go_sem] <;> omega))) (fc vr (fc vr (fc vr (fn)))))) (sc rfl (sn))), h⟩
  replace h := h.2 hb
  refine Vc.exit' (exB_self ?_)
  refine qZ (rZ (mvZ (.sl 1 rg 12 g1 0 out.length) rfl (asZ (.sl 1 rg 12 g1 0 out.length) rfl (nZ ?_))))
  refine Vc.ret' ?_
  refine res_tmp (v := .sl 1 rg 12 g1 0 out.length) rfl (res_nil ?_)
  show Gives _ (.sl 1 rg 12 g1 0 out.length) _
  refine gives_freeze (k := 12) (xs := List.map (AV.int .u32) out) rfl (v' := eL (AV.int .u32) out) (frz_full rfl) ?_
  exact gives_out hrg (VW.refl _) (hQ _ h)
theorem natural_left_ctrO {a : List Int} {n : Int} (q k : Nat) {Q : List Int → Prop} {S : St} {R : AV → St → Prop} (h : natural_left_W a n Q) (hQ : ∀ r1 g, Q r1 → R (.sl 1 q k g 0 r1.length) (S.set q k (.arr 1 (List.map (AV.int .u32) r1)) g)) :
    Ctr Try.prog 178 [eL (AV.int .u32) a, AV.int .i64 n] S R := by
  unfold natural_left_W at h
  refine enterT Try.func178 rfl Try.ntmps178 Try.results178 (by kernel_rfl) (fun rg hrg => ?_)
  refine qZ (rZ (asZ .nil rfl (nZ (qZ (rZ (mvZ (eL (AV.int .u32) a) rfl (wZ rg (o_len td138 rfl (wZ rg (o_addG rfl rfl h.1 ?_))))))))))
  replace h := h.2
  refine wZ rg (o_make td138 bts186 ok186 (enc := AV.int .u32) (z' := 0) zav186 (kk := 1) rfl rfl rfl h.1 (fun g1 => ?_))
  replace h := h.2
  refine asZ (.sl 1 rg 12 g1 0 (Int.toNat ((a.length : Int) + 1))) rfl (nZ (qZ (qZ (rZ (mvZ (eL (AV.int .u32) a) rfl (wZ rg (o_len td138 rfl (mvZ (.int .i64 0) rfl (nZ ?_)))))))))
  refine Vc.blk ?_
  obtain ⟨I, μ, h0, hI⟩ := h
  refine Vc.loop' (σ := (Int × (List Int))) (fun y => I y) (fun y => μ y) (fun y => envOf [(1, .int .i64 n), (5, .sl 1 rg 12 g1 0 y.2.length), (13, eL (AV.int .u32) a), (14, .int .i64 (a.length : Int)), (15, .int .i64 y.1)]) (fun y => stL S rg [(12, .arr 1 (List.map (AV.int .u32) y.2), g1)]) (0, (rep' ((a.length : Int) + 1) 0)) (canon (fc vr (fc (VW.slen (by first | rfl | omega | (simp only [go_sem] <;> omega))) (fc vr (fc vr (fc vr (fn)))))) (sc rfl (sn))) h0 (fun y h => ?_)
  obtain ⟨x, out⟩ := y
  replace h := hI (x, out) h
  show Vc _ _ _ _ (envOf [(1, .int .i64 n), (5, .sl 1 rg 12 g1 0 out.length), (13, eL (AV.int .u32) a), (14, .int .i64 (a.length : Int)), (15, .int .i64 x)]) (stL S rg [(12, .arr 1 (List.map (AV.int .u32) out), g1)])
  refine qZ (rZ (wZ rg (o_lss rfl rfl (nZ (qZ ?_)))))
  refine Vc.cond' rfl (fun hb => ?_) (fun hb => ?_)
  · replace h := h.1 hb
    refine Vc.skip' ?_
    refine qZ ?_
    refine Vc.blk ?_
    refine qZ (rZ (mvZ (.int .i64 x) rfl (wZ rg (o_idxL td138 sz186 (by decide) (fun _ => rfl) rfl rfl h.1 ?_))))
    replace h := h.2
    refine wZ rg (o_loadI1 sz186 ag186 rfl rfl (v := .int .u32 (at' a x)) rfl (asZ (.int .i64 x) rfl (asZ (.int .u32 (at' a x)) rfl (nZ (qZ (rZ (mvZ (.int .u32 (at' a x)) rfl (wZ rg (o_conv td186 td188 rfl (mvZ (.int .i64 n) rfl (wZ rg (o_shl rfl rfl h.1 ?_))))))))))))
    replace h := h.2
    obtain ⟨y1, hs⟩ : ∃ qz : Int, qz = (IntKind.wrap .u64 ((IntKind.wrap .u64 (at' a x)) * 2 ^ (Int.toNat n))) := ⟨_, rfl⟩
    replace h := h y1 hs
    refine wZ rg (o_assign (v := .int .u64 y1) (by subst hs; rfl) (nZ (qZ (rZ (mvZ (.sl 1 rg 12 g1 0 out.length) rfl (mvZ (.int .i64 x) rfl (wZ rg (o_idxR0 td138 sz186 (by decide) rfl rfl h.1 ?_))))))))
    have hi := h.1
    replace h := h.2
    refine wZ rg (o_loadR1 (atL (k := 12) rfl) sz186 ag186 rfl (lt_of hi (by first | rfl | omega | (simp only [go_sem] <;> omega))) rfl (v := .int .u32 (at' out x)) rfl (mvZ (.int .u64 y1) rfl (wZ rg (o_conv td188 td186 rfl (wZ rg (o_or rfl rfl (wZ rg (o_idxR0 td138 sz186 (by decide) rfl rfl h.1 ?_))))))))
    have hi1 := h.1
    replace h := h.2
    refine wZ rg (o_storeR1 (atL (k := 12) rfl) sz186 (by decide) (x' := (bits .or .u32 (at' out x) (IntKind.wrap .u32 y1))) (fun _ => rfl) rfl rfl (lt_of hi1 (by first | rfl | omega | (simp only [go_sem] <;> omega))) rfl rfl setL (nZ (rZ (mvZ (.sl 1 rg 12 g1 0 out.length) rfl (mvZ (.int .i64 x) rfl (wZ rg (o_addG rfl rfl h.1 ?_)))))))
    replace h := h.2
    refine mvZ (.int .u64 y1) rfl (wZ rg (o_shr rfl rfl (by decide) (wZ rg (o_conv td188 td186 rfl (wZ rg (o_idxR0 td138 sz186 (by decide) rfl rfl h.1 ?_))))))
    have hi2 := h.1
    replace h := h.2
    refine wZ rg (o_storeR1 (atL (k := 12) rfl) sz186 (by decide) (x' := (IntKind.wrap .u32 (y1 / 2 ^ (Int.toNat 32)))) (fun _ => rfl) rfl rfl (lt_of hi2 (by first | rfl | omega | (simp only [go_sem] <;> omega))) rfl rfl setL (nZ (rZ (wZ rg (o_addG rfl rfl h.1 ?_)))))
    replace h := h.2
    refine mvZ (.int .i64 (x + 1)) rfl (nZ ?_)
    exact ⟨((x + 1), (set' (set' out x (bits .or .u32 (at' out x) (IntKind.wrap .u32 y1))) (x + 1) (IntKind.wrap .u32 (y1 / 2 ^ (Int.toNat 32))))), (canon (fc vr (fc (VW.slen (by first | rfl | omega | (simp only [go_sem] <;> omega))) (fc vr (fc vr (fc vr (fn)))))) (sc rfl (sn))), h⟩
  replace h := h.2 hb
  refine Vc.exit' (exB_self ?_)
  refine qZ (rZ (mvZ (.sl 1 rg 12 g1 0 out.length) rfl (asZ (.sl 1 rg 12 g1 0 out.length) rfl (nZ ?_))))
  refine Vc.ret' ?_
  refine res_tmp (v := .sl 1 rg 12 g1 0 out.length) rfl (res_nil ?_)
  show Gives _ (.sl 1 rg 12 g1 0 out.length) _
  exact gives_own q k hrg rfl (fun g' => hQ _ g' h)
theorem natural_word_ctr {a : List Int} {i : Int} {Q : Int → Prop} {S : St} {R : AV → St → Prop} (h : natural_word_W a i Q) (hQ : ∀ r1, Q r1 → R (AV.int .u64 r1) S) :
    Ctr Try.prog 167 [eL (AV.int .u32) a, AV.int .i64 i] S R := by
  unfold natural_word_W at h
  refine enterT Try.func167 rfl Try.ntmps167 Try.results167 (by kernel_rfl) (fun rg hrg => ?_)
  refine qZ (rZ (asZ (.int .u64 0) rfl (nZ (qZ (qZ (rZ (mvZ (.int .i64 i) rfl (mvZ (eL (AV.int .u32) a) rfl (wZ rg (o_len td138 rfl (wZ rg (o_lss rfl rfl (nZ ?_)))))))))))))
  refine Vc.cond' rfl (fun hb => ?_) (fun hb => ?_)
  · replace h := h.1 hb
    refine qZ (rZ (mvZ (eL (AV.int .u32) a) rfl (mvZ (.int .i64 i) rfl (wZ rg (o_idxL td138 sz186 (by decide) (fun _ => rfl) rfl rfl h.1 ?_)))))
    replace h := h.2
    refine wZ rg (o_loadI1 sz186 ag186 rfl rfl (v := .int .u32 (at' a i)) rfl (wZ rg (o_conv td186 td188 rfl (asZ (.int .u64 (IntKind.wrap .u64 (at' a i))) rfl (nZ ?_)))))
    refine Vc.ret' ?_
    refine res_tmp (v := .int .u64 (IntKind.wrap .u64 (at' a i))) rfl (res_nil ?_)
    show Gives _ (.int .u64 (IntKind.wrap .u64 (at' a i))) _
    exact gives_out hrg (VW.refl _) (hQ _ h)
  replace h := h.2 hb
  refine Vc.skip' ?_
  refine qZ (rZ (asZ (.int .u64 0) rfl (nZ ?_)))
  refine Vc.ret' ?_
  refine res_tmp (v := .int .u64 0) rfl (res_nil ?_)
  show Gives _ (.int .u64 0) _
  exact gives_out hrg (VW.refl _) (hQ _ h)
theorem natural_take_ctr {u : List Int} {uo : Nat} {ul : Nat} {v : List Int} {n : Int} {q0 k0 g0 : Nat} {Q : List Int → Bool → Prop} {S : St} {R : AV → St → Prop} (h : natural_take_W u uo ul v n Q) (hQ : ∀ r1 r2, Q r1 r2 → R (AV.bool r2) (stX S [(q0, k0, .arr 1 (List.map (AV.int .u32) r1), g0)])) :
    Ctr Try.prog 179 [.sl 1 q0 k0 g0 uo ul, eL (AV.int .u32) v, AV.int .u64 n] (stX S [(q0, k0, .arr 1 (List.map (AV.int .u32) u), g0)]) R := by
  unfold natural_take_W at h
  refine enterT Try.func179 rfl Try.ntmps179 Try.results179 (by kernel_rfl) (fun rg hrg => ?_)
  have hdx : DX [(q0, k0, .arr 1 (List.map (AV.int .u32) u), g0)] := dx1
  have hfr := fun X' e => fresh_set (S := S) (rg := rg) (X := [(q0, k0, .arr 1 (List.map (AV.int .u32) u), g0)]) (X' := X') e hrg
  have hne0 := fresh_ne hdx hrg 0 rfl
  refine qZ (rZ (asZ (.bool false) rfl (nZ (qZ (rZ (asZ (.int .u64 0) rfl (asZ (.int .u64 0) rfl (nZ (qZ (qZ (rZ (mvZ (.sl 1 q0 k0 g0 uo ul) rfl (wZ rg (o_lenR td138 rfl (mvZ (.int .i64 0) rfl (nZ ?_))))))))))))))))
  refine Vc.blk ?_
  obtain ⟨I, μ, h0, hI⟩ := h
  refine Vc.loop' (σ := (Int × Int × Int × (List Int))) (fun y => I y) (fun y => μ y) (fun y => envOf [(0, .sl 1 q0 k0 g0 uo ul), (1, eL (AV.int .u32) v), (2, .int .u64 n), (7, .int .u64 y.1), (8, .int .u64 y.2.1), (12, .int .i64 (ul : Int)), (13, .int .i64 y.2.2.1)]) (fun y => stL (stX S [(q0, k0, .arr 1 (List.map (AV.int .u32) y.2.2.2), g0)]) rg []) (0, 0, 0, u) (canon (fc vr (fc vr (fc vr (fc vr (fc vr (fc vr (fc vr (fn)))))))) (sn)) h0 (fun y h => ?_)
  obtain ⟨carry, borrow, x, u1⟩ := y
  replace h := hI (carry, borrow, x, u1) h
  show Vc _ _ _ _ (envOf [(0, .sl 1 q0 k0 g0 uo ul), (1, eL (AV.int .u32) v), (2, .int .u64 n), (7, .int .u64 carry), (8, .int .u64 borrow), (12, .int .i64 (ul : Int)), (13, .int .i64 x)]) (stL (stX S [(q0, k0, .arr 1 (List.map (AV.int .u32) u1), g0)]) rg [])
  refine qZ (rZ (wZ rg (o_lss rfl rfl (nZ (qZ ?_)))))
  refine Vc.cond' rfl (fun hb => ?_) (fun hb => ?_)
  · replace h := h.1 hb
    refine Vc.skip' ?_
    refine qZ ?_
    refine Vc.blk ?_
    refine qZ (rZ (mvZ (.int .i64 x) rfl (asZ (.int .i64 x) rfl (nZ (qZ (rZ (mvZ (.int .u64 carry) rfl (mvZ (.int .u64 n) rfl (mvZ (eL (AV.int .u32) v) rfl (mvZ (.int .i64 x) rfl (wZ rg (o_call (us := [eL (AV.int .u32) v, AV.int .i64 x]) rfl (vl' vr (vl' vr (vn))) (natural_word_ctr h fun r h => (wZ rg (o_mul rfl rfl (wZ rg (o_add rfl rfl ?_)))))))))))))))))
    obtain ⟨carry1, hs⟩ : ∃ qz : Int, qz = (IntKind.wrap .u64 (carry + (IntKind.wrap .u64 (n * r)))) := ⟨_, rfl⟩
    replace h := h carry1 hs
    refine wZ rg (o_assign (v := .int .u64 carry1) (by subst hs; rfl) (nZ (qZ (rZ (mvZ (.sl 1 q0 k0 g0 uo ul) rfl (mvZ (.int .i64 x) rfl (wZ rg (o_idxRO td138 sz186 (by decide) rfl rfl h.1 ?_))))))))
    have hi := h.1
    replace h := h.2
    refine wZ rg (o_loadR1 (atX hne0 hdx 0 rfl) sz186 ag186 rfl (h.1) rfl (v := .int .u32 (at' u1 ((uo : Int) + x))) rfl ?_)
    replace h := h.2
    refine wZ rg (o_conv td186 td188 rfl (mvZ (.int .u64 carry1) rfl (wZ rg (o_conv td188 td186 rfl (wZ rg (o_conv td186 td188 rfl (wZ rg (o_sub rfl rfl (mvZ (.int .u64 borrow) rfl (wZ rg (o_sub rfl rfl ?_)))))))))))
    obtain ⟨d, hs1⟩ : ∃ qz : Int, qz = (IntKind.wrap .u64 ((IntKind.wrap .u64 ((IntKind.wrap .u64 (at' u1 ((uo : Int) + x))) - (IntKind.wrap .u64 (IntKind.wrap .u32 carry1)))) - borrow)) := ⟨_, rfl⟩
    replace h := h d hs1
    refine wZ rg (o_assign (v := .int .u64 d) (by subst hs1; rfl) (nZ (qZ (rZ (mvZ (.sl 1 q0 k0 g0 uo ul) rfl (mvZ (.int .i64 x) rfl (mvZ (.int .u64 d) rfl (wZ rg (o_conv td188 td186 rfl (wZ rg (o_idxRO td138 sz186 (by decide) rfl rfl h.1 ?_)))))))))))
    have hi1 := h.1
    replace h := h.2
    refine wZ rg (o_storeR1 (atX hne0 hdx 0 rfl) sz186 (by decide) (x' := (IntKind.wrap .u32 d)) (fun _ => rfl) rfl rfl (h.1) rfl rfl (setX hne0 hdx 0 rfl rfl) ?_)
    replace h := h.2
    refine nZ (qZ (rZ (mvZ (.int .u64 d) rfl (wZ rg (o_shr rfl rfl (by decide) (asZ (.int .u64 (d / 2 ^ (Int.toNat 63))) rfl (nZ (rZ (mvZ (.int .u64 carry1) rfl (wZ rg (o_shr rfl rfl (by decide) (asZ (.int .u64 (carry1 / 2 ^ (Int.toNat 32))) rfl (nZ (rZ (wZ rg (o_addG rfl rfl h.1 ?_))))))))))))))))
    replace h := h.2
    refine mvZ (.int .i64 (x + 1)) rfl (nZ ?_)
    exact ⟨((carry1 / 2 ^ (Int.toNat 32)), (d / 2 ^ (Int.toNat 63)), (x + 1), (set' u1 ((uo : Int) + x) (IntKind.wrap .u32 d))), (canon (fc vr (fc vr (fc vr (fc vr (fc vr (fc vr (fc vr (fn)))))))) (sn)), h⟩
  replace h := h.2 hb
  refine Vc.exit' (exB_self ?_)
  refine qZ (rZ (mvZ (.int .u64 borrow) rfl (wZ rg (o_eql rfl rfl (asZ (.bool (borrow == 1)) rfl (nZ ?_))))))
  refine Vc.ret' ?_
  refine res_tmp (v := .bool (borrow == 1)) rfl (res_nil ?_)
  show Gives _ (.bool (borrow == 1)) _
  exact gives_out (hfr _ rfl) (VW.refl _) (hQ _ _ h)
theorem natural_give_ctr {u : List Int} {uo : Nat} {ul : Nat} {v : List Int} {q0 k0 g0 : Nat} {Q : List Int → Prop} {S : St} {R : AV → St → Prop} (h : natural_give_W u uo ul v Q) (hQ : ∀ r1, Q r1 → R (.tuple []) (stX S [(q0, k0, .arr 1 (List.map (AV.int .u32) r1), g0)])) :
    Ctr Try.prog 180 [.sl 1 q0 k0 g0 uo ul, eL (AV.int .u32) v] (stX S [(q0, k0, .arr 1 (List.map (AV.int .u32) u), g0)]) R := by
  unfold natural_give_W at h
  refine enterT Try.func180 rfl Try.ntmps180 Try.results180 (by kernel_rfl) (fun rg hrg => ?_)
  have hdx : DX [(q0, k0, .arr 1 (List.map (AV.int .u32) u), g0)] := dx1
  have hfr := fun X' e => fresh_set (S := S) (rg := rg) (X := [(q0, k0, .arr 1 (List.map (AV.int .u32) u), g0)]) (X' := X') e hrg
  have hne0 := fresh_ne hdx hrg 0 rfl
  refine qZ (rZ (asZ (.int .u64 0) rfl (nZ (qZ (rZ (mvZ (.sl 1 q0 k0 g0 uo ul) rfl (wZ rg (o_lenR td138 rfl (mvZ (.int .i64 0) rfl (nZ ?_))))))))))
  refine Vc.blk ?_
  obtain ⟨I, μ, h0, hI⟩ := h
  refine Vc.loop' (σ := (Int × Int × (List Int))) (fun y => I y) (fun y => μ y) (fun y => envOf [(0, .sl 1 q0 k0 g0 uo ul), (1, eL (AV.int .u32) v), (4, .int .u64 y.1), (7, .int .i64 (ul : Int)), (8, .int .i64 y.2.1)]) (fun y => stL (stX S [(q0, k0, .arr 1 (List.map (AV.int .u32) y.2.2), g0)]) rg []) (0, 0, u) (canon (fc vr (fc vr (fc vr (fc vr (fc vr (fn)))))) (sn)) h0 (fun y h => ?_)
  obtain ⟨carry, x, u1⟩ := y
  replace h := hI (carry, x, u1) h
  show Vc _ _ _ _ (envOf [(0, .sl 1 q0 k0 g0 uo ul), (1, eL (AV.int .u32) v), (4, .int .u64 carry), (7, .int .i64 (ul : Int)), (8, .int .i64 x)]) (stL (stX S [(q0, k0, .arr 1 (List.map (AV.int .u32) u1), g0)]) rg [])
  refine qZ (rZ (wZ rg (o_lss rfl rfl (nZ (qZ ?_)))))
  refine Vc.cond' rfl (fun hb => ?_) (fun hb => ?_)
  · replace h := h.1 hb
    refine Vc.skip' ?_
    refine qZ ?_
    refine Vc.blk ?_
    refine qZ (rZ (mvZ (.int .i64 x) rfl (asZ (.int .i64 x) rfl (nZ (qZ ?_)))))
    have hi := h.1
    replace h := h.2
    have hg := h.1
    replace h := h.2
    obtain ⟨r, hc, h⟩ := h
    refine Vc.drawn' mixed rg (usOf [(8, pc (.int .u64 r))]) (by kernel_rfl) ?_
    refine dP rfl rfl (o_move (v := .int .u64 carry) rfl (dP rfl rfl (o_move (v := .sl 1 q0 k0 g0 uo ul) rfl (dP rfl rfl (o_move (v := .int .i64 x) rfl (dP rfl rfl (o_idxRO td138 sz186 (by decide) rfl rfl hi (dL (E := ([(q0, k0)], [])) rfl rfl (by simp) (cfn) (o_loadR1 (atX hne0 hdx 0 rfl) sz186 ag186 rfl (hg) rfl (v := .int .u32 (at' u1 ((uo : Int) + x))) rfl (dP rfl rfl (o_conv td186 td188 rfl ?_)))))))))))
    refine dP rfl rfl (o_move (v := eL (AV.int .u32) v) rfl (dP rfl rfl (o_move (v := .int .i64 x) rfl ?_)))
    refine dC (vs := [eL (AV.int .u32) v, AV.int .i64 x]) rfl (vl' vr (vl' vr (vn))) (fun _ => natural_word_ctr hc (fun _ hr => ⟨by rw [hr], rfl⟩)) rfl ?_
    refine dP rfl rfl (o_add rfl rfl (dP rfl rfl (o_add rfl rfl (dP rfl rfl (o_assign (v := .int .u64 (IntKind.wrap .u64 (carry + (IntKind.wrap .u64 ((IntKind.wrap .u64 (at' u1 ((uo : Int) + x))) + r))))) rfl (dN (qZ (rZ (mvZ (.sl 1 q0 k0 g0 uo ul) rfl (mvZ (.int .i64 x) rfl (mvZ (.int .u64 (IntKind.wrap .u64 (carry + (IntKind.wrap .u64 ((IntKind.wrap .u64 (at' u1 ((uo : Int) + x))) + r))))) rfl ?_)))))))))))
    refine wZ rg (o_conv td188 td186 rfl (wZ rg (o_idxRO td138 sz186 (by decide) rfl rfl h.1 ?_)))
    have hi1 := h.1
    replace h := h.2
    refine wZ rg (o_storeR1 (atX hne0 hdx 0 rfl) sz186 (by decide) (x' := (IntKind.wrap .u32 (IntKind.wrap .u64 (carry + (IntKind.wrap .u64 ((IntKind.wrap .u64 (at' u1 ((uo : Int) + x))) + r)))))) (fun _ => rfl) rfl rfl (h.1) rfl rfl (setX hne0 hdx 0 rfl rfl) ?_)
    replace h := h.2
    refine nZ (rZ (mvZ (.int .u64 (IntKind.wrap .u64 (carry + (IntKind.wrap .u64 ((IntKind.wrap .u64 (at' u1 ((uo : Int) + x))) + r))))) rfl (wZ rg (o_shr rfl rfl (by decide) ?_))))
    obtain ⟨carry1, hs⟩ : ∃ qz : Int, qz = ((IntKind.wrap .u64 (carry + (IntKind.wrap .u64 ((IntKind.wrap .u64 (at' u1 ((uo : Int) + x))) + r)))) / 2 ^ (Int.toNat 32)) := ⟨_, rfl⟩
    replace h := h carry1 hs
    refine wZ rg (o_assign (v := .int .u64 carry1) (by subst hs; rfl) (nZ (rZ (wZ rg (o_addG rfl rfl h.1 ?_)))))
    replace h := h.2
    refine mvZ (.int .i64 (x + 1)) rfl (nZ ?_)
    exact ⟨(carry1, (x + 1), (set' u1 ((uo : Int) + x) (IntKind.wrap .u32 (IntKind.wrap .u64 (carry + (IntKind.wrap .u64 ((IntKind.wrap .u64 (at' u1 ((uo : Int) + x))) + r))))))), (canon (fc vr (fc vr (fc vr (fc vr (fc vr (fn)))))) (sn)), h⟩
  replace h := h.2 hb
  refine Vc.exit' (exB_self ?_)
  refine res_nil ?_
  show Gives _ (.tuple []) _
  exact gives_out (hfr _ rfl) (VW.refl _) (hQ _ h)
theorem natural_right_ctr {a : List Int} {n : Int} {Q : List Int → Prop} {S : St} {R : AV → St → Prop} (h : natural_right_W a n Q) (hQ : ∀ r1, Q r1 → R (eL (AV.int .u32) r1) S) :
    Ctr Try.prog 181 [eL (AV.int .u32) a, AV.int .i64 n] S R := by
  unfold natural_right_W at h
  refine enterT Try.func181 rfl Try.ntmps181 Try.results181 (by kernel_rfl) (fun rg hrg => ?_)
  refine qZ (rZ (asZ .nil rfl (nZ (qZ (rZ (mvZ (eL (AV.int .u32) a) rfl (wZ rg (o_len td138 rfl (wZ rg (o_make td138 bts186 ok186 (enc := AV.int .u32) (z' := 0) zav186 (kk := 1) rfl rfl rfl h.1 (fun g1 => ?_)))))))))))
  replace h := h.2
  refine asZ (.sl 1 rg 9 g1 0 (Int.toNat (a.length : Int))) rfl (nZ (qZ (qZ (rZ (mvZ (eL (AV.int .u32) a) rfl (wZ rg (o_len td138 rfl (mvZ (.int .i64 0) rfl (nZ ?_)))))))))
  refine Vc.blk ?_
  obtain ⟨I, μ, h0, hI⟩ := h
  refine Vc.loop' (σ := (Int × (List Int))) (fun y => I y) (fun y => μ y) (fun y => envOf [(0, eL (AV.int .u32) a), (1, .int .i64 n), (5, .sl 1 rg 9 g1 0 y.2.length), (11, .int .i64 (a.length : Int)), (12, .int .i64 y.1)]) (fun y => stL S rg [(9, .arr 1 (List.map (AV.int .u32) y.2), g1)]) (0, (rep' (a.length : Int) 0)) (canon (fc vr (fc vr (fc (VW.slen (by first | rfl | omega | (simp only [go_sem] <;> omega))) (fc vr (fc vr (fn)))))) (sc rfl (sn))) h0 (fun y h => ?_)
  obtain ⟨x, out⟩ := y
  replace h := hI (x, out) h
  show Vc _ _ _ _ (envOf [(0, eL (AV.int .u32) a), (1, .int .i64 n), (5, .sl 1 rg 9 g1 0 out.length), (11, .int .i64 (a.length : Int)), (12, .int .i64 x)]) (stL S rg [(9, .arr 1 (List.map (AV.int .u32) out), g1)])
  refine qZ (rZ (wZ rg (o_lss rfl rfl (nZ (qZ ?_)))))
  refine Vc.cond' rfl (fun hb => ?_) (fun hb => ?_)
  · replace h := h.1 hb
    refine Vc.skip' ?_
    refine qZ ?_
    refine Vc.blk ?_
    refine qZ (rZ (mvZ (.int .i64 x) rfl (asZ (.int .i64 x) rfl (nZ (rZ (mvZ (.sl 1 rg 9 g1 0 out.length) rfl (mvZ (.int .i64 x) rfl (mvZ (eL (AV.int .u32) a) rfl (mvZ (.int .i64 x) rfl (wZ rg (o_call (us := [eL (AV.int .u32) a, AV.int .i64 x]) rfl (vl' vr (vl' vr (vn))) (natural_word_ctr h fun r h => (mvZ (eL (AV.int .u32) a) rfl (mvZ (.int .i64 x) rfl (wZ rg (o_addG rfl rfl h.1 ?_))))))))))))))))
    replace h := h.2
    refine wZ rg (o_call (us := [eL (AV.int .u32) a, AV.int .i64 (x + 1)]) rfl (vl' vr (vl' vr (vn))) (natural_word_ctr h fun r1 h => (wZ rg (o_shl rfl rfl (by decide) (wZ rg (o_or rfl rfl (mvZ (.int .i64 n) rfl (wZ rg (o_shr rfl rfl h.1 ?_)))))))))
    replace h := h.2
    refine wZ rg (o_conv td188 td186 rfl (wZ rg (o_idxR0 td138 sz186 (by decide) rfl rfl h.1 ?_)))
    have hi := h.1
    replace h := h.2
    refine wZ rg (o_storeR1 (atL (k := 9) rfl) sz186 (by decide) (x' := (IntKind.wrap .u32 ((bits .or .u64 r (IntKind.wrap .u64 (r1 * 2 ^ (Int.toNat 32)))) / 2 ^ (Int.toNat n)))) (fun _ => rfl) rfl rfl (lt_of hi (by first | rfl | omega | (simp only [go_sem] <;> omega))) rfl rfl setL (nZ (rZ (wZ rg (o_addG rfl rfl h.1 ?_)))))
    replace h := h.2
    refine mvZ (.int .i64 (x + 1)) rfl (nZ ?_)
    exact ⟨((x + 1), (set' out x (IntKind.wrap .u32 ((bits .or .u64 r (IntKind.wrap .u64 (r1 * 2 ^ (Int.toNat 32)))) / 2 ^ (Int.toNat n))))), (canon (fc vr (fc vr (fc (VW.slen (by first | rfl | omega | (simp only [go_sem] <;> omega))) (fc vr (fc vr (fn)))))) (sc rfl (sn))), h⟩
  replace h := h.2 hb
  refine Vc.exit' (exB_self ?_)
  refine qZ (rZ (mvZ (.sl 1 rg 9 g1 0 out.length) rfl (asZ (.sl 1 rg 9 g1 0 out.length) rfl (nZ ?_))))
  refine Vc.ret' ?_
  refine res_tmp (v := .sl 1 rg 9 g1 0 out.length) rfl (res_nil ?_)
  show Gives _ (.sl 1 rg 9 g1 0 out.length) _
  refine gives_freeze (k := 9) (xs := List.map (AV.int .u32) out) rfl (v' := eL (AV.int .u32) out) (frz_full rfl) ?_
  exact gives_out hrg (VW.refl _) (hQ _ h)
set_option maxHeartbeats 4000000 in
theorem natural_Div_ctr {a : List Int} {b : List Int} {Q : List Int → List Int → Option Int → Prop} {S : St} {R : AV → St → Prop} (h : natural_Div_W a b Q) (hQ : ∀ r1 r2 r3, Q r1 r2 r3 → R (.tuple [eL (AV.int .u32) r1, eL (AV.int .u32) r2, eErr 73 r3]) S) :
    Ctr Try.prog 163 [eL (AV.int .u32) a, eL (AV.int .u32) b] S R := by
  unfold natural_Div_W at h
  refine enterT Try.func163 rfl Try.ntmps163 Try.results163 (by kernel_rfl) (fun rg hrg => ?_)
  refine qZ (rZ (asZ .nil rfl (asZ .nil rfl (asZ .niface rfl (nZ (qZ (rZ (mvZ (eL (AV.int .u32) a) rfl (wZ rg (o_call (us := [eL (AV.int .u32) a]) rfl (vl' vr (vn)) (natural_trim_ctr h fun a1 h => (mvZ (eL (AV.int .u32) b) rfl (wZ rg (o_call (us := [eL (AV.int .u32) b]) rfl (vl' vr (vn)) (natural_trim_ctr h fun b1 h => (asZ (eL (AV.int .u32) a1) rfl (asZ (eL (AV.int .u32) b1) rfl (nZ (qZ ?_)))))))))))))))))))
  refine qZ (rZ (mvZ (eL (AV.int .u32) b1) rfl (wZ rg (o_len td138 rfl (wZ rg (o_eql rfl rfl (nZ ?_)))))))
  refine Vc.cond' rfl (fun hb => ?_) (fun hb => ?_)
  · replace h := h.1 hb
    refine qZ (rZ (wZ rg (o_iface (by rw [td73]; trivial) (v := .int .i64 8) rfl (asZ .nil rfl (asZ .nil rfl (asZ (.iface 73 (.int .i64 8)) rfl (nZ ?_)))))))
    refine Vc.ret' ?_
    refine res_tmp (v := .nil) rfl (res_tmp (v := .nil) rfl (res_tmp (v := .iface 73 (.int .i64 8)) rfl (res_nil ?_)))
    show Gives _ (.tuple [.nil, .nil, .iface 73 (.int .i64 8)]) _
    exact gives_out hrg (VW.tupL (vl' (VW.nilL) (vl' (VW.nilL) (vl' vr (vn))))) (hQ _ _ _ h)
  replace h := h.2 hb
  refine Vc.skip' ?_
  refine qZ (qZ (rZ (mvZ (eL (AV.int .u32) a1) rfl (mvZ (eL (AV.int .u32) b1) rfl (wZ rg (o_call (us := [eL (AV.int .u32) a1, eL (AV.int .u32) b1]) rfl (vl' vr (vl' vr (vn))) (natural_Cmp_ctr h fun r h => (wZ rg (o_lss rfl rfl (nZ ?_))))))))))
  refine Vc.cond' rfl (fun hb1 => ?_) (fun hb1 => ?_)
  · replace h := h.1 hb1
    refine qZ (rZ (mvZ (eL (AV.int .u32) a1) rfl (asZ .nil rfl (asZ (eL (AV.int .u32) a1) rfl (asZ .niface rfl (nZ ?_))))))
    refine Vc.ret' ?_
    refine res_tmp (v := .nil) rfl (res_tmp (v := eL (AV.int .u32) a1) rfl (res_tmp (v := .niface) rfl (res_nil ?_)))
    show Gives _ (.tuple [.nil, eL (AV.int .u32) a1, .niface]) _
    exact gives_out hrg (VW.tupL (vl' (VW.nilL) (vl' vr (vl' vr (vn))))) (hQ _ _ _ h)
  replace h := h.2 hb1
  refine Vc.skip' ?_
  refine qZ (qZ (rZ (mvZ (eL (AV.int .u32) b1) rfl (wZ rg (o_len td138 rfl (wZ rg (o_eql rfl rfl (nZ ?_))))))))
  refine Vc.cond' rfl (fun hb2 => ?_) (fun hb2 => ?_)
  · replace h := h.1 hb2
    refine qZ (rZ (mvZ (eL (AV.int .u32) a1) rfl (mvZ (eL (AV.int .u32) b1) rfl (wZ rg (o_idxL td138 sz186 (by decide) (fun _ => rfl) rfl rfl h.1 ?_)))))
    replace h := h.2
    refine wZ rg (o_loadI1 sz186 ag186 rfl rfl (v := .int .u32 (at' b1 0)) rfl (wZ rg (o_call (us := [eL (AV.int .u32) a1, AV.int .u32 (at' b1 0)]) rfl (vl' vr (vl' vr (vn))) (natural_small_ctr h fun r1 r2 h => (mvZ (.tuple [eL (AV.int .u32) r1, .int .u32 r2]) rfl (wZ rg (o_extract (v := eL (AV.int .u32) r1) rfl rfl rfl (wZ rg (o_extract (v := .int .u32 r2) rfl rfl rfl (asZ (eL (AV.int .u32) r1) rfl ?_))))))))))
    refine asZ (.int .u32 r2) rfl (nZ (qZ (rZ (mvZ (eL (AV.int .u32) r1) rfl (mvZ (.int .u32 r2) rfl (wZ rg (o_conv td186 td3 rfl (wZ rg (o_call (us := [AV.int .i64 (IntKind.wrap .i64 r2)]) rfl (vl' vr (vn)) (natural_Of_ctr h fun r3 h => (asZ (eL (AV.int .u32) r1) rfl (asZ (eL (AV.int .u32) r3) rfl (asZ .niface rfl (nZ ?_))))))))))))))
    refine Vc.ret' ?_
    refine res_tmp (v := eL (AV.int .u32) r1) rfl (res_tmp (v := eL (AV.int .u32) r3) rfl (res_tmp (v := .niface) rfl (res_nil ?_)))
    show Gives _ (.tuple [eL (AV.int .u32) r1, eL (AV.int .u32) r3, .niface]) _
    exact gives_out hrg (VW.tupL (vl' vr (vl' vr (vl' vr (vn))))) (hQ _ _ _ h)
  replace h := h.2 hb2
  refine Vc.skip' ?_
  refine qZ (rZ (mvZ (eL (AV.int .u32) b1) rfl (mvZ (eL (AV.int .u32) b1) rfl (wZ rg (o_len td138 rfl (wZ rg (o_subG rfl rfl h.1 ?_)))))))
  replace h := h.2
  refine wZ rg (o_idxL td138 sz186 (by decide) (fun _ => rfl) rfl rfl h.1 ?_)
  replace h := h.2
  refine wZ rg (o_loadI1 sz186 ag186 rfl rfl (v := .int .u32 (at' b1 ((b1.length : Int) - 1))) rfl (wZ rg (o_call (us := [AV.int .u32 (at' b1 ((b1.length : Int) - 1))]) rfl (vl' vr (vn)) (math_bits_LeadingZeros32_ctr h fun n h => (asZ (.int .i64 n) rfl (nZ (qZ (rZ (mvZ (eL (AV.int .u32) b1) rfl (mvZ (.int .i64 n) rfl ?_))))))))))
  refine wZ rg (o_call (us := [eL (AV.int .u32) b1, AV.int .i64 n]) rfl (vl' vr (vl' vr (vn))) (natural_left_ctr h fun r4 h => (mvZ (eL (AV.int .u32) b1) rfl (wZ rg (o_len td138 rfl (wZ rg (o_sliceL td138 sz186 (by decide) (fun _ => rfl) rfl (l := 0) (h := (b1.length : Int)) rfl rfl h.1 ?_)))))))
  replace h := h.2
  obtain ⟨v, hs⟩ : ∃ qz : List Int, qz = (sub' r4 0 (b1.length : Int)) := ⟨_, rfl⟩
  replace h := h v hs
  refine wZ rg (o_assign (v := eL (AV.int .u32) v) (by subst hs; rfl) (nZ (qZ (rZ (mvZ (eL (AV.int .u32) a1) rfl (mvZ (.int .i64 n) rfl (wZ rg (o_call (us := [eL (AV.int .u32) a1, AV.int .i64 n]) rfl (vl' vr (vl' vr (vn))) (natural_left_ctrO rg 61 h fun u g1 h => ?_)))))))))
  refine Wl.eqS setL ?_
  refine asZ (.sl 1 rg 61 g1 0 u.length) rfl (nZ (qZ ?_))
  have hg := h.1
  replace h := h.2
  have hg1 := h.1
  replace h := h.2
  have hg2 := h.1
  replace h := h.2
  have hg3 := h.1
  replace h := h.2
  refine Vc.drawn' mixed rg (fun _ => jcr2) (by kernel_rfl) ?_
  refine dP rfl rfl (o_move (v := eL (AV.int .u32) v) rfl (dP rfl rfl (o_move (v := eL (AV.int .u32) v) rfl (dP rfl rfl (o_len td138 rfl (dP rfl rfl (o_subG rfl rfl hg (dP rfl rfl (o_idxL td138 sz186 (by decide) (fun _ => rfl) rfl rfl hg1 (dP rfl rfl (o_loadI1 sz186 ag186 rfl rfl (v := .int .u32 (at' v ((v.length : Int) - 1))) rfl (dP rfl rfl (o_conv td186 td188 rfl ?_)))))))))))))
  refine dP rfl rfl (o_move (v := eL (AV.int .u32) v) rfl (dP rfl rfl (o_move (v := eL (AV.int .u32) v) rfl (dP rfl rfl (o_len td138 rfl (dP rfl rfl (o_subG rfl rfl hg2 (dP rfl rfl (o_idxL td138 sz186 (by decide) (fun _ => rfl) rfl rfl hg3 (dP rfl rfl (o_loadI1 sz186 ag186 rfl rfl (v := .int .u32 (at' v ((v.length : Int) - 2))) rfl (dP rfl rfl (o_conv td186 td188 rfl ?_)))))))))))))
  refine dP rfl rfl (o_assign (v := .int .u64 (IntKind.wrap .u64 (at' v ((v.length : Int) - 1)))) rfl (dP rfl rfl (o_assign (v := .int .u64 (IntKind.wrap .u64 (at' v ((v.length : Int) - 2)))) rfl (dN (qZ (rZ (mvZ (.sl 1 rg 61 g1 0 u.length) rfl (wZ rg (o_lenR td138 rfl (mvZ (eL (AV.int .u32) v) rfl (wZ rg (o_len td138 rfl (wZ rg (o_subG rfl rfl h.1 ?_))))))))))))))
  replace h := h.2
  refine wZ rg (o_make td138 bts186 ok186 (enc := AV.int .u32) (z' := 0) zav186 (kk := 1) rfl rfl rfl h.1 (fun g2 => ?_))
  replace h := h.2
  refine asZ (.sl 1 rg 81 g2 0 (Int.toNat ((u.length : Int) - (v.length : Int)))) rfl (nZ (qZ (qZ (rZ (mvZ (.sl 1 rg 81 g2 0 (Int.toNat ((u.length : Int) - (v.length : Int)))) rfl (wZ rg (o_lenR td138 rfl (wZ rg (o_subG rfl rfl h.1 ?_)))))))))
  replace h := h.2
  obtain ⟨j, hs1⟩ : ∃ qz : Int, qz = (((Int.toNat ((u.length : Int) - (v.length : Int))) : Int) - 1) := ⟨_, rfl⟩
  replace h := h j hs1
  refine wZ rg (o_assign (v := .int .i64 j) (by subst hs1; rfl) (nZ ?_))
  refine Vc.blk ?_
  obtain ⟨I, μ, h0, hI⟩ := h
  refine Vc.loop' (σ := ((Int × (List Int) × (List Int)) × (Nat × Nat))) (fun y => I y.1) (fun y => μ y.1) (fun y => envOf [(4, .sl 1 rg 81 y.2.2 0 y.1.2.2.length), (9, .int .i64 n), (10, eL (AV.int .u32) v), (11, .sl 1 rg 61 y.2.1 0 y.1.2.1.length), (12, .int .u64 (IntKind.wrap .u64 (at' v ((v.length : Int) - 1)))), (13, .int .u64 (IntKind.wrap .u64 (at' v ((v.length : Int) - 2)))), (14, .int .i64 y.1.1)]) (fun y => stL S rg [(61, .arr 1 (List.map (AV.int .u32) y.1.2.1), y.2.1), (81, .arr 1 (List.map (AV.int .u32) y.1.2.2), y.2.2)]) ((j, u, (rep' ((u.length : Int) - (v.length : Int)) 0)), (g1, g2)) (canon (fc (VW.slen (by first | rfl | omega | (simp only [go_sem] <;> omega))) (fc vr (fc vr (fc vr (fc vr (fc vr (fc vr (fn)))))))) (sc rfl (sc rfl (sn)))) h0 (fun y h => ?_)
  obtain ⟨⟨j1, u1, q⟩, ⟨g3, g4⟩⟩ := y
  replace h := hI (j1, u1, q) h
  show Vc _ _ _ _ (envOf [(4, .sl 1 rg 81 g4 0 q.length), (9, .int .i64 n), (10, eL (AV.int .u32) v), (11, .sl 1 rg 61 g3 0 u1.length), (12, .int .u64 (IntKind.wrap .u64 (at' v ((v.length : Int) - 1)))), (13, .int .u64 (IntKind.wrap .u64 (at' v ((v.length : Int) - 2)))), (14, .int .i64 j1)]) (stL S rg [(61, .arr 1 (List.map (AV.int .u32) u1), g3), (81, .arr 1 (List.map (AV.int .u32) q), g4)])
  refine qZ (qZ (rZ (mvZ (.int .i64 j1) rfl (wZ rg (o_geq rfl rfl (nZ ?_))))))
  refine Vc.cond' rfl (fun hb3 => ?_) (fun hb3 => ?_)
  · replace h := h.1 hb3
    refine Vc.skip' ?_
    refine qZ ?_
    refine Vc.blk ?_
    refine qZ ?_
    have hg4 := h.1
    replace h := h.2
    have hi := h.1
    replace h := h.2
    have hg5 := h.1
    replace h := h.2
    have hg6 := h.1
    replace h := h.2
    have hi1 := h.1
    replace h := h.2
    refine Vc.drawn' mixed rg (fun _ => jcr2) (by kernel_rfl) ?_
    refine dP rfl rfl (o_move (v := .sl 1 rg 61 g3 0 u1.length) rfl (dP rfl rfl (o_move (v := .int .i64 j1) rfl (dP rfl rfl (o_move (v := eL (AV.int .u32) v) rfl (dP rfl rfl (o_len td138 rfl (dP rfl rfl (o_addG rfl rfl hg4 (dP rfl rfl (o_idxR0 td138 sz186 (by decide) rfl rfl hi ?_)))))))))))
    refine dL (E := ([(rg, 61)], [])) rfl rfl (by simp) (cfn) (o_loadR1 (atL (k := 61) rfl) sz186 ag186 rfl (lt_of hi (by first | rfl | omega | (simp only [go_sem] <;> omega))) rfl (v := .int .u32 (at' u1 (j1 + (v.length : Int)))) rfl (dP rfl rfl (o_conv td186 td188 rfl (dP rfl rfl (o_shl rfl rfl (by decide) (dP rfl rfl (o_move (v := .sl 1 rg 61 g3 0 u1.length) rfl ?_)))))))
    refine dP rfl rfl (o_move (v := .int .i64 j1) rfl (dP rfl rfl (o_move (v := eL (AV.int .u32) v) rfl (dP rfl rfl (o_len td138 rfl (dP rfl rfl (o_addG rfl rfl hg5 (dP rfl rfl (o_subG rfl rfl hg6 (dP rfl rfl (o_idxR0 td138 sz186 (by decide) rfl rfl hi1 ?_)))))))))))
    refine dL (E := ([(rg, 61)], [])) rfl rfl (by simp) (cfa (by simp [apartE]) (cfn)) (o_loadR1 (atL (k := 61) rfl) sz186 ag186 rfl (lt_of hi1 (by first | rfl | omega | (simp only [go_sem] <;> omega))) rfl (v := .int .u32 (at' u1 ((j1 + (v.length : Int)) - 1))) rfl (dP rfl rfl (o_conv td186 td188 rfl (dP rfl rfl (o_or rfl rfl ?_)))))
    refine dP rfl rfl (o_assign (v := .int .u64 (bits .or .u64 (IntKind.wrap .u64 ((IntKind.wrap .u64 (at' u1 (j1 + (v.length : Int)))) * 2 ^ (Int.toNat 32))) (IntKind.wrap .u64 (at' u1 ((j1 + (v.length : Int)) - 1))))) rfl (dN (qZ ?_)))
    have hg7 := h.1
    replace h := h.2
    have hg8 := h.1
    replace h := h.2
    refine Vc.drawn' mixed rg (fun _ => jcr2) (by kernel_rfl) ?_
    refine dP rfl rfl (o_move (v := .int .u64 (bits .or .u64 (IntKind.wrap .u64 ((IntKind.wrap .u64 (at' u1 (j1 + (v.length : Int)))) * 2 ^ (Int.toNat 32))) (IntKind.wrap .u64 (at' u1 ((j1 + (v.length : Int)) - 1))))) rfl (dP rfl rfl (o_move (v := .int .u64 (IntKind.wrap .u64 (at' v ((v.length : Int) - 1)))) rfl (dP rfl rfl (o_quo rfl rfl hg7 ?_)))))
    refine dP rfl rfl (o_move (v := .int .u64 (bits .or .u64 (IntKind.wrap .u64 ((IntKind.wrap .u64 (at' u1 (j1 + (v.length : Int)))) * 2 ^ (Int.toNat 32))) (IntKind.wrap .u64 (at' u1 ((j1 + (v.length : Int)) - 1))))) rfl (dP rfl rfl (o_move (v := .int .u64 (IntKind.wrap .u64 (at' v ((v.length : Int) - 1)))) rfl (dP rfl rfl (o_rem rfl rfl hg8 ?_)))))
    refine dP rfl rfl (o_assign (v := .int .u64 (IntKind.wrap .u64 (Int.tdiv (bits .or .u64 (IntKind.wrap .u64 ((IntKind.wrap .u64 (at' u1 (j1 + (v.length : Int)))) * 2 ^ (Int.toNat 32))) (IntKind.wrap .u64 (at' u1 ((j1 + (v.length : Int)) - 1)))) (IntKind.wrap .u64 (at' v ((v.length : Int) - 1)))))) rfl ?_)
    refine dP rfl rfl (o_assign (v := .int .u64 (Int.tmod (bits .or .u64 (IntKind.wrap .u64 ((IntKind.wrap .u64 (at' u1 (j1 + (v.length : Int)))) * 2 ^ (Int.toNat 32))) (IntKind.wrap .u64 (at' u1 ((j1 + (v.length : Int)) - 1)))) (IntKind.wrap .u64 (at' v ((v.length : Int) - 1))))) rfl (dN ?_))
    obtain ⟨J, h, hJ⟩ := h
    refine Vc.join' (σ := ((Int) × (Nat × Nat))) (fun y => J y.1) (fun y => envOf [(4, .sl 1 rg 81 y.2.2 0 q.length), (9, .int .i64 n), (10, eL (AV.int .u32) v), (11, .sl 1 rg 61 y.2.1 0 u1.length), (12, .int .u64 (IntKind.wrap .u64 (at' v ((v.length : Int) - 1)))), (13, .int .u64 (IntKind.wrap .u64 (at' v ((v.length : Int) - 2)))), (14, .int .i64 j1), (16, .int .u64 y.1)]) (fun y => stL S rg [(61, .arr 1 (List.map (AV.int .u32) u1), y.2.1), (81, .arr 1 (List.map (AV.int .u32) q), y.2.2)]) (fun y h => ?_) ?_
    · obtain ⟨guess, ⟨g5, g6⟩⟩ := y
      replace h := hJ guess h
      show Vc _ _ _ _ (envOf [(4, .sl 1 rg 81 g6 0 q.length), (9, .int .i64 n), (10, eL (AV.int .u32) v), (11, .sl 1 rg 61 g5 0 u1.length), (12, .int .u64 (IntKind.wrap .u64 (at' v ((v.length : Int) - 1)))), (13, .int .u64 (IntKind.wrap .u64 (at' v ((v.length : Int) - 2)))), (14, .int .i64 j1), (16, .int .u64 guess)]) (stL S rg [(61, .arr 1 (List.map (AV.int .u32) u1), g5), (81, .arr 1 (List.map (AV.int .u32) q), g6)])
      obtain ⟨J, h, hJ⟩ := h
      refine Vc.join' (σ := ((Int × (List Int)) × (Nat × Nat))) (fun y => J y.1) (fun y => envOf [(4, .sl 1 rg 81 y.2.2 0 q.length), (9, .int .i64 n), (10, eL (AV.int .u32) v), (11, .sl 1 rg 61 y.2.1 0 y.1.2.length), (12, .int .u64 (IntKind.wrap .u64 (at' v ((v.length : Int) - 1)))), (13, .int .u64 (IntKind.wrap .u64 (at' v ((v.length : Int) - 2)))), (14, .int .i64 j1), (16, .int .u64 y.1.1)]) (fun y => stL S rg [(61, .arr 1 (List.map (AV.int .u32) y.1.2), y.2.1), (81, .arr 1 (List.map (AV.int .u32) q), y.2.2)]) (fun y h => ?_) ?_
      · obtain ⟨⟨guess1, u2⟩, ⟨g7, g8⟩⟩ := y
        replace h := hJ (guess1, u2) h
        show Vc _ _ _ _ (envOf [(4, .sl 1 rg 81 g8 0 q.length), (9, .int .i64 n), (10, eL (AV.int .u32) v), (11, .sl 1 rg 61 g7 0 u2.length), (12, .int .u64 (IntKind.wrap .u64 (at' v ((v.length : Int) - 1)))), (13, .int .u64 (IntKind.wrap .u64 (at' v ((v.length : Int) - 2)))), (14, .int .i64 j1), (16, .int .u64 guess1)]) (stL S rg [(61, .arr 1 (List.map (AV.int .u32) u2), g7), (81, .arr 1 (List.map (AV.int .u32) q), g8)])
        refine rZ ?_
        refine mvZ (.sl 1 rg 81 g8 0 q.length) rfl (mvZ (.int .i64 j1) rfl (mvZ (.int .u64 guess1) rfl (wZ rg (o_conv td188 td186 rfl (wZ rg (o_idxR0 td138 sz186 (by decide) rfl rfl h.1 ?_))))))
        have hi2 := h.1
        replace h := h.2
        refine wZ rg (o_storeR1 (atL (k := 81) rfl) sz186 (by decide) (x' := (IntKind.wrap .u32 guess1)) (fun _ => rfl) rfl rfl (lt_of hi2 (by first | rfl | omega | (simp only [go_sem] <;> omega))) rfl rfl setL (nZ (rZ (mvZ (.int .i64 j1) rfl (wZ rg (o_subG rfl rfl h.1 ?_))))))
        replace h := h.2
        refine asZ (.int .i64 (j1 - 1)) rfl (nZ ?_)
        exact ⟨(((j1 - 1), u2, (set' q j1 (IntKind.wrap .u32 guess1))), (g7, g8)), (canon (fc (VW.slen (by first | rfl | omega | (simp only [go_sem] <;> omega))) (fc vr (fc vr (fc vr (fc vr (fc vr (fc vr (fn)))))))) (sc rfl (sc rfl (sn)))), h⟩
      refine qZ (rZ (mvZ (.sl 1 rg 61 g5 0 u1.length) rfl (mvZ (.int .i64 j1) rfl (mvZ (.int .i64 j1) rfl (mvZ (eL (AV.int .u32) v) rfl (wZ rg (o_len td138 rfl (wZ rg (o_addG rfl rfl h.1 ?_)))))))))
      replace h := h.2
      refine wZ rg (o_addG rfl rfl h.1 ?_)
      replace h := h.2
      refine wZ rg (o_sliceR td138 sz186 (by decide) rfl (l := j1) (h := ((j1 + (v.length : Int)) + 1)) rfl rfl h.1 ?_)
      have hsl := h.1
      replace h := h.2
      refine mvZ (eL (AV.int .u32) v) rfl (mvZ (.int .u64 guess) rfl (wZ rg (o_call (us := [.sl 1 rg 61 g5 (0 + Int.toNat j1) (Int.toNat ((j1 + (v.length : Int)) + 1) - Int.toNat j1), eL (AV.int .u32) v, AV.int .u64 guess]) rfl (vl' vr (vl' vr (vl' vr (vn)))) (ctrX (stX_same1 (atL (k := 61) rfl)) (natural_take_ctr h fun u3 r5 h => ?_)))))
      refine Wl.eqS setL ?_
      have hl := h.1
      replace h := h.2
      refine nZ ?_
      refine Vc.cond' rfl (fun hb4 => ?_) (fun hb4 => ?_)
      · replace h := h.1 hb4
        refine qZ (rZ (mvZ (.int .u64 guess) rfl (wZ rg (o_sub rfl rfl (asZ (.int .u64 (IntKind.wrap .u64 (guess - 1))) rfl (nZ (rZ (mvZ (.sl 1 rg 61 g5 0 u1.length) rfl (mvZ (.int .i64 j1) rfl (mvZ (.int .i64 j1) rfl (mvZ (eL (AV.int .u32) v) rfl (wZ rg (o_len td138 rfl (wZ rg (o_addG rfl rfl h.1 ?_)))))))))))))))
        replace h := h.2
        refine wZ rg (o_addG rfl rfl h.1 ?_)
        replace h := h.2
        refine wZ rg (o_sliceR td138 sz186 (by decide) rfl (l := j1) (h := ((j1 + (v.length : Int)) + 1)) rfl rfl h.1 ?_)
        have hsl1 := h.1
        replace h := h.2
        refine mvZ (eL (AV.int .u32) v) rfl (wZ rg (o_call (us := [.sl 1 rg 61 g5 (0 + Int.toNat j1) (Int.toNat ((j1 + (v.length : Int)) + 1) - Int.toNat j1), eL (AV.int .u32) v]) rfl (vl' vr (vl' vr (vn))) (ctrX (stX_same1 (atL (k := 61) rfl)) (natural_give_ctr h fun u4 h => ?_))))
        refine Wl.eqS setL ?_
        have hl1 := h.1
        replace h := h.2
        refine nZ ?_
        exact ⟨(((IntKind.wrap .u64 (guess - 1)), u4), (g5, g6)), (canon (fc vr (fc vr (fc vr (fc (VW.slen (by first | rfl | omega | (simp only [go_sem] <;> omega))) (fc vr (fc vr (fc vr (fc vr (fn))))))))) (sc rfl (sc rfl (sn)))), h⟩
      replace h := h.2 hb4
      refine Vc.skip' ?_
      exact ⟨((guess, u3), (g5, g6)), (canon (fc vr (fc vr (fc vr (fc (VW.slen (by first | rfl | omega | (simp only [go_sem] <;> omega))) (fc vr (fc vr (fc vr (fc vr (fn))))))))) (sc rfl (sc rfl (sn)))), h⟩
    refine Vc.blk ?_
    obtain ⟨I, μ, h0, hI⟩ := h
    refine Vc.loop' (σ := ((Int × Int) × (Nat × Nat))) (fun y => I y.1) (fun y => μ y.1) (fun y => envOf [(4, .sl 1 rg 81 y.2.2 0 q.length), (9, .int .i64 n), (10, eL (AV.int .u32) v), (11, .sl 1 rg 61 y.2.1 0 u1.length), (12, .int .u64 (IntKind.wrap .u64 (at' v ((v.length : Int) - 1)))), (13, .int .u64 (IntKind.wrap .u64 (at' v ((v.length : Int) - 2)))), (14, .int .i64 j1), (16, .int .u64 y.1.1), (17, .int .u64 y.1.2)]) (fun y => stL S rg [(61, .arr 1 (List.map (AV.int .u32) u1), y.2.1), (81, .arr 1 (List.map (AV.int .u32) q), y.2.2)]) (((IntKind.wrap .u64 (Int.tdiv (bits .or .u64 (IntKind.wrap .u64 ((IntKind.wrap .u64 (at' u1 (j1 + (v.length : Int)))) * 2 ^ (Int.toNat 32))) (IntKind.wrap .u64 (at' u1 ((j1 + (v.length : Int)) - 1)))) (IntKind.wrap .u64 (at' v ((v.length : Int) - 1))))), (Int.tmod (bits .or .u64 (IntKind.wrap .u64 ((IntKind.wrap .u64 (at' u1 (j1 + (v.length : Int)))) * 2 ^ (Int.toNat 32))) (IntKind.wrap .u64 (at' u1 ((j1 + (v.length : Int)) - 1)))) (IntKind.wrap .u64 (at' v ((v.length : Int) - 1))))), (g3, g4)) (canon (fc vr (fc vr (fc vr (fc vr (fc vr (fc vr (fc vr (fc vr (fc vr (fn)))))))))) (sc rfl (sc rfl (sn)))) h0 (fun y h => ?_)
    obtain ⟨⟨guess2, rest⟩, ⟨g9, g10⟩⟩ := y
    replace h := hI (guess2, rest) h
    show Vc _ _ _ _ (envOf [(4, .sl 1 rg 81 g10 0 q.length), (9, .int .i64 n), (10, eL (AV.int .u32) v), (11, .sl 1 rg 61 g9 0 u1.length), (12, .int .u64 (IntKind.wrap .u64 (at' v ((v.length : Int) - 1)))), (13, .int .u64 (IntKind.wrap .u64 (at' v ((v.length : Int) - 2)))), (14, .int .i64 j1), (16, .int .u64 guess2), (17, .int .u64 rest)]) (stL S rg [(61, .arr 1 (List.map (AV.int .u32) u1), g9), (81, .arr 1 (List.map (AV.int .u32) q), g10)])
    obtain ⟨J, h, hJ⟩ := h
    refine Vc.join' (σ := ((Unit) × (Nat × Nat))) (fun y => J y.1) (fun y => envOf [(4, .sl 1 rg 81 y.2.2 0 q.length), (9, .int .i64 n), (10, eL (AV.int .u32) v), (11, .sl 1 rg 61 y.2.1 0 u1.length), (12, .int .u64 (IntKind.wrap .u64 (at' v ((v.length : Int) - 1)))), (13, .int .u64 (IntKind.wrap .u64 (at' v ((v.length : Int) - 2)))), (14, .int .i64 j1), (16, .int .u64 guess2), (17, .int .u64 rest)]) (fun y => stL S rg [(61, .arr 1 (List.map (AV.int .u32) u1), y.2.1), (81, .arr 1 (List.map (AV.int .u32) q), y.2.2)]) (fun y h => ?_) ?_
    · obtain ⟨_, ⟨g11, g12⟩⟩ := y
      replace h := hJ () h
      show Vc _ _ _ _ (envOf [(4, .sl 1 rg 81 g12 0 q.length), (9, .int .i64 n), (10, eL (AV.int .u32) v), (11, .sl 1 rg 61 g11 0 u1.length), (12, .int .u64 (IntKind.wrap .u64 (at' v ((v.length : Int) - 1)))), (13, .int .u64 (IntKind.wrap .u64 (at' v ((v.length : Int) - 2)))), (14, .int .i64 j1), (16, .int .u64 guess2), (17, .int .u64 rest)]) (stL S rg [(61, .arr 1 (List.map (AV.int .u32) u1), g11), (81, .arr 1 (List.map (AV.int .u32) q), g12)])
      refine Vc.blk ?_
      refine qZ (rZ (mvZ (.int .u64 guess2) rfl (wZ rg (o_sub rfl rfl (asZ (.int .u64 (IntKind.wrap .u64 (guess2 - 1))) rfl (nZ (qZ (rZ (mvZ (.int .u64 rest) rfl (mvZ (.int .u64 (IntKind.wrap .u64 (at' v ((v.length : Int) - 1)))) rfl (wZ rg (o_add rfl rfl ?_))))))))))))
      obtain ⟨rest1, hs2⟩ : ∃ qz : Int, qz = (IntKind.wrap .u64 (rest + (IntKind.wrap .u64 (at' v ((v.length : Int) - 1))))) := ⟨_, rfl⟩
      replace h := h rest1 hs2
      refine wZ rg (o_assign (v := .int .u64 rest1) (by subst hs2; rfl) (nZ (qZ (rZ (mvZ (.int .u64 rest1) rfl (wZ rg (o_geq rfl rfl (nZ ?_))))))))
      refine Vc.cond' rfl (fun hb5 => ?_) (fun hb5 => ?_)
      · replace h := h.1 hb5
        refine Vc.exit' (exB_ne rfl (exB_self ?_))
        exact ⟨((IntKind.wrap .u64 (guess2 - 1)), (g11, g12)), (canon (fc vr (fc vr (fc vr (fc vr (fc vr (fc vr (fc vr (fc vr (fn))))))))) (sc rfl (sc rfl (sn)))), h⟩
      replace h := h.2 hb5
      refine Vc.skip' ?_
      exact ⟨(((IntKind.wrap .u64 (guess2 - 1)), rest1), (g11, g12)), (canon (fc vr (fc vr (fc vr (fc vr (fc vr (fc vr (fc vr (fc vr (fc vr (fn)))))))))) (sc rfl (sc rfl (sn)))), h⟩
    refine qZ (rZ (mvZ (.int .u64 guess2) rfl (wZ rg (o_geq rfl rfl (mvZ (.bool (decide (4294967296 ≤ guess2))) rfl ?_)))))
    refine Wl.guard rfl rfl (fun hb6 => ?_) (fun hb6 => ?_)
    · replace h := h.2 hb6
      refine mvZ (.int .u64 guess2) rfl ?_
      refine Wl.guardT rfl rfl hb6 ?_
      refine mvZ (.int .u64 (IntKind.wrap .u64 (at' v ((v.length : Int) - 2)))) rfl ?_
      refine Wl.guardT rfl rfl hb6 ?_
      refine wZ rg (o_mul rfl rfl ?_)
      refine Wl.guardT rfl rfl hb6 ?_
      refine mvZ (.int .u64 rest) rfl ?_
      refine Wl.guardT rfl rfl hb6 ?_
      refine wZ rg (o_shl rfl rfl (by decide) ?_)
      refine Wl.guardT rfl rfl hb6 ?_
      refine mvZ (.sl 1 rg 61 g9 0 u1.length) rfl ?_
      refine Wl.guardT rfl rfl hb6 ?_
      refine mvZ (.int .i64 j1) rfl ?_
      refine Wl.guardT rfl rfl hb6 ?_
      refine mvZ (eL (AV.int .u32) v) rfl ?_
      refine Wl.guardT rfl rfl hb6 ?_
      refine wZ rg (o_len td138 rfl ?_)
      refine Wl.guardT rfl rfl hb6 ?_
      refine wZ rg (o_addG rfl rfl h.1 ?_)
      replace h := h.2
      refine Wl.guardT rfl rfl hb6 ?_
      refine wZ rg (o_subG rfl rfl h.1 ?_)
      replace h := h.2
      refine Wl.guardT rfl rfl hb6 ?_
      refine wZ rg (o_idxR0 td138 sz186 (by decide) rfl rfl h.1 ?_)
      have hi3 := h.1
      replace h := h.2
      refine Wl.guardT rfl rfl hb6 ?_
      refine wZ rg (o_loadR1 (atL (k := 61) rfl) sz186 ag186 rfl (lt_of hi3 (by first | rfl | omega | (simp only [go_sem] <;> omega))) rfl (v := .int .u32 (at' u1 ((j1 + (v.length : Int)) - 2))) rfl ?_)
      refine Wl.guardT rfl rfl hb6 ?_
      refine wZ rg (o_conv td186 td188 rfl ?_)
      refine Wl.guardT rfl rfl hb6 ?_
      refine wZ rg (o_or rfl rfl ?_)
      refine Wl.guardT rfl rfl hb6 ?_
      refine wZ rg (o_gtr rfl rfl (wZ rg (o_pickF rfl hb6 (v := .bool (decide ((bits .or .u64 (IntKind.wrap .u64 (rest * 2 ^ (Int.toNat 32))) (IntKind.wrap .u64 (at' u1 ((j1 + (v.length : Int)) - 2)))) < (IntKind.wrap .u64 (guess2 * (IntKind.wrap .u64 (at' v ((v.length : Int) - 2)))))))) rfl (nZ ?_))))
      refine Vc.cond' rfl (fun hb7 => ?_) (fun hb7 => ?_)
      · replace h := h.1 hb7
        refine Vc.skip' ?_
        exact ⟨((), (g9, g10)), (canon (fc vr (fc vr (fc vr (fc vr (fc vr (fc vr (fc vr (fc vr (fc vr (fn)))))))))) (sc rfl (sc rfl (sn)))), h⟩
      replace h := h.2 hb7
      refine Vc.exit' (exB_self ?_)
      exact ⟨(guess2, (g9, g10)), (canon (fc vr (fc vr (fc vr (fc vr (fc vr (fc vr (fc vr (fc vr (fn))))))))) (sc rfl (sc rfl (sn)))), h⟩
    replace h := h.1 hb6
    refine Wl.guardF rfl rfl hb6 rfl ?_
    refine Wl.guardF rfl rfl hb6 rfl ?_
    refine Wl.guardF rfl rfl hb6 rfl ?_
    refine Wl.guardF rfl rfl hb6 rfl ?_
    refine Wl.guardF rfl rfl hb6 rfl ?_
    refine Wl.guardF rfl rfl hb6 rfl ?_
    refine Wl.guardF rfl rfl hb6 rfl ?_
    refine Wl.guardF rfl rfl hb6 rfl ?_
    refine Wl.guardF rfl rfl hb6 rfl ?_
    refine Wl.guardF rfl rfl hb6 rfl ?_
    refine Wl.guardF rfl rfl hb6 rfl ?_
    refine Wl.guardF rfl rfl hb6 rfl ?_
    refine Wl.guardF rfl rfl hb6 rfl ?_
    refine Wl.guardF rfl rfl hb6 rfl ?_
    refine Wl.guardF rfl rfl hb6 rfl ?_
    refine wZ rg (o_pickT rfl hb6 (v := .bool true) rfl (nZ ?_))
    refine Vc.cond' rfl (fun _ => ?_) (fun hb => Bool.noConfusion hb)
    refine Vc.skip' ?_
    exact ⟨((), (g9, g10)), (canon (fc vr (fc vr (fc vr (fc vr (fc vr (fc vr (fc vr (fc vr (fc vr (fn)))))))))) (sc rfl (sc rfl (sn)))), h⟩
  replace h := h.2 hb3
  refine Vc.exit' (exB_self ?_)
  refine qZ (rZ (mvZ (.sl 1 rg 81 g4 0 q.length) rfl ?_))
  refine Wl.wk (canon_freeze (k := 81) (xs := List.map (AV.int .u32) q) rfl (es := [(9, .int .i64 n), (11, .sl 1 rg 61 g3 0 u1.length), (169, eL (AV.int .u32) q)]) (fc vr (fc (frz_ne rfl) (fc (frz_full rfl) (fn)))) (m := [(61, .arr 1 (List.map (AV.int .u32) u1), g3)]) (sc rfl (sn))) ?_
  refine wZ rg (o_call (us := [eL (AV.int .u32) q]) rfl (vl' vr (vn)) (natural_trim_ctr h fun q1 h => (mvZ (.sl 1 rg 61 g3 0 u1.length) rfl (mvZ (.int .i64 n) rfl ?_))))
  refine Wl.wk (canon_freeze (k := 61) (xs := List.map (AV.int .u32) u1) rfl (es := [(170, eL (AV.int .u32) q1), (171, eL (AV.int .u32) u1), (172, .int .i64 n)]) (fc vr (fc (frz_full rfl) (fc vr (fn)))) (m := []) (sn)) ?_
  refine wZ rg (o_call (us := [eL (AV.int .u32) u1, AV.int .i64 n]) rfl (vl' vr (vl' vr (vn))) (natural_right_ctr h fun r6 h => (wZ rg (o_call (us := [eL (AV.int .u32) r6]) rfl (vl' vr (vn)) (natural_trim_ctr h fun r7 h => (asZ (eL (AV.int .u32) q1) rfl (asZ (eL (AV.int .u32) r7) rfl (asZ .niface rfl (nZ ?_)))))))))
  refine Vc.ret' ?_
  refine res_tmp (v := eL (AV.int .u32) q1) rfl (res_tmp (v := eL (AV.int .u32) r7) rfl (res_tmp (v := .niface) rfl (res_nil ?_)))
  show Gives _ (.tuple [eL (AV.int .u32) q1, eL (AV.int .u32) r7, .niface]) _
  exact gives_out hrg (VW.tupL (vl' vr (vl' vr (vl' vr (vn))))) (hQ _ _ _ h)
theorem natural_Gcd_ctr {a : List Int} {b : List Int} {Q : List Int → Prop} {S : St} {R : AV → St → Prop} (h : natural_Gcd_W a b Q) (hQ : ∀ r1, Q r1 → R (eL (AV.int .u32) r1) S) :
    Ctr Try.prog 162 [eL (AV.int .u32) a, eL (AV.int .u32) b] S R := by
  unfold natural_Gcd_W at h
  refine enterT Try.func162 rfl Try.ntmps162 Try.results162 (by kernel_rfl) (fun rg hrg => ?_)
  refine qZ (rZ (asZ .nil rfl (nZ (qZ (rZ (mvZ (eL (AV.int .u32) a) rfl (wZ rg (o_call (us := [eL (AV.int .u32) a]) rfl (vl' vr (vn)) (natural_trim_ctr h fun a1 h => (mvZ (eL (AV.int .u32) b) rfl (wZ rg (o_call (us := [eL (AV.int .u32) b]) rfl (vl' vr (vn)) (natural_trim_ctr h fun b1 h => (asZ (eL (AV.int .u32) a1) rfl (asZ (eL (AV.int .u32) b1) rfl (nZ (qZ ?_)))))))))))))))))
  refine Vc.blk ?_
  obtain ⟨I, μ, h0, hI⟩ := h
  refine Vc.loop' (σ := ((List Int) × (List Int))) (fun y => I y) (fun y => μ y) (fun y => envOf [(0, eL (AV.int .u32) y.1), (1, eL (AV.int .u32) y.2)]) (fun y => stL S rg []) (a1, b1) (canon (fc vr (fc vr (fn))) (sn)) h0 (fun y h => ?_)
  obtain ⟨a2, b2⟩ := y
  replace h := hI (a2, b2) h
  show Vc _ _ _ _ (envOf [(0, eL (AV.int .u32) a2), (1, eL (AV.int .u32) b2)]) (stL S rg [])
  refine qZ (qZ (rZ (mvZ (eL (AV.int .u32) b2) rfl (wZ rg (o_len td138 rfl (wZ rg (o_gtr rfl rfl (nZ ?_))))))))
  refine Vc.cond' rfl (fun hb => ?_) (fun hb => ?_)
  · replace h := h.1 hb
    refine Vc.skip' ?_
    refine Vc.blk ?_
    refine qZ (rZ (mvZ (eL (AV.int .u32) a2) rfl (mvZ (eL (AV.int .u32) b2) rfl (wZ rg (o_call (us := [eL (AV.int .u32) a2, eL (AV.int .u32) b2]) rfl (vl' vr (vl' vr (vn))) (natural_Div_ctr h fun r r1 r2 h => (mvZ (.tuple [eL (AV.int .u32) r, eL (AV.int .u32) r1, eErr 73 r2]) rfl (wZ rg (o_extract (v := eL (AV.int .u32) r) rfl rfl rfl (wZ rg (o_extract (v := eL (AV.int .u32) r1) rfl rfl rfl ?_)))))))))))
    refine wZ rg (o_extract (v := eErr 73 r2) rfl rfl rfl (asZ (eL (AV.int .u32) r) rfl (asZ (eL (AV.int .u32) r1) rfl (asZ (eErr 73 r2) rfl (nZ (rZ (mvZ (eL (AV.int .u32) b2) rfl (mvZ (eL (AV.int .u32) r1) rfl (asZ (eL (AV.int .u32) b2) rfl (asZ (eL (AV.int .u32) r1) rfl (nZ ?_)))))))))))
    exact ⟨(b2, r1), (canon (fc vr (fc vr (fn))) (sn)), h⟩
  replace h := h.2 hb
  refine Vc.exit' (exB_self ?_)
  refine qZ (rZ (mvZ (eL (AV.int .u32) a2) rfl (asZ (eL (AV.int .u32) a2) rfl (nZ ?_))))
  refine Vc.ret' ?_
  refine res_tmp (v := eL (AV.int .u32) a2) rfl (res_nil ?_)
  show Gives _ (eL (AV.int .u32) a2) _
  exact gives_out hrg (VW.refl _) (hQ _ h)
theorem natural_Mul_ctr {a : List Int} {b : List Int} {Q : List Int → Prop} {S : St} {R : AV → St → Prop} (h : natural_Mul_W a b Q) (hQ : ∀ r1, Q r1 → R (eL (AV.int .u32) r1) S) :
    Ctr Try.prog 147 [eL (AV.int .u32) a, eL (AV.int .u32) b] S R := by
  unfold natural_Mul_W at h
  refine enterT Try.func147 rfl Try.ntmps147 Try.results147 (by kernel_rfl) (fun rg hrg => ?_)
  refine qZ (rZ (asZ .nil rfl (nZ (qZ (rZ (mvZ (eL (AV.int .u32) a) rfl (wZ rg (o_len td138 rfl (mvZ (eL (AV.int .u32) b) rfl (wZ rg (o_len td138 rfl (wZ rg (o_addG rfl rfl h.1 ?_)))))))))))))
  replace h := h.2
  refine wZ rg (o_make td138 bts186 ok186 (enc := AV.int .u32) (z' := 0) zav186 (kk := 1) rfl rfl rfl h.1 (fun g1 => ?_))
  replace h := h.2
  refine asZ (.sl 1 rg 16 g1 0 (Int.toNat ((a.length : Int) + (b.length : Int)))) rfl (nZ (qZ (qZ (rZ (mvZ (eL (AV.int .u32) a) rfl (wZ rg (o_len td138 rfl (mvZ (.int .i64 0) rfl (nZ ?_)))))))))
  refine Vc.blk ?_
  obtain ⟨I, μ, h0, hI⟩ := h
  refine Vc.loop' (σ := (Int × (List Int))) (fun y => I y) (fun y => μ y) (fun y => envOf [(1, eL (AV.int .u32) b), (5, .sl 1 rg 16 g1 0 y.2.length), (17, eL (AV.int .u32) a), (18, .int .i64 (a.length : Int)), (19, .int .i64 y.1)]) (fun y => stL S rg [(16, .arr 1 (List.map (AV.int .u32) y.2), g1)]) (0, (rep' ((a.length : Int) + (b.length : Int)) 0)) (canon (fc vr (fc (VW.slen (by first | rfl | omega | (simp only [go_sem] <;> omega))) (fc vr (fc vr (fc vr (fn)))))) (sc rfl (sn))) h0 (fun y h => ?_)
  obtain ⟨x, out⟩ := y
  replace h := hI (x, out) h
  show Vc _ _ _ _ (envOf [(1, eL (AV.int .u32) b), (5, .sl 1 rg 16 g1 0 out.length), (17, eL (AV.int .u32) a), (18, .int .i64 (a.length : Int)), (19, .int .i64 x)]) (stL S rg [(16, .arr 1 (List.map (AV.int .u32) out), g1)])
  refine qZ (rZ (wZ rg (o_lss rfl rfl (nZ (qZ ?_)))))
  refine Vc.cond' rfl (fun hb => ?_) (fun hb => ?_)
  · replace h := h.1 hb
    refine Vc.skip' ?_
    refine qZ ?_
    refine Vc.blk ?_
    refine qZ (rZ (mvZ (.int .i64 x) rfl (wZ rg (o_idxL td138 sz186 (by decide) (fun _ => rfl) rfl rfl h.1 ?_))))
    replace h := h.2
    refine wZ rg (o_loadI1 sz186 ag186 rfl rfl (v := .int .u32 (at' a x)) rfl (asZ (.int .i64 x) rfl (asZ (.int .u32 (at' a x)) rfl (nZ (qZ (rZ (asZ (.int .u64 0) rfl (nZ (qZ (qZ (rZ (mvZ (eL (AV.int .u32) b) rfl (wZ rg (o_len td138 rfl (mvZ (.int .i64 0) rfl (nZ ?_))))))))))))))))
    refine Vc.blk ?_
    obtain ⟨I, μ, h0, hI⟩ := h
    refine Vc.loop' (σ := (Int × Int × (List Int))) (fun y => I y) (fun y => μ y) (fun y => envOf [(1, eL (AV.int .u32) b), (5, .sl 1 rg 16 g1 0 y.2.2.length), (6, .int .i64 x), (7, .int .u32 (at' a x)), (8, .int .u64 y.1), (17, eL (AV.int .u32) a), (18, .int .i64 (a.length : Int)), (19, .int .i64 x), (24, eL (AV.int .u32) b), (25, .int .i64 (b.length : Int)), (26, .int .i64 y.2.1)]) (fun y => stL S rg [(16, .arr 1 (List.map (AV.int .u32) y.2.2), g1)]) (0, 0, out) (canon (fc vr (fc vr (fc vr (fc vr (fc vr (fc vr (fc vr (fc vr (fc vr (fc vr (fc vr (fn)))))))))))) (sc rfl (sn))) h0 (fun y h => ?_)
    obtain ⟨carry, x1, out1⟩ := y
    replace h := hI (carry, x1, out1) h
    show Vc _ _ _ _ (envOf [(1, eL (AV.int .u32) b), (5, .sl 1 rg 16 g1 0 out1.length), (6, .int .i64 x), (7, .int .u32 (at' a x)), (8, .int .u64 carry), (17, eL (AV.int .u32) a), (18, .int .i64 (a.length : Int)), (19, .int .i64 x), (24, eL (AV.int .u32) b), (25, .int .i64 (b.length : Int)), (26, .int .i64 x1)]) (stL S rg [(16, .arr 1 (List.map (AV.int .u32) out1), g1)])
    refine qZ (rZ (wZ rg (o_lss rfl rfl (nZ (qZ ?_)))))
    refine Vc.cond' rfl (fun hb1 => ?_) (fun hb1 => ?_)
    · replace h := h.1 hb1
      refine Vc.skip' ?_
      refine qZ ?_
      refine Vc.blk ?_
      refine qZ (rZ (mvZ (.int .i64 x1) rfl (wZ rg (o_idxL td138 sz186 (by decide) (fun _ => rfl) rfl rfl h.1 ?_))))
      replace h := h.2
      refine wZ rg (o_loadI1 sz186 ag186 rfl rfl (v := .int .u32 (at' b x1)) rfl (asZ (.int .i64 x1) rfl (asZ (.int .u32 (at' b x1)) rfl (nZ (qZ (rZ (mvZ (.int .u64 carry) rfl (mvZ (.int .u32 (at' a x)) rfl (wZ rg (o_conv td186 td188 rfl (mvZ (.int .u32 (at' b x1)) rfl (wZ rg (o_conv td186 td188 rfl (wZ rg (o_mul rfl rfl (mvZ (.sl 1 rg 16 g1 0 out1.length) rfl (mvZ (.int .i64 x) rfl ?_)))))))))))))))))
      refine mvZ (.int .i64 x1) rfl (wZ rg (o_addG rfl rfl h.1 ?_))
      replace h := h.2
      refine wZ rg (o_idxR0 td138 sz186 (by decide) rfl rfl h.1 ?_)
      have hi := h.1
      replace h := h.2
      refine wZ rg (o_loadR1 (atL (k := 16) rfl) sz186 ag186 rfl (lt_of hi (by first | rfl | omega | (simp only [go_sem] <;> omega))) rfl (v := .int .u32 (at' out1 (x + x1))) rfl (wZ rg (o_conv td186 td188 rfl (wZ rg (o_add rfl rfl (wZ rg (o_add rfl rfl ?_)))))))
      obtain ⟨carry1, hs⟩ : ∃ qz : Int, qz = (IntKind.wrap .u64 (carry + (IntKind.wrap .u64 ((IntKind.wrap .u64 ((IntKind.wrap .u64 (at' a x)) * (IntKind.wrap .u64 (at' b x1)))) + (IntKind.wrap .u64 (at' out1 (x + x1))))))) := ⟨_, rfl⟩
      replace h := h carry1 hs
      refine wZ rg (o_assign (v := .int .u64 carry1) (by subst hs; rfl) (nZ (qZ (rZ (mvZ (.sl 1 rg 16 g1 0 out1.length) rfl (mvZ (.int .i64 x) rfl (mvZ (.int .i64 x1) rfl (wZ rg (o_addG rfl rfl h.1 ?_)))))))))
      replace h := h.2
      refine mvZ (.int .u64 carry1) rfl (wZ rg (o_conv td188 td186 rfl (wZ rg (o_idxR0 td138 sz186 (by decide) rfl rfl h.1 ?_))))
      have hi1 := h.1
      replace h := h.2
      refine wZ rg (o_storeR1 (atL (k := 16) rfl) sz186 (by decide) (x' := (IntKind.wrap .u32 carry1)) (fun _ => rfl) rfl rfl (lt_of hi1 (by first | rfl | omega | (simp only [go_sem] <;> omega))) rfl rfl setL (nZ (rZ (mvZ (.int .u64 carry1) rfl (wZ rg (o_shr rfl rfl (by decide) (asZ (.int .u64 (carry1 / 2 ^ (Int.toNat 32))) rfl (nZ (rZ (wZ rg (o_addG rfl rfl h.1 ?_)))))))))))
      replace h := h.2
      refine mvZ (.int .i64 (x1 + 1)) rfl (nZ ?_)
      exact ⟨((carry1 / 2 ^ (Int.toNat 32)), (x1 + 1), (set' out1 (x + x1) (IntKind.wrap .u32 carry1))), (canon (fc vr (fc (VW.slen (by first | rfl | omega | (simp only [go_sem] <;> omega))) (fc vr (fc vr (fc vr (fc vr (fc vr (fc vr (fc vr (fc vr (fc vr (fn)))))))))))) (sc rfl (sn))), h⟩
    replace h := h.2 hb1
    refine Vc.exit' (exB_self ?_)
    refine rZ ?_
    refine mvZ (.sl 1 rg 16 g1 0 out1.length) rfl (mvZ (.int .i64 x) rfl (mvZ (eL (AV.int .u32) b) rfl (wZ rg (o_len td138 rfl (wZ rg (o_addG rfl rfl h.1 ?_))))))
    replace h := h.2
    refine mvZ (.int .u64 carry) rfl (wZ rg (o_conv td188 td186 rfl (wZ rg (o_idxR0 td138 sz186 (by decide) rfl rfl h.1 ?_))))
    have hi2 := h.1
    replace h := h.2
    refine wZ rg (o_storeR1 (atL (k := 16) rfl) sz186 (by decide) (x' := (IntKind.wrap .u32 carry)) (fun _ => rfl) rfl rfl (lt_of hi2 (by first | rfl | omega | (simp only [go_sem] <;> omega))) rfl rfl setL (nZ (rZ (wZ rg (o_addG rfl rfl h.1 ?_)))))
    replace h := h.2
    refine mvZ (.int .i64 (x + 1)) rfl (nZ ?_)
    exact ⟨((x + 1), (set' out1 (x + (b.length : Int)) (IntKind.wrap .u32 carry))), (canon (fc vr (fc (VW.slen (by first | rfl | omega | (simp only [go_sem] <;> omega))) (fc vr (fc vr (fc vr (fn)))))) (sc rfl (sn))), h⟩
  replace h := h.2 hb
  refine Vc.exit' (exB_self ?_)
  refine qZ (rZ (mvZ (.sl 1 rg 16 g1 0 out.length) rfl ?_))
  refine Wl.wk (canon_freeze (k := 16) (xs := List.map (AV.int .u32) out) rfl (es := [(65, eL (AV.int .u32) out)]) (fc (frz_full rfl) (fn)) (m := []) (sn)) ?_
  refine wZ rg (o_call (us := [eL (AV.int .u32) out]) rfl (vl' vr (vn)) (natural_trim_ctr h fun r h => (asZ (eL (AV.int .u32) r) rfl (nZ ?_))))
  refine Vc.ret' ?_
  refine res_tmp (v := eL (AV.int .u32) r) rfl (res_nil ?_)
  show Gives _ (eL (AV.int .u32) r) _
  exact gives_out hrg (VW.refl _) (hQ _ h)
theorem natural_Add_ctr {a : List Int} {b : List Int} {Q : List Int → Prop} {S : St} {R : AV → St → Prop} (h : natural_Add_W a b Q) (hQ : ∀ r1, Q r1 → R (eL (AV.int .u32) r1) S) :
    Ctr Try.prog 148 [eL (AV.int .u32) a, eL (AV.int .u32) b] S R := by
  unfold natural_Add_W at h
  refine enterT Try.func148 rfl Try.ntmps148 Try.results148 (by kernel_rfl) (fun rg hrg => ?_)
  refine qZ (rZ (asZ .nil rfl (nZ (qZ (rZ (mvZ (eL (AV.int .u32) a) rfl (wZ rg (o_len td138 rfl (mvZ (eL (AV.int .u32) b) rfl (wZ rg (o_len td138 rfl (wZ rg (o_max rfl rfl (wZ rg (o_addG rfl rfl h.1 ?_)))))))))))))))
  replace h := h.2
  refine wZ rg (o_make td138 bts186 ok186 (enc := AV.int .u32) (z' := 0) zav186 (kk := 1) rfl rfl rfl h.1 (fun g1 => ?_))
  replace h := h.2
  refine asZ (.sl 1 rg 14 g1 0 (Int.toNat ((max (a.length : Int) (b.length : Int)) + 1))) rfl (nZ (qZ (rZ (asZ (.int .u64 0) rfl (nZ (qZ (qZ (rZ (mvZ (.sl 1 rg 14 g1 0 (Int.toNat ((max (a.length : Int) (b.length : Int)) + 1))) rfl (wZ rg (o_lenR td138 rfl (mvZ (.int .i64 0) rfl (nZ ?_)))))))))))))
  refine Vc.blk ?_
  obtain ⟨I, μ, h0, hI⟩ := h
  refine Vc.loop' (σ := (Int × Int × (List Int))) (fun y => I y) (fun y => μ y) (fun y => envOf [(0, eL (AV.int .u32) a), (1, eL (AV.int .u32) b), (5, .sl 1 rg 14 g1 0 y.2.2.length), (6, .int .u64 y.1), (16, .int .i64 ((Int.toNat ((max (a.length : Int) (b.length : Int)) + 1)) : Int)), (17, .int .i64 y.2.1)]) (fun y => stL S rg [(14, .arr 1 (List.map (AV.int .u32) y.2.2), g1)]) (0, 0, (rep' ((max (a.length : Int) (b.length : Int)) + 1) 0)) (canon (fc vr (fc vr (fc (VW.slen (by first | rfl | omega | (simp only [go_sem] <;> omega))) (fc vr (fc vr (fc vr (fn))))))) (sc rfl (sn))) h0 (fun y h => ?_)
  obtain ⟨carry, x, out⟩ := y
  replace h := hI (carry, x, out) h
  show Vc _ _ _ _ (envOf [(0, eL (AV.int .u32) a), (1, eL (AV.int .u32) b), (5, .sl 1 rg 14 g1 0 out.length), (6, .int .u64 carry), (16, .int .i64 ((Int.toNat ((max (a.length : Int) (b.length : Int)) + 1)) : Int)), (17, .int .i64 x)]) (stL S rg [(14, .arr 1 (List.map (AV.int .u32) out), g1)])
  refine qZ (rZ (wZ rg (o_lss rfl rfl (nZ (qZ ?_)))))
  refine Vc.cond' rfl (fun hb => ?_) (fun hb => ?_)
  · replace h := h.1 hb
    refine Vc.skip' ?_
    refine qZ ?_
    refine Vc.blk ?_
    refine qZ (rZ (mvZ (.int .i64 x) rfl (asZ (.int .i64 x) rfl (nZ (qZ (rZ (mvZ (.int .u64 carry) rfl (mvZ (eL (AV.int .u32) a) rfl (mvZ (.int .i64 x) rfl (wZ rg (o_call (us := [eL (AV.int .u32) a, AV.int .i64 x]) rfl (vl' vr (vl' vr (vn))) (natural_word_ctr h fun r h => (mvZ (eL (AV.int .u32) b) rfl (mvZ (.int .i64 x) rfl ?_))))))))))))))
    refine wZ rg (o_call (us := [eL (AV.int .u32) b, AV.int .i64 x]) rfl (vl' vr (vl' vr (vn))) (natural_word_ctr h fun r1 h => (wZ rg (o_add rfl rfl (wZ rg (o_add rfl rfl ?_))))))
    obtain ⟨carry1, hs⟩ : ∃ qz : Int, qz = (IntKind.wrap .u64 (carry + (IntKind.wrap .u64 (r + r1)))) := ⟨_, rfl⟩
    replace h := h carry1 hs
    refine wZ rg (o_assign (v := .int .u64 carry1) (by subst hs; rfl) (nZ (qZ (rZ (mvZ (.sl 1 rg 14 g1 0 out.length) rfl (mvZ (.int .i64 x) rfl (mvZ (.int .u64 carry1) rfl (wZ rg (o_conv td188 td186 rfl (wZ rg (o_idxR0 td138 sz186 (by decide) rfl rfl h.1 ?_)))))))))))
    have hi := h.1
    replace h := h.2
    refine wZ rg (o_storeR1 (atL (k := 14) rfl) sz186 (by decide) (x' := (IntKind.wrap .u32 carry1)) (fun _ => rfl) rfl rfl (lt_of hi (by first | rfl | omega | (simp only [go_sem] <;> omega))) rfl rfl setL (nZ (rZ (mvZ (.int .u64 carry1) rfl (wZ rg (o_shr rfl rfl (by decide) (asZ (.int .u64 (carry1 / 2 ^ (Int.toNat 32))) rfl (nZ (rZ (wZ rg (o_addG rfl rfl h.1 ?_)))))))))))
    replace h := h.2
    refine mvZ (.int .i64 (x + 1)) rfl (nZ ?_)
    exact ⟨((carry1 / 2 ^ (Int.toNat 32)), (x + 1), (set' out x (IntKind.wrap .u32 carry1))), (canon (fc vr (fc vr (fc (VW.slen (by first | rfl | omega | (simp only [go_sem] <;> omega))) (fc vr (fc vr (fc vr (fn))))))) (sc rfl (sn))), h⟩
  replace h := h.2 hb
  refine Vc.exit' (exB_self ?_)
  refine qZ (rZ (mvZ (.sl 1 rg 14 g1 0 out.length) rfl ?_))
  refine Wl.wk (canon_freeze (k := 14) (xs := List.map (AV.int .u32) out) rfl (es := [(37, eL (AV.int .u32) out)]) (fc (frz_full rfl) (fn)) (m := []) (sn)) ?_
  refine wZ rg (o_call (us := [eL (AV.int .u32) out]) rfl (vl' vr (vn)) (natural_trim_ctr h fun r2 h => (asZ (eL (AV.int .u32) r2) rfl (nZ ?_))))
  refine Vc.ret' ?_
  refine res_tmp (v := eL (AV.int .u32) r2) rfl (res_nil ?_)
  show Gives _ (eL (AV.int .u32) r2) _
  exact gives_out hrg (VW.refl _) (hQ _ h)
theorem natural_Sub_ctr {a : List Int} {b : List Int} {Q : List Int → Option Int → Prop} {S : St} {R : AV → St → Prop} (h : natural_Sub_W a b Q) (hQ : ∀ r1 r2, Q r1 r2 → R (.tuple [eL (AV.int .u32) r1, eErr 73 r2]) S) :
    Ctr Try.prog 150 [eL (AV.int .u32) a, eL (AV.int .u32) b] S R := by
  unfold natural_Sub_W at h
  refine enterT Try.func150 rfl Try.ntmps150 Try.results150 (by kernel_rfl) (fun rg hrg => ?_)
  refine qZ (rZ (asZ .nil rfl (asZ .niface rfl (nZ (qZ (qZ (rZ (mvZ (eL (AV.int .u32) a) rfl (mvZ (eL (AV.int .u32) b) rfl (wZ rg (o_call (us := [eL (AV.int .u32) a, eL (AV.int .u32) b]) rfl (vl' vr (vl' vr (vn))) (natural_Cmp_ctr h fun r h => (wZ rg (o_lss rfl rfl (nZ ?_)))))))))))))))
  refine Vc.cond' rfl (fun hb => ?_) (fun hb => ?_)
  · replace h := h.1 hb
    refine qZ (rZ (wZ rg (o_iface (by rw [td73]; trivial) (v := .int .i64 3) rfl (asZ .nil rfl (asZ (.iface 73 (.int .i64 3)) rfl (nZ ?_))))))
    refine Vc.ret' ?_
    refine res_tmp (v := .nil) rfl (res_tmp (v := .iface 73 (.int .i64 3)) rfl (res_nil ?_))
    show Gives _ (.tuple [.nil, .iface 73 (.int .i64 3)]) _
    exact gives_out hrg (VW.tupL (vl' (VW.nilL) (vl' vr (vn)))) (hQ _ _ h)
  replace h := h.2 hb
  refine Vc.skip' ?_
  refine qZ (rZ (mvZ (eL (AV.int .u32) a) rfl (wZ rg (o_len td138 rfl (wZ rg (o_make td138 bts186 ok186 (enc := AV.int .u32) (z' := 0) zav186 (kk := 1) rfl rfl rfl h.1 (fun g1 => ?_)))))))
  replace h := h.2
  refine asZ (.sl 1 rg 17 g1 0 (Int.toNat (a.length : Int))) rfl (nZ (qZ (rZ (asZ (.int .u64 0) rfl (nZ (qZ (qZ (rZ (mvZ (.sl 1 rg 17 g1 0 (Int.toNat (a.length : Int))) rfl (wZ rg (o_lenR td138 rfl (mvZ (.int .i64 0) rfl (nZ ?_)))))))))))))
  refine Vc.blk ?_
  obtain ⟨I, μ, h0, hI⟩ := h
  refine Vc.loop' (σ := (Int × Int × (List Int))) (fun y => I y) (fun y => μ y) (fun y => envOf [(0, eL (AV.int .u32) a), (1, eL (AV.int .u32) b), (6, .sl 1 rg 17 g1 0 y.2.2.length), (7, .int .u64 y.1), (19, .int .i64 ((Int.toNat (a.length : Int)) : Int)), (20, .int .i64 y.2.1)]) (fun y => stL S rg [(17, .arr 1 (List.map (AV.int .u32) y.2.2), g1)]) (0, 0, (rep' (a.length : Int) 0)) (canon (fc vr (fc vr (fc (VW.slen (by first | rfl | omega | (simp only [go_sem] <;> omega))) (fc vr (fc vr (fc vr (fn))))))) (sc rfl (sn))) h0 (fun y h => ?_)
  obtain ⟨borrow, x, out⟩ := y
  replace h := hI (borrow, x, out) h
  show Vc _ _ _ _ (envOf [(0, eL (AV.int .u32) a), (1, eL (AV.int .u32) b), (6, .sl 1 rg 17 g1 0 out.length), (7, .int .u64 borrow), (19, .int .i64 ((Int.toNat (a.length : Int)) : Int)), (20, .int .i64 x)]) (stL S rg [(17, .arr 1 (List.map (AV.int .u32) out), g1)])
  refine qZ (rZ (wZ rg (o_lss rfl rfl (nZ (qZ ?_)))))
  refine Vc.cond' rfl (fun hb1 => ?_) (fun hb1 => ?_)
  · replace h := h.1 hb1
    refine Vc.skip' ?_
    refine qZ ?_
    refine Vc.blk ?_
    refine qZ (rZ (mvZ (.int .i64 x) rfl (asZ (.int .i64 x) rfl (nZ (qZ (rZ (mvZ (eL (AV.int .u32) a) rfl (mvZ (.int .i64 x) rfl (wZ rg (o_call (us := [eL (AV.int .u32) a, AV.int .i64 x]) rfl (vl' vr (vl' vr (vn))) (natural_word_ctr h fun r1 h => (mvZ (eL (AV.int .u32) b) rfl (mvZ (.int .i64 x) rfl ?_)))))))))))))
    refine wZ rg (o_call (us := [eL (AV.int .u32) b, AV.int .i64 x]) rfl (vl' vr (vl' vr (vn))) (natural_word_ctr h fun r2 h => (wZ rg (o_sub rfl rfl (mvZ (.int .u64 borrow) rfl (wZ rg (o_sub rfl rfl ?_)))))))
    obtain ⟨d, hs⟩ : ∃ qz : Int, qz = (IntKind.wrap .u64 ((IntKind.wrap .u64 (r1 - r2)) - borrow)) := ⟨_, rfl⟩
    replace h := h d hs
    refine wZ rg (o_assign (v := .int .u64 d) (by subst hs; rfl) (nZ (qZ (rZ (mvZ (.sl 1 rg 17 g1 0 out.length) rfl (mvZ (.int .i64 x) rfl (mvZ (.int .u64 d) rfl (wZ rg (o_conv td188 td186 rfl (wZ rg (o_idxR0 td138 sz186 (by decide) rfl rfl h.1 ?_)))))))))))
    have hi := h.1
    replace h := h.2
    refine wZ rg (o_storeR1 (atL (k := 17) rfl) sz186 (by decide) (x' := (IntKind.wrap .u32 d)) (fun _ => rfl) rfl rfl (lt_of hi (by first | rfl | omega | (simp only [go_sem] <;> omega))) rfl rfl setL (nZ (rZ (mvZ (.int .u64 d) rfl (wZ rg (o_shr rfl rfl (by decide) (asZ (.int .u64 (d / 2 ^ (Int.toNat 63))) rfl (nZ (rZ (wZ rg (o_addG rfl rfl h.1 ?_)))))))))))
    replace h := h.2
    refine mvZ (.int .i64 (x + 1)) rfl (nZ ?_)
    exact ⟨((d / 2 ^ (Int.toNat 63)), (x + 1), (set' out x (IntKind.wrap .u32 d))), (canon (fc vr (fc vr (fc (VW.slen (by first | rfl | omega | (simp only [go_sem] <;> omega))) (fc vr (fc vr (fc vr (fn))))))) (sc rfl (sn))), h⟩
  replace h := h.2 hb1
  refine Vc.exit' (exB_self ?_)
  refine qZ (rZ (mvZ (.sl 1 rg 17 g1 0 out.length) rfl ?_))
  refine Wl.wk (canon_freeze (k := 17) (xs := List.map (AV.int .u32) out) rfl (es := [(40, eL (AV.int .u32) out)]) (fc (frz_full rfl) (fn)) (m := []) (sn)) ?_
  refine wZ rg (o_call (us := [eL (AV.int .u32) out]) rfl (vl' vr (vn)) (natural_trim_ctr h fun r3 h => (asZ (eL (AV.int .u32) r3) rfl (asZ .niface rfl (nZ ?_)))))
  refine Vc.ret' ?_
  refine res_tmp (v := eL (AV.int .u32) r3) rfl (res_tmp (v := .niface) rfl (res_nil ?_))
  show Gives _ (.tuple [eL (AV.int .u32) r3, .niface]) _
  exact gives_out hrg (VW.tupL (vl' vr (vl' vr (vn)))) (hQ _ _ h)
end Go.Proofs.Ytiamkdpljeemkaa
/- Walks of functions. Conditions: none. -/
namespace Go.Proofs.Ytiamkdpljeemkaa
open Go.Gg
set_option maxRecDepth 100000
theorem rational_form_ctr {neg : Bool} {num : List Int} {den : List Int} {Q : GRat → Prop} {S : St} {R : AV → St → Prop} (h : rational_form_W neg num den Q) (hQ : ∀ r1, Q r1 → R (eRat r1) S) :
    Ctr Try.prog 142 [AV.bool neg, eL (AV.int .u32) num, eL (AV.int .u32) den] S R := by
  unfold rational_form_W at h
  refine enterT Try.func142 rfl Try.ntmps142 Try.results142 (by kernel_rfl) (fun rg hrg => ?_)
  refine qZ (rZ (wZ rg (o_alloc zav140 ok140 (kk := 3) rfl (fun g1 => (nZ (qZ (qZ (rZ (mvZ (eL (AV.int .u32) num) rfl (wZ rg (o_call (us := [eL (AV.int .u32) num]) rfl (vl' vr (vn)) (natural_Bits_ctr h fun r h => (wZ rg (o_eql rfl rfl (nZ ?_)))))))))))))))
  refine Vc.cond' rfl (fun hb => ?_) (fun hb => ?_)
  · replace h := h.1 hb
    refine qZ (rZ (wZ rg (o_build td140 zav140 bok140 szs140 sz140 (ps := []) rfl rfl (v := .agg [.bool false, .nil, .nil]) rfl (wZ rg (o_storeB (atL (k := 6) rfl) sz140 (by decide) rfl (w := .agg [.bool false, .nil, .nil]) rfl rfl rfl (v := .agg [.bool false, .nil, .nil]) rfl setL (nZ ?_))))))
    refine Vc.ret' ?_
    refine res_cellA (atL (k := 6) rfl) sz140 (by decide) ag140 rfl rfl (v := .agg [.bool false, .nil, .nil]) rfl (res_nil ?_)
    show Gives _ (.agg [.bool false, .nil, .nil]) _
    exact gives_out hrg (VW.aggL (vl' vr (vl' (VW.nilL) (vl' (VW.nilL) (vn))))) (hQ _ h)
  replace h := h.2 hb
  refine Vc.skip' ?_
  refine qZ (rZ (mvZ (eL (AV.int .u32) num) rfl (mvZ (eL (AV.int .u32) den) rfl (wZ rg (o_call (us := [eL (AV.int .u32) num, eL (AV.int .u32) den]) rfl (vl' vr (vl' vr (vn))) (natural_Gcd_ctr h fun g2 h => (asZ (eL (AV.int .u32) g2) rfl (nZ (qZ (rZ (mvZ (eL (AV.int .u32) num) rfl (mvZ (eL (AV.int .u32) g2) rfl ?_))))))))))))
  refine wZ rg (o_call (us := [eL (AV.int .u32) num, eL (AV.int .u32) g2]) rfl (vl' vr (vl' vr (vn))) (natural_Div_ctr h fun r1 r2 r3 h => (mvZ (.tuple [eL (AV.int .u32) r1, eL (AV.int .u32) r2, eErr 73 r3]) rfl (wZ rg (o_extract (v := eL (AV.int .u32) r1) rfl rfl rfl (wZ rg (o_extract (v := eL (AV.int .u32) r2) rfl rfl rfl (wZ rg (o_extract (v := eErr 73 r3) rfl rfl rfl ?_)))))))))
  refine asZ (eL (AV.int .u32) r1) rfl (asZ (eL (AV.int .u32) r2) rfl (asZ (eErr 73 r3) rfl (nZ (qZ (rZ (mvZ (eL (AV.int .u32) den) rfl (mvZ (eL (AV.int .u32) g2) rfl (wZ rg (o_call (us := [eL (AV.int .u32) den, eL (AV.int .u32) g2]) rfl (vl' vr (vl' vr (vn))) (natural_Div_ctr h fun r4 r5 r6 h => (mvZ (.tuple [eL (AV.int .u32) r4, eL (AV.int .u32) r5, eErr 73 r6]) rfl ?_)))))))))))
  refine wZ rg (o_extract (v := eL (AV.int .u32) r4) rfl rfl rfl (wZ rg (o_extract (v := eL (AV.int .u32) r5) rfl rfl rfl (wZ rg (o_extract (v := eErr 73 r6) rfl rfl rfl (asZ (eL (AV.int .u32) r4) rfl (asZ (eL (AV.int .u32) r5) rfl (asZ (eErr 73 r6) rfl (nZ (qZ (rZ (mvZ (.bool neg) rfl (mvZ (eL (AV.int .u32) r1) rfl (mvZ (eL (AV.int .u32) r4) rfl ?_))))))))))))))
  refine wZ rg (o_build td140 zav140 bok140 szs140 sz140 (ps := [(0, .bool neg), (1, eL (AV.int .u32) r1), (2, eL (AV.int .u32) r4)]) rfl rfl (v := .agg [.bool neg, eL (AV.int .u32) r1, eL (AV.int .u32) r4]) rfl ?_)
  refine wZ rg (o_storeB (atL (k := 6) rfl) sz140 (by decide) rfl (w := .agg [.bool neg, eL (AV.int .u32) r1, eL (AV.int .u32) r4]) rfl rfl rfl (v := .agg [.bool neg, eL (AV.int .u32) r1, eL (AV.int .u32) r4]) rfl setL (nZ ?_))
  refine Vc.ret' ?_
  refine res_cellA (atL (k := 6) rfl) sz140 (by decide) ag140 rfl rfl (v := .agg [.bool neg, eL (AV.int .u32) r1, eL (AV.int .u32) r4]) rfl (res_nil ?_)
  show Gives _ (.agg [.bool neg, eL (AV.int .u32) r1, eL (AV.int .u32) r4]) _
  exact gives_out hrg (VW.refl _) (hQ _ h)
theorem rational_size_ctr {n : Int} {Q : List Int → Prop} {S : St} {R : AV → St → Prop} (h : rational_size_W n Q) (hQ : ∀ r1, Q r1 → R (eL (AV.int .u32) r1) S) :
    Ctr Try.prog 143 [AV.int .i64 n] S R := by
  unfold rational_size_W at h
  refine enterT Try.func143 rfl Try.ntmps143 Try.results143 (by kernel_rfl) (fun rg hrg => ?_)
  refine qZ (rZ (asZ .nil rfl (nZ (qZ (qZ (rZ (mvZ (.int .i64 n) rfl (wZ rg (o_eql rfl rfl (nZ ?_))))))))))
  refine Vc.cond' rfl (fun hb => ?_) (fun hb => ?_)
  · replace h := h.1 hb
    refine qZ (rZ (wZ rg (o_bslice td138 ok186 zav186 (es := [.int .u32 0, .int .u32 2147483648]) rfl (kk := 1) rfl rfl rfl rfl rfl rfl (fun g1 => (asZ (.sl 1 rg 5 g1 0 ([0, 2147483648].length)) rfl (nZ ?_))))))
    refine Vc.ret' ?_
    refine res_tmp (v := .sl 1 rg 5 g1 0 ([0, 2147483648].length)) rfl (res_nil ?_)
    show Gives _ (.sl 1 rg 5 g1 0 ([0, 2147483648].length)) _
    refine gives_freeze (k := 5) (xs := List.map (AV.int .u32) [0, 2147483648]) rfl (v' := eL (AV.int .u32) [0, 2147483648]) (frz_full rfl) ?_
    exact gives_out hrg (VW.refl _) (hQ _ h)
  replace h := h.2 hb
  refine Vc.skip' ?_
  refine qZ (rZ (mvZ (.int .i64 n) rfl (mvZ (.int .i64 n) rfl (wZ rg (o_negG rfl h.1 ?_)))))
  replace h := h.2
  refine wZ rg (o_max rfl rfl (wZ rg (o_call (us := [AV.int .i64 (max n (-n))]) rfl (vl' vr (vn)) (natural_Of_ctr h fun r h => (asZ (eL (AV.int .u32) r) rfl (nZ ?_))))))
  refine Vc.ret' ?_
  refine res_tmp (v := eL (AV.int .u32) r) rfl (res_nil ?_)
  show Gives _ (eL (AV.int .u32) r) _
  exact gives_out hrg (VW.refl _) (hQ _ h)
theorem rational_one_ctr {Q : List Int → Prop} {S : St} {R : AV → St → Prop} (h : rational_one_W Q) (hQ : ∀ r1, Q r1 → R (eL (AV.int .u32) r1) S) :
    Ctr Try.prog 144 [] S R := by
  unfold rational_one_W at h
  refine enterT Try.func144 rfl Try.ntmps144 Try.results144 (by kernel_rfl) (fun rg hrg => ?_)
  refine qZ (rZ (asZ .nil rfl (nZ (qZ (rZ (wZ rg (o_bslice td138 ok186 zav186 (es := [.int .u32 1]) rfl (kk := 1) rfl rfl rfl rfl rfl rfl (fun g1 => (asZ (.sl 1 rg 1 g1 0 ([1].length)) rfl (nZ ?_))))))))))
  refine Vc.ret' ?_
  refine res_tmp (v := .sl 1 rg 1 g1 0 ([1].length)) rfl (res_nil ?_)
  show Gives _ (.sl 1 rg 1 g1 0 ([1].length)) _
  refine gives_freeze (k := 1) (xs := List.map (AV.int .u32) [1]) rfl (v' := eL (AV.int .u32) [1]) (frz_full rfl) ?_
  exact gives_out hrg (VW.refl _) (hQ _ h)
theorem rational_Of_ctr {n : Int} {Q : GRat → Prop} {S : St} {R : AV → St → Prop} (h : rational_Of_W n Q) (hQ : ∀ r1, Q r1 → R (eRat r1) S) :
    Ctr Try.prog 109 [AV.int .i64 n] S R := by
  unfold rational_Of_W at h
  refine enterT Try.func109 rfl Try.ntmps109 Try.results109 (by kernel_rfl) (fun rg hrg => ?_)
  refine qZ (rZ (wZ rg (o_alloc zav140 ok140 (kk := 3) rfl (fun g1 => (nZ (qZ (rZ (mvZ (.int .i64 n) rfl (wZ rg (o_lss rfl rfl (mvZ (.int .i64 n) rfl (wZ rg (o_call (us := [AV.int .i64 n]) rfl (vl' vr (vn)) (rational_size_ctr h fun r h => (wZ rg (o_call (us := []) rfl (vn) (rational_one_ctr h fun r1 h => ?_)))))))))))))))))
  refine wZ rg (o_call (us := [AV.bool (decide (n < 0)), eL (AV.int .u32) r, eL (AV.int .u32) r1]) rfl (vl' vr (vl' vr (vl' vr (vn)))) (rational_form_ctr h fun r2 h => (wZ rg (o_storeB (atL (k := 2) rfl) sz140 (by decide) rfl (w := eRat r2) rfl rfl rfl (v := eRat r2) rfl setL (nZ ?_)))))
  refine Vc.ret' ?_
  refine res_cellA (atL (k := 2) rfl) sz140 (by decide) ag140 rfl rfl (v := eRat r2) rfl (res_nil ?_)
  show Gives _ (eRat r2) _
  exact gives_out hrg (VW.refl _) (hQ _ h)
theorem rational_plain_ctr {a : List Int} {Q : Bool → Prop} {S : St} {R : AV → St → Prop} (h : rational_plain_W a Q) (hQ : ∀ r1, Q r1 → R (AV.bool r1) S) :
    Ctr Try.prog 182 [eL (AV.int .u32) a] S R := by
  unfold rational_plain_W at h
  refine enterT Try.func182 rfl Try.ntmps182 Try.results182 (by kernel_rfl) (fun rg hrg => ?_)
  refine qZ (rZ (asZ (.bool false) rfl (nZ (qZ (rZ (mvZ (eL (AV.int .u32) a) rfl (wZ rg (o_len td138 rfl (wZ rg (o_gtr rfl rfl (mvZ (.bool (decide (0 < (a.length : Int)))) rfl ?_)))))))))))
  refine Wl.guard rfl rfl (fun hb => ?_) (fun hb => ?_)
  · replace h := h.1 hb
    refine mvZ (eL (AV.int .u32) a) rfl ?_
    refine Wl.guardT rfl rfl hb ?_
    refine mvZ (eL (AV.int .u32) a) rfl ?_
    refine Wl.guardT rfl rfl hb ?_
    refine wZ rg (o_len td138 rfl ?_)
    refine Wl.guardT rfl rfl hb ?_
    refine wZ rg (o_subG rfl rfl h.1 ?_)
    replace h := h.2
    refine Wl.guardT rfl rfl hb ?_
    refine wZ rg (o_idxL td138 sz186 (by decide) (fun _ => rfl) rfl rfl h.1 ?_)
    replace h := h.2
    refine Wl.guardT rfl rfl hb ?_
    refine wZ rg (o_loadI1 sz186 ag186 rfl rfl (v := .int .u32 (at' a ((a.length : Int) - 1))) rfl ?_)
    refine Wl.guardT rfl rfl hb ?_
    refine wZ rg (o_neq rfl rfl (wZ rg (o_pickT rfl hb (v := .bool ((at' a ((a.length : Int) - 1)) != 0)) rfl (asZ (.bool ((at' a ((a.length : Int) - 1)) != 0)) rfl (nZ ?_)))))
    refine Vc.ret' ?_
    refine res_tmp (v := .bool ((at' a ((a.length : Int) - 1)) != 0)) rfl (res_nil ?_)
    show Gives _ (.bool ((at' a ((a.length : Int) - 1)) != 0)) _
    exact gives_out hrg (VW.refl _) (hQ _ h)
  replace h := h.2 hb
  refine Wl.guardF rfl rfl hb rfl ?_
  refine Wl.guardF rfl rfl hb rfl ?_
  refine Wl.guardF rfl rfl hb rfl ?_
  refine Wl.guardF rfl rfl hb rfl ?_
  refine Wl.guardF rfl rfl hb rfl ?_
  refine Wl.guardF rfl rfl hb rfl ?_
  refine wZ rg (o_pickF rfl hb (v := .bool false) rfl (asZ (.bool false) rfl (nZ ?_)))
  refine Vc.ret' ?_
  refine res_tmp (v := .bool false) rfl (res_nil ?_)
  show Gives _ (.bool false) _
  exact gives_out hrg (VW.refl _) (hQ _ h)
theorem rational_Valid_ctr {a : GRat} {Q : Bool → Prop} {S : St} {R : AV → St → Prop} (h : rational_Valid_W a Q) (hQ : ∀ r1, Q r1 → R (AV.bool r1) S) :
    Ctr Try.prog 165 [eRat a] S R := by
  unfold rational_Valid_W at h
  refine enterT Try.func165 rfl Try.ntmps165 Try.results165 (by kernel_rfl) (fun rg hrg => ?_)
  refine qZ (rZ (wZ rg (o_box (v := eRat a) rfl rfl (kk := 3) rfl (by decide) (fun g1 => (asZ (.bool false) rfl (nZ (qZ ?_)))))))
  obtain ⟨J, h, hJ⟩ := h
  refine Vc.join' (σ := ((Bool) × (Nat))) (fun y => J y.1) (fun y => envOf [(1, .ptr rg 1 y.2 0 0), (12, .bool y.1)]) (fun y => stL S rg [(1, .arr 3 [eRat a], y.2)]) (fun y h => ?_) ?_
  · obtain ⟨x, g2⟩ := y
    replace h := hJ x h
    show Vc _ _ _ _ (envOf [(1, .ptr rg 1 g2 0 0), (12, .bool x)]) (stL S rg [(1, .arr 3 [eRat a], g2)])
    refine Vc.cond' rfl (fun hb => ?_) (fun hb => ?_)
    · replace h := h.1 hb
      refine qZ (rZ (wZ rg (o_faP td140 rfl rfl (by rw [sz4]; decide) rfl (wZ rg (o_loadB1 (atL (k := 1) rfl) sz4 ag4 rfl rfl (v := .bool a.Neg) rfl (wZ rg (o_not rfl (asZ (.bool (!a.Neg)) rfl (nZ ?_)))))))))
      refine Vc.ret' ?_
      refine res_tmp (v := .bool (!a.Neg)) rfl (res_nil ?_)
      show Gives _ (.bool (!a.Neg)) _
      exact gives_out hrg (VW.refl _) (hQ _ h)
    replace h := h.2 hb
    refine Vc.skip' ?_
    refine qZ (rZ (wZ rg (o_faP td140 rfl rfl (by rw [sz138]; decide) rfl (wZ rg (o_loadB1 (atL (k := 1) rfl) sz138 ag138 rfl rfl (v := eL (AV.int .u32) a.Num) rfl (wZ rg (o_call (us := [eL (AV.int .u32) a.Num]) rfl (vl' vr (vn)) (rational_plain_ctr h fun r h => (mvZ (.bool r) rfl ?_)))))))))
    refine Wl.guard rfl rfl (fun hb1 => ?_) (fun hb1 => ?_)
    · replace h := h.1 hb1
      refine wZ rg (o_faP td140 rfl rfl (by rw [sz138]; decide) rfl ?_)
      refine Wl.guardT rfl rfl hb1 ?_
      refine wZ rg (o_loadB1 (atL (k := 1) rfl) sz138 ag138 rfl rfl (v := eL (AV.int .u32) a.Den) rfl ?_)
      refine Wl.guardT rfl rfl hb1 ?_
      refine wZ rg (o_call (us := [eL (AV.int .u32) a.Den]) rfl (vl' vr (vn)) (rational_plain_ctr h fun r1 h => (wZ rg (o_pickT rfl hb1 (v := .bool r1) rfl (mvZ (.bool r1) rfl ?_)))))
      refine Wl.guard rfl rfl (fun hb2 => ?_) (fun hb2 => ?_)
      · replace h := h.1 hb2
        refine wZ rg (o_faP td140 rfl rfl (by rw [sz138]; decide) rfl ?_)
        refine Wl.guardT rfl rfl hb2 ?_
        refine wZ rg (o_loadB1 (atL (k := 1) rfl) sz138 ag138 rfl rfl (v := eL (AV.int .u32) a.Num) rfl ?_)
        refine Wl.guardT rfl rfl hb2 ?_
        refine wZ rg (o_faP td140 rfl rfl (by rw [sz138]; decide) rfl ?_)
        refine Wl.guardT rfl rfl hb2 ?_
        refine wZ rg (o_loadB1 (atL (k := 1) rfl) sz138 ag138 rfl rfl (v := eL (AV.int .u32) a.Den) rfl ?_)
        refine Wl.guardT rfl rfl hb2 ?_
        refine wZ rg (o_call (us := [eL (AV.int .u32) a.Num, eL (AV.int .u32) a.Den]) rfl (vl' vr (vl' vr (vn))) (natural_Gcd_ctr h fun r2 h => ?_))
        refine Wl.guardT rfl rfl hb2 ?_
        refine wZ rg (o_call (us := []) rfl (vn) (rational_one_ctr h fun r3 h => ?_))
        refine Wl.guardT rfl rfl hb2 ?_
        refine wZ rg (o_call (us := [eL (AV.int .u32) r2, eL (AV.int .u32) r3]) rfl (vl' vr (vl' vr (vn))) (natural_Cmp_ctr h fun r4 h => ?_))
        refine Wl.guardT rfl rfl hb2 ?_
        refine wZ rg (o_eql rfl rfl (wZ rg (o_pickT rfl hb2 (v := .bool (r4 == 0)) rfl (asZ (.bool (r4 == 0)) rfl (nZ ?_)))))
        refine Vc.ret' ?_
        refine res_tmp (v := .bool (r4 == 0)) rfl (res_nil ?_)
        show Gives _ (.bool (r4 == 0)) _
        exact gives_out hrg (VW.refl _) (hQ _ h)
      replace h := h.2 hb2
      refine Wl.guardF rfl rfl hb2 rfl ?_
      refine Wl.guardF rfl rfl hb2 rfl ?_
      refine Wl.guardF rfl rfl hb2 rfl ?_
      refine Wl.guardF rfl rfl hb2 rfl ?_
      refine Wl.guardF rfl rfl hb2 rfl ?_
      refine Wl.guardF rfl rfl hb2 rfl ?_
      refine Wl.guardF rfl rfl hb2 rfl ?_
      refine wZ rg (o_pickF rfl hb2 (v := .bool false) rfl (asZ (.bool false) rfl (nZ ?_)))
      refine Vc.ret' ?_
      refine res_tmp (v := .bool false) rfl (res_nil ?_)
      show Gives _ (.bool false) _
      exact gives_out hrg (VW.refl _) (hQ _ h)
    replace h := h.2 hb1
    refine Wl.guardF rfl rfl hb1 rfl ?_
    refine Wl.guardF rfl rfl hb1 rfl ?_
    refine wZ rg (o_pickF rfl hb1 (v := .bool false) rfl (mvZ (.bool false) rfl ?_))
    refine Wl.guardF rfl rfl rfl rfl ?_
    refine Wl.guardF rfl rfl rfl rfl ?_
    refine Wl.guardF rfl rfl rfl rfl ?_
    refine Wl.guardF rfl rfl rfl rfl ?_
    refine Wl.guardF rfl rfl rfl rfl ?_
    refine Wl.guardF rfl rfl rfl rfl ?_
    refine Wl.guardF rfl rfl rfl rfl ?_
    refine Wl.guardF rfl rfl rfl rfl ?_
    refine wZ rg (o_pickF rfl rfl (v := .bool false) rfl (asZ (.bool false) rfl (nZ ?_)))
    refine Vc.ret' ?_
    refine res_tmp (v := .bool false) rfl (res_nil ?_)
    show Gives _ (.bool false) _
    exact gives_out hrg (VW.refl _) (hQ _ h)
  refine rZ ?_
  refine wZ rg (o_faP td140 rfl rfl (by rw [sz138]; decide) rfl (wZ rg (o_loadB1 (atL (k := 1) rfl) sz138 ag138 rfl rfl (v := eL (AV.int .u32) a.Num) rfl (wZ rg (o_len td138 rfl (wZ rg (o_eql rfl rfl (mvZ (.bool ((a.Num.length : Int) == 0)) rfl ?_))))))))
  refine Wl.guard rfl rfl (fun hb3 => ?_) (fun hb3 => ?_)
  · replace h := h.1 hb3
    refine wZ rg (o_faP td140 rfl rfl (by rw [sz138]; decide) rfl ?_)
    refine Wl.guardT rfl rfl hb3 ?_
    refine wZ rg (o_loadB1 (atL (k := 1) rfl) sz138 ag138 rfl rfl (v := eL (AV.int .u32) a.Den) rfl ?_)
    refine Wl.guardT rfl rfl hb3 ?_
    refine wZ rg (o_len td138 rfl ?_)
    refine Wl.guardT rfl rfl hb3 ?_
    refine wZ rg (o_eql rfl rfl (wZ rg (o_pickT rfl hb3 (v := .bool ((a.Den.length : Int) == 0)) rfl (nZ ?_))))
    exact ⟨(((a.Den.length : Int) == 0), g1), (canon (fc vr (fc vr (fn))) (sc rfl (sn))), h⟩
  replace h := h.2 hb3
  refine Wl.guardF rfl rfl hb3 rfl ?_
  refine Wl.guardF rfl rfl hb3 rfl ?_
  refine Wl.guardF rfl rfl hb3 rfl ?_
  refine wZ rg (o_pickF rfl hb3 (v := .bool false) rfl (nZ ?_))
  exact ⟨(false, g1), (canon (fc vr (fc vr (fn))) (sc rfl (sn))), h⟩
theorem rational_parts_ctr {a : GRat} {Q : Bool → List Int → List Int → Prop} {S : St} {R : AV → St → Prop} (h : rational_parts_W a Q) (hQ : ∀ r1 r2 r3, Q r1 r2 r3 → R (.tuple [AV.bool r1, eL (AV.int .u32) r2, eL (AV.int .u32) r3]) S) :
    Ctr Try.prog 146 [eRat a] S R := by
  unfold rational_parts_W at h
  refine enterT Try.func146 rfl Try.ntmps146 Try.results146 (by kernel_rfl) (fun rg hrg => ?_)
  refine qZ (rZ (wZ rg (o_box (v := eRat a) rfl rfl (kk := 3) rfl (by decide) (fun g1 => (asZ (.bool false) rfl (asZ .nil rfl (asZ .nil rfl (nZ (qZ ?_)))))))))
  obtain ⟨J, h, hJ⟩ := h
  refine Vc.join' (σ := ((Bool) × (Nat))) (fun y => J y.1) (fun y => envOf [(1, .ptr rg 1 y.2 0 0), (13, .bool y.1)]) (fun y => stL S rg [(1, .arr 3 [eRat a], y.2)]) (fun y h => ?_) ?_
  · obtain ⟨x, g2⟩ := y
    replace h := hJ x h
    show Vc _ _ _ _ (envOf [(1, .ptr rg 1 g2 0 0), (13, .bool x)]) (stL S rg [(1, .arr 3 [eRat a], g2)])
    refine Vc.cond' rfl (fun hb => ?_) (fun hb => ?_)
    · replace h := h.1 hb
      refine qZ (rZ (wZ rg (o_call (us := []) rfl (vn) (rational_one_ctr h fun r h => (asZ (.bool false) rfl (asZ .nil rfl (asZ (eL (AV.int .u32) r) rfl (nZ ?_))))))))
      refine Vc.ret' ?_
      refine res_tmp (v := .bool false) rfl (res_tmp (v := .nil) rfl (res_tmp (v := eL (AV.int .u32) r) rfl (res_nil ?_)))
      show Gives _ (.tuple [.bool false, .nil, eL (AV.int .u32) r]) _
      exact gives_out hrg (VW.tupL (vl' vr (vl' (VW.nilL) (vl' vr (vn))))) (hQ _ _ _ h)
    replace h := h.2 hb
    refine Vc.skip' ?_
    refine qZ ?_
    refine Vc.drawn' mixed rg (fun _ => jcr2) (by kernel_rfl) ?_
    refine dP rfl rfl (o_faP td140 rfl rfl (by rw [sz4]; decide) rfl (dL (E := ([(rg, 1)], [])) rfl rfl (by simp) (cfn) (o_loadB1 (atL (k := 1) rfl) sz4 ag4 rfl rfl (v := .bool a.Neg) rfl (dP rfl rfl (o_faP td140 rfl rfl (by rw [sz138]; decide) rfl ?_)))))
    refine dL (E := ([(rg, 1)], [])) rfl rfl (by simp) (cfa (by simp [apartE]) (cfn)) (o_loadB1 (atL (k := 1) rfl) sz138 ag138 rfl rfl (v := eL (AV.int .u32) a.Num) rfl (dP rfl rfl (o_faP td140 rfl rfl (by rw [sz138]; decide) rfl ?_)))
    refine dL (E := ([(rg, 1)], [])) rfl rfl (by simp) (cfa (by simp [apartE]) (cfa (by simp [apartE]) (cfn))) (o_loadB1 (atL (k := 1) rfl) sz138 ag138 rfl rfl (v := eL (AV.int .u32) a.Den) rfl (dP rfl rfl (o_assign (v := .bool a.Neg) rfl (dP rfl rfl (o_assign (v := eL (AV.int .u32) a.Num) rfl (dP rfl rfl (o_assign (v := eL (AV.int .u32) a.Den) rfl (dN ?_))))))))
    refine Vc.ret' ?_
    refine res_tmp (v := .bool a.Neg) rfl (res_tmp (v := eL (AV.int .u32) a.Num) rfl (res_tmp (v := eL (AV.int .u32) a.Den) rfl (res_nil ?_)))
    show Gives _ (.tuple [.bool a.Neg, eL (AV.int .u32) a.Num, eL (AV.int .u32) a.Den]) _
    exact gives_out hrg (VW.tupL (vl' vr (vl' vr (vl' vr (vn))))) (hQ _ _ _ h)
  refine rZ ?_
  refine wZ rg (o_loadBA (atL (k := 1) rfl) sz140 (by decide) ag140 rfl rfl (v := eRat a) rfl (wZ rg (o_call (us := [eRat a]) rfl (vl' vr (vn)) (rational_Valid_ctr h fun r1 h => (wZ rg (o_not rfl (mvZ (.bool (!r1)) rfl ?_)))))))
  refine Wl.guard rfl rfl (fun hb1 => ?_) (fun hb1 => ?_)
  · replace h := h.2 hb1
    refine wZ rg (o_faP td140 rfl rfl (by rw [sz138]; decide) rfl ?_)
    refine Wl.guardT rfl rfl hb1 ?_
    refine wZ rg (o_loadB1 (atL (k := 1) rfl) sz138 ag138 rfl rfl (v := eL (AV.int .u32) a.Num) rfl ?_)
    refine Wl.guardT rfl rfl hb1 ?_
    refine wZ rg (o_len td138 rfl ?_)
    refine Wl.guardT rfl rfl hb1 ?_
    refine wZ rg (o_eql rfl rfl (wZ rg (o_pickF rfl hb1 (v := .bool ((a.Num.length : Int) == 0)) rfl (nZ ?_))))
    exact ⟨(((a.Num.length : Int) == 0), g1), (canon (fc vr (fc vr (fn))) (sc rfl (sn))), h⟩
  replace h := h.1 hb1
  refine Wl.guardF rfl rfl hb1 rfl ?_
  refine Wl.guardF rfl rfl hb1 rfl ?_
  refine Wl.guardF rfl rfl hb1 rfl ?_
  refine wZ rg (o_pickT rfl hb1 (v := .bool true) rfl (nZ ?_))
  exact ⟨(true, g1), (canon (fc vr (fc vr (fn))) (sc rfl (sn))), h⟩
theorem rational_Sign_ctr {a : GRat} {Q : Int → Prop} {S : St} {R : AV → St → Prop} (h : rational_Sign_W a Q) (hQ : ∀ r1, Q r1 → R (AV.int .i64 r1) S) :
    Ctr Try.prog 111 [eRat a] S R := by
  unfold rational_Sign_W at h
  refine enterT Try.func111 rfl Try.ntmps111 Try.results111 (by kernel_rfl) (fun rg hrg => ?_)
  refine qZ (rZ (wZ rg (o_box (v := eRat a) rfl rfl (kk := 3) rfl (by decide) (fun g1 => (asZ (.int .i64 0) rfl (nZ (qZ (rZ (wZ rg (o_loadBA (atL (k := 1) rfl) sz140 (by decide) ag140 rfl rfl (v := eRat a) rfl (wZ rg (o_call (us := [eRat a]) rfl (vl' vr (vn)) (rational_parts_ctr h fun r r1 r2 h => (mvZ (.tuple [.bool r, eL (AV.int .u32) r1, eL (AV.int .u32) r2]) rfl ?_))))))))))))))
  refine wZ rg (o_extract (v := .bool r) rfl rfl rfl (wZ rg (o_extract (v := eL (AV.int .u32) r1) rfl rfl rfl (wZ rg (o_extract (v := eL (AV.int .u32) r2) rfl rfl rfl (asZ (.bool r) rfl (asZ (eL (AV.int .u32) r1) rfl (asZ (eL (AV.int .u32) r2) rfl (nZ (qZ ?_))))))))))
  refine Vc.blk ?_
  refine qZ (rZ (mvZ (eL (AV.int .u32) r1) rfl (wZ rg (o_len td138 rfl (wZ rg (o_eql rfl rfl (asZ (.bool ((r1.length : Int) == 0)) rfl (nZ ?_))))))))
  refine Vc.cond' rfl (fun hb => ?_) (fun hb => ?_)
  · replace h := h.1 hb
    refine qZ (rZ (asZ (.int .i64 0) rfl (nZ ?_)))
    refine Vc.ret' ?_
    refine res_tmp (v := .int .i64 0) rfl (res_nil ?_)
    show Gives _ (.int .i64 0) _
    exact gives_out hrg (VW.refl _) (hQ _ h)
  replace h := h.2 hb
  refine qZ (rZ (mvZ (.bool r) rfl (asZ (.bool r) rfl (nZ ?_))))
  refine Vc.cond' rfl (fun hb1 => ?_) (fun hb1 => ?_)
  · replace h := h.1 hb1
    refine qZ (rZ (asZ (.int .i64 (-1)) rfl (nZ ?_)))
    refine Vc.ret' ?_
    refine res_tmp (v := .int .i64 (-1)) rfl (res_nil ?_)
    show Gives _ (.int .i64 (-1)) _
    exact gives_out hrg (VW.refl _) (hQ _ h)
  replace h := h.2 hb1
  refine Vc.skip' ?_
  refine qZ (rZ (asZ (.int .i64 1) rfl (nZ ?_)))
  refine Vc.ret' ?_
  refine res_tmp (v := .int .i64 1) rfl (res_nil ?_)
  show Gives _ (.int .i64 1) _
  exact gives_out hrg (VW.refl _) (hQ _ h)
theorem rational_Div_ctr {a : GRat} {b : GRat} {Q : GRat → Option Int → Prop} {S : St} {R : AV → St → Prop} (h : rational_Div_W a b Q) (hQ : ∀ r1 r2, Q r1 r2 → R (.tuple [eRat r1, eErr 73 r2]) S) :
    Ctr Try.prog 112 [eRat a, eRat b] S R := by
  unfold rational_Div_W at h
  refine enterT Try.func112 rfl Try.ntmps112 Try.results112 (by kernel_rfl) (fun rg hrg => ?_)
  refine qZ (rZ (wZ rg (o_box (v := eRat a) rfl rfl (kk := 3) rfl (by decide) (fun g1 => (wZ rg (o_box (v := eRat b) rfl rfl (kk := 3) rfl (by decide) (fun g2 => (wZ rg (o_alloc zav140 ok140 (kk := 3) rfl (fun g3 => (asZ .niface rfl (nZ (qZ (rZ (wZ rg (o_loadBA (atL (k := 2) rfl) sz140 (by decide) ag140 rfl rfl (v := eRat a) rfl ?_))))))))))))))))
  refine wZ rg (o_call (us := [eRat a]) rfl (vl' vr (vn)) (rational_parts_ctr h fun r r1 r2 h => (mvZ (.tuple [.bool r, eL (AV.int .u32) r1, eL (AV.int .u32) r2]) rfl (wZ rg (o_extract (v := .bool r) rfl rfl rfl (wZ rg (o_extract (v := eL (AV.int .u32) r1) rfl rfl rfl (wZ rg (o_extract (v := eL (AV.int .u32) r2) rfl rfl rfl (asZ (.bool r) rfl (asZ (eL (AV.int .u32) r1) rfl ?_)))))))))))
  refine asZ (eL (AV.int .u32) r2) rfl (nZ (qZ (rZ (wZ rg (o_loadBA (atL (k := 3) rfl) sz140 (by decide) ag140 rfl rfl (v := eRat b) rfl (wZ rg (o_call (us := [eRat b]) rfl (vl' vr (vn)) (rational_parts_ctr h fun r3 r4 r5 h => (mvZ (.tuple [.bool r3, eL (AV.int .u32) r4, eL (AV.int .u32) r5]) rfl (wZ rg (o_extract (v := .bool r3) rfl rfl rfl ?_)))))))))))
  refine wZ rg (o_extract (v := eL (AV.int .u32) r4) rfl rfl rfl (wZ rg (o_extract (v := eL (AV.int .u32) r5) rfl rfl rfl (asZ (.bool r3) rfl (asZ (eL (AV.int .u32) r4) rfl (asZ (eL (AV.int .u32) r5) rfl (nZ (qZ (qZ (rZ (mvZ (eL (AV.int .u32) r4) rfl (wZ rg (o_len td138 rfl (wZ rg (o_eql rfl rfl (nZ ?_))))))))))))))))
  refine Vc.cond' rfl (fun hb => ?_) (fun hb => ?_)
  · replace h := h.1 hb
    refine qZ (rZ (wZ rg (o_build td140 zav140 bok140 szs140 sz140 (ps := []) rfl rfl (v := .agg [.bool false, .nil, .nil]) rfl (wZ rg (o_iface (by rw [td73]; trivial) (v := .int .i64 8) rfl (wZ rg (o_storeB (atL (k := 4) rfl) sz140 (by decide) rfl (w := .agg [.bool false, .nil, .nil]) rfl rfl rfl (v := .agg [.bool false, .nil, .nil]) rfl setL (asZ (.iface 73 (.int .i64 8)) rfl (nZ ?_)))))))))
    refine Vc.ret' ?_
    refine res_cellA (atL (k := 4) rfl) sz140 (by decide) ag140 rfl rfl (v := .agg [.bool false, .nil, .nil]) rfl (res_tmp (v := .iface 73 (.int .i64 8)) rfl (res_nil ?_))
    show Gives _ (.tuple [.agg [.bool false, .nil, .nil], .iface 73 (.int .i64 8)]) _
    exact gives_out hrg (VW.tupL (vl' (VW.aggL (vl' vr (vl' (VW.nilL) (vl' (VW.nilL) (vn))))) (vl' vr (vn)))) (hQ _ _ h)
  replace h := h.2 hb
  refine Vc.skip' ?_
  refine qZ (rZ (mvZ (.bool r) rfl (mvZ (.bool r3) rfl (wZ rg (o_neqB td4 rfl rfl (mvZ (eL (AV.int .u32) r1) rfl (mvZ (eL (AV.int .u32) r5) rfl (wZ rg (o_call (us := [eL (AV.int .u32) r1, eL (AV.int .u32) r5]) rfl (vl' vr (vl' vr (vn))) (natural_Mul_ctr h fun r6 h => (mvZ (eL (AV.int .u32) r2) rfl (mvZ (eL (AV.int .u32) r4) rfl ?_))))))))))))
  refine wZ rg (o_call (us := [eL (AV.int .u32) r2, eL (AV.int .u32) r4]) rfl (vl' vr (vl' vr (vn))) (natural_Mul_ctr h fun r7 h => (wZ rg (o_call (us := [AV.bool (r != r3), eL (AV.int .u32) r6, eL (AV.int .u32) r7]) rfl (vl' vr (vl' vr (vl' vr (vn)))) (rational_form_ctr h fun r8 h => (wZ rg (o_storeB (atL (k := 4) rfl) sz140 (by decide) rfl (w := eRat r8) rfl rfl rfl (v := eRat r8) rfl setL ?_)))))))
  refine asZ .niface rfl (nZ ?_)
  refine Vc.ret' ?_
  refine res_cellA (atL (k := 4) rfl) sz140 (by decide) ag140 rfl rfl (v := eRat r8) rfl (res_tmp (v := .niface) rfl (res_nil ?_))
  show Gives _ (.tuple [eRat r8, .niface]) _
  exact gives_out hrg (VW.tupL (vl' vr (vl' vr (vn)))) (hQ _ _ h)
theorem rational_Add_ctr {a : GRat} {b : GRat} {Q : GRat → Prop} {S : St} {R : AV → St → Prop} (h : rational_Add_W a b Q) (hQ : ∀ r1, Q r1 → R (eRat r1) S) :
    Ctr Try.prog 113 [eRat a, eRat b] S R := by
  unfold rational_Add_W at h
  refine enterT Try.func113 rfl Try.ntmps113 Try.results113 (by kernel_rfl) (fun rg hrg => ?_)
  refine qZ (rZ (wZ rg (o_box (v := eRat a) rfl rfl (kk := 3) rfl (by decide) (fun g1 => (wZ rg (o_box (v := eRat b) rfl rfl (kk := 3) rfl (by decide) (fun g2 => (wZ rg (o_alloc zav140 ok140 (kk := 3) rfl (fun g3 => (nZ (qZ (rZ (wZ rg (o_loadBA (atL (k := 2) rfl) sz140 (by decide) ag140 rfl rfl (v := eRat a) rfl ?_)))))))))))))))
  refine wZ rg (o_call (us := [eRat a]) rfl (vl' vr (vn)) (rational_parts_ctr h fun r r1 r2 h => (mvZ (.tuple [.bool r, eL (AV.int .u32) r1, eL (AV.int .u32) r2]) rfl (wZ rg (o_extract (v := .bool r) rfl rfl rfl (wZ rg (o_extract (v := eL (AV.int .u32) r1) rfl rfl rfl (wZ rg (o_extract (v := eL (AV.int .u32) r2) rfl rfl rfl (asZ (.bool r) rfl (asZ (eL (AV.int .u32) r1) rfl ?_)))))))))))
  refine asZ (eL (AV.int .u32) r2) rfl (nZ (qZ (rZ (wZ rg (o_loadBA (atL (k := 3) rfl) sz140 (by decide) ag140 rfl rfl (v := eRat b) rfl (wZ rg (o_call (us := [eRat b]) rfl (vl' vr (vn)) (rational_parts_ctr h fun r3 r4 r5 h => (mvZ (.tuple [.bool r3, eL (AV.int .u32) r4, eL (AV.int .u32) r5]) rfl (wZ rg (o_extract (v := .bool r3) rfl rfl rfl ?_)))))))))))
  refine wZ rg (o_extract (v := eL (AV.int .u32) r4) rfl rfl rfl (wZ rg (o_extract (v := eL (AV.int .u32) r5) rfl rfl rfl (asZ (.bool r3) rfl (asZ (eL (AV.int .u32) r4) rfl (asZ (eL (AV.int .u32) r5) rfl (nZ (qZ (rZ (mvZ (eL (AV.int .u32) r1) rfl (mvZ (eL (AV.int .u32) r5) rfl ?_)))))))))))
  refine wZ rg (o_call (us := [eL (AV.int .u32) r1, eL (AV.int .u32) r5]) rfl (vl' vr (vl' vr (vn))) (natural_Mul_ctr h fun p h => (mvZ (eL (AV.int .u32) r4) rfl (mvZ (eL (AV.int .u32) r2) rfl (wZ rg (o_call (us := [eL (AV.int .u32) r4, eL (AV.int .u32) r2]) rfl (vl' vr (vl' vr (vn))) (natural_Mul_ctr h fun q h => (asZ (eL (AV.int .u32) p) rfl (asZ (eL (AV.int .u32) q) rfl (nZ (qZ (rZ ?_))))))))))))
  refine mvZ (eL (AV.int .u32) r2) rfl (mvZ (eL (AV.int .u32) r5) rfl (wZ rg (o_call (us := [eL (AV.int .u32) r2, eL (AV.int .u32) r5]) rfl (vl' vr (vl' vr (vn))) (natural_Mul_ctr h fun den h => (asZ (eL (AV.int .u32) den) rfl (nZ (qZ (qZ (rZ (mvZ (.bool r) rfl (mvZ (.bool r3) rfl (wZ rg (o_eqlB td4 rfl rfl (nZ ?_))))))))))))))
  refine Vc.cond' rfl (fun hb => ?_) (fun hb => ?_)
  · replace h := h.1 hb
    refine qZ (rZ (mvZ (.bool r) rfl (mvZ (eL (AV.int .u32) p) rfl (mvZ (eL (AV.int .u32) q) rfl (wZ rg (o_call (us := [eL (AV.int .u32) p, eL (AV.int .u32) q]) rfl (vl' vr (vl' vr (vn))) (natural_Add_ctr h fun r6 h => (mvZ (eL (AV.int .u32) den) rfl (wZ rg (o_call (us := [AV.bool r, eL (AV.int .u32) r6, eL (AV.int .u32) den]) rfl (vl' vr (vl' vr (vl' vr (vn)))) (rational_form_ctr h fun r7 h => ?_)))))))))))
    refine wZ rg (o_storeB (atL (k := 4) rfl) sz140 (by decide) rfl (w := eRat r7) rfl rfl rfl (v := eRat r7) rfl setL (nZ ?_))
    refine Vc.ret' ?_
    refine res_cellA (atL (k := 4) rfl) sz140 (by decide) ag140 rfl rfl (v := eRat r7) rfl (res_nil ?_)
    show Gives _ (eRat r7) _
    exact gives_out hrg (VW.refl _) (hQ _ h)
  replace h := h.2 hb
  refine Vc.skip' ?_
  refine qZ (qZ (rZ (mvZ (eL (AV.int .u32) p) rfl (mvZ (eL (AV.int .u32) q) rfl (wZ rg (o_call (us := [eL (AV.int .u32) p, eL (AV.int .u32) q]) rfl (vl' vr (vl' vr (vn))) (natural_Cmp_ctr h fun r8 h => (wZ rg (o_geq rfl rfl (nZ ?_))))))))))
  refine Vc.cond' rfl (fun hb1 => ?_) (fun hb1 => ?_)
  · replace h := h.1 hb1
    refine qZ (rZ (mvZ (eL (AV.int .u32) p) rfl (mvZ (eL (AV.int .u32) q) rfl (wZ rg (o_call (us := [eL (AV.int .u32) p, eL (AV.int .u32) q]) rfl (vl' vr (vl' vr (vn))) (natural_Sub_ctr h fun r9 r10 h => (mvZ (.tuple [eL (AV.int .u32) r9, eErr 73 r10]) rfl (wZ rg (o_extract (v := eL (AV.int .u32) r9) rfl rfl rfl (wZ rg (o_extract (v := eErr 73 r10) rfl rfl rfl (asZ (eL (AV.int .u32) r9) rfl ?_))))))))))))
    refine asZ (eErr 73 r10) rfl (nZ (qZ (rZ (mvZ (.bool r) rfl (mvZ (eL (AV.int .u32) r9) rfl (mvZ (eL (AV.int .u32) den) rfl (wZ rg (o_call (us := [AV.bool r, eL (AV.int .u32) r9, eL (AV.int .u32) den]) rfl (vl' vr (vl' vr (vl' vr (vn)))) (rational_form_ctr h fun r11 h => (wZ rg (o_storeB (atL (k := 4) rfl) sz140 (by decide) rfl (w := eRat r11) rfl rfl rfl (v := eRat r11) rfl setL (nZ ?_))))))))))))
    refine Vc.ret' ?_
    refine res_cellA (atL (k := 4) rfl) sz140 (by decide) ag140 rfl rfl (v := eRat r11) rfl (res_nil ?_)
    show Gives _ (eRat r11) _
    exact gives_out hrg (VW.refl _) (hQ _ h)
  replace h := h.2 hb1
  refine Vc.skip' ?_
  refine qZ (rZ (mvZ (eL (AV.int .u32) q) rfl (mvZ (eL (AV.int .u32) p) rfl (wZ rg (o_call (us := [eL (AV.int .u32) q, eL (AV.int .u32) p]) rfl (vl' vr (vl' vr (vn))) (natural_Sub_ctr h fun r12 r13 h => (mvZ (.tuple [eL (AV.int .u32) r12, eErr 73 r13]) rfl (wZ rg (o_extract (v := eL (AV.int .u32) r12) rfl rfl rfl (wZ rg (o_extract (v := eErr 73 r13) rfl rfl rfl (asZ (eL (AV.int .u32) r12) rfl ?_))))))))))))
  refine asZ (eErr 73 r13) rfl (nZ (qZ (rZ (mvZ (.bool r3) rfl (mvZ (eL (AV.int .u32) r12) rfl (mvZ (eL (AV.int .u32) den) rfl (wZ rg (o_call (us := [AV.bool r3, eL (AV.int .u32) r12, eL (AV.int .u32) den]) rfl (vl' vr (vl' vr (vl' vr (vn)))) (rational_form_ctr h fun r14 h => (wZ rg (o_storeB (atL (k := 4) rfl) sz140 (by decide) rfl (w := eRat r14) rfl rfl rfl (v := eRat r14) rfl setL (nZ ?_))))))))))))
  refine Vc.ret' ?_
  refine res_cellA (atL (k := 4) rfl) sz140 (by decide) ag140 rfl rfl (v := eRat r14) rfl (res_nil ?_)
  show Gives _ (eRat r14) _
  exact gives_out hrg (VW.refl _) (hQ _ h)
theorem rational_Neg_ctr {a : GRat} {Q : GRat → Prop} {S : St} {R : AV → St → Prop} (h : rational_Neg_W a Q) (hQ : ∀ r1, Q r1 → R (eRat r1) S) :
    Ctr Try.prog 168 [eRat a] S R := by
  unfold rational_Neg_W at h
  refine enterT Try.func168 rfl Try.ntmps168 Try.results168 (by kernel_rfl) (fun rg hrg => ?_)
  refine qZ (rZ (wZ rg (o_box (v := eRat a) rfl rfl (kk := 3) rfl (by decide) (fun g1 => (wZ rg (o_alloc zav140 ok140 (kk := 3) rfl (fun g2 => (nZ (qZ (rZ (wZ rg (o_loadBA (atL (k := 1) rfl) sz140 (by decide) ag140 rfl rfl (v := eRat a) rfl (wZ rg (o_call (us := [eRat a]) rfl (vl' vr (vn)) (rational_parts_ctr h fun r r1 r2 h => ?_)))))))))))))))
  refine mvZ (.tuple [.bool r, eL (AV.int .u32) r1, eL (AV.int .u32) r2]) rfl (wZ rg (o_extract (v := .bool r) rfl rfl rfl (wZ rg (o_extract (v := eL (AV.int .u32) r1) rfl rfl rfl (wZ rg (o_extract (v := eL (AV.int .u32) r2) rfl rfl rfl (asZ (.bool r) rfl (asZ (eL (AV.int .u32) r1) rfl (asZ (eL (AV.int .u32) r2) rfl (nZ (qZ (rZ (mvZ (.bool r) rfl (wZ rg (o_not rfl ?_)))))))))))))))
  refine mvZ (eL (AV.int .u32) r1) rfl (mvZ (eL (AV.int .u32) r2) rfl (wZ rg (o_call (us := [AV.bool (!r), eL (AV.int .u32) r1, eL (AV.int .u32) r2]) rfl (vl' vr (vl' vr (vl' vr (vn)))) (rational_form_ctr h fun r3 h => (wZ rg (o_storeB (atL (k := 2) rfl) sz140 (by decide) rfl (w := eRat r3) rfl rfl rfl (v := eRat r3) rfl setL (nZ ?_)))))))
  refine Vc.ret' ?_
  refine res_cellA (atL (k := 2) rfl) sz140 (by decide) ag140 rfl rfl (v := eRat r3) rfl (res_nil ?_)
  show Gives _ (eRat r3) _
  exact gives_out hrg (VW.refl _) (hQ _ h)
theorem rational_Sub_ctr {a : GRat} {b : GRat} {Q : GRat → Prop} {S : St} {R : AV → St → Prop} (h : rational_Sub_W a b Q) (hQ : ∀ r1, Q r1 → R (eRat r1) S) :
    Ctr Try.prog 151 [eRat a, eRat b] S R := by
  unfold rational_Sub_W at h
  refine enterT Try.func151 rfl Try.ntmps151 Try.results151 (by kernel_rfl) (fun rg hrg => ?_)
  refine qZ (rZ (wZ rg (o_box (v := eRat a) rfl rfl (kk := 3) rfl (by decide) (fun g1 => (wZ rg (o_box (v := eRat b) rfl rfl (kk := 3) rfl (by decide) (fun g2 => (wZ rg (o_alloc zav140 ok140 (kk := 3) rfl (fun g3 => (nZ (qZ ?_))))))))))))
  obtain ⟨r, hc, h⟩ := h
  obtain ⟨r1, hc1, h⟩ := h
  refine Vc.drawn' mixed rg (usOf [(2, pc (eRat r)), (3, pc (eRat r1))]) (by kernel_rfl) ?_
  refine dL (E := ([(rg, 2)], [])) rfl rfl (by simp) (cfn) (o_loadBA (atL (k := 2) rfl) sz140 (by decide) ag140 rfl rfl (v := eRat a) rfl (dL (E := ([(rg, 3)], [])) rfl rfl (by simp) (cfa (by simp [apartE]) (cfn)) (o_loadBA (atL (k := 3) rfl) sz140 (by decide) ag140 rfl rfl (v := eRat b) rfl ?_)))
  refine dC (vs := [eRat b]) rfl (vl' vr (vn)) (fun _ => rational_Neg_ctr hc (fun _ hr => ⟨by rw [hr], rfl⟩)) rfl ?_
  refine dC (vs := [eRat a, eRat r]) rfl (vl' vr (vl' vr (vn))) (fun _ => rational_Add_ctr hc1 (fun _ hr => ⟨by rw [hr], rfl⟩)) rfl ?_
  refine dL (E := ([], [(rg, 4)])) rfl rfl (by simp) (cfo (by kernel_rfl) (cfo (by kernel_rfl) (cfn))) (o_storeB (atL (k := 4) rfl) sz140 (by decide) rfl (w := eRat r1) rfl rfl rfl (v := eRat r1) rfl setL (dN ?_))
  refine Vc.ret' ?_
  refine res_cellA (atL (k := 4) rfl) sz140 (by decide) ag140 rfl rfl (v := eRat r1) rfl (res_nil ?_)
  show Gives _ (eRat r1) _
  exact gives_out hrg (VW.refl _) (hQ _ h)
theorem rational_Cmp_ctr {a : GRat} {b : GRat} {Q : Int → Prop} {S : St} {R : AV → St → Prop} (h : rational_Cmp_W a b Q) (hQ : ∀ r1, Q r1 → R (AV.int .i64 r1) S) :
    Ctr Try.prog 115 [eRat a, eRat b] S R := by
  unfold rational_Cmp_W at h
  refine enterT Try.func115 rfl Try.ntmps115 Try.results115 (by kernel_rfl) (fun rg hrg => ?_)
  refine qZ (rZ (wZ rg (o_box (v := eRat a) rfl rfl (kk := 3) rfl (by decide) (fun g1 => (wZ rg (o_box (v := eRat b) rfl rfl (kk := 3) rfl (by decide) (fun g2 => (asZ (.int .i64 0) rfl (nZ (qZ (rZ (wZ rg (o_loadBA (atL (k := 2) rfl) sz140 (by decide) ag140 rfl rfl (v := eRat a) rfl (wZ rg (o_loadBA (atL (k := 3) rfl) sz140 (by decide) ag140 rfl rfl (v := eRat b) rfl ?_)))))))))))))))
  refine wZ rg (o_call (us := [eRat a, eRat b]) rfl (vl' vr (vl' vr (vn))) (rational_Sub_ctr h fun r h => (wZ rg (o_call (us := [eRat r]) rfl (vl' vr (vn)) (rational_Sign_ctr h fun r1 h => (asZ (.int .i64 r1) rfl (nZ ?_)))))))
  refine Vc.ret' ?_
  refine res_tmp (v := .int .i64 r1) rfl (res_nil ?_)
  show Gives _ (.int .i64 r1) _
  exact gives_out hrg (VW.refl _) (hQ _ h)
end Go.Proofs.Ytiamkdpljeemkaa
/- Walks of functions. Conditions: none. -/
namespace Go.Proofs.Ytiamkdpljeemkaa
open Go.Gg
set_option maxRecDepth 100000
theorem formula_arguments_ctr {kind : Int} {n : Int} {Q : Bool → Prop} {S : St} {R : AV → St → Prop} (h : formula_arguments_W kind n Q) (hQ : ∀ r1, Q r1 → R (AV.bool r1) S) :
    Ctr Try.prog 153 [AV.int .i64 kind, AV.int .i64 n] S R := by
  unfold formula_arguments_W at h
  refine enterT Try.func153 rfl Try.ntmps153 Try.results153 (by kernel_rfl) (fun rg hrg => ?_)
  refine qZ (rZ (asZ (.bool false) rfl (nZ (qZ (qZ (rZ (mvZ (.int .i64 kind) rfl (nZ ?_))))))))
  refine Vc.blk ?_
  refine qZ (rZ (wZ rg (o_eql rfl rfl (asZ (.bool (kind == 0)) rfl (nZ ?_)))))
  refine Vc.cond' rfl (fun hb => ?_) (fun hb => ?_)
  · replace h := h.1 hb
    refine qZ (rZ (mvZ (.int .i64 n) rfl (wZ rg (o_eql rfl rfl (asZ (.bool (n == 0)) rfl (nZ ?_))))))
    refine Vc.ret' ?_
    refine res_tmp (v := .bool (n == 0)) rfl (res_nil ?_)
    show Gives _ (.bool (n == 0)) _
    exact gives_out hrg (VW.refl _) (hQ _ h)
  replace h := h.2 hb
  refine qZ (rZ (wZ rg (o_eql rfl rfl (asZ (.bool (kind == 1)) rfl (nZ ?_)))))
  refine Vc.cond' rfl (fun hb1 => ?_) (fun hb1 => ?_)
  · replace h := h.1 hb1
    refine qZ (rZ (mvZ (.int .i64 n) rfl (wZ rg (o_eql rfl rfl (asZ (.bool (n == 1)) rfl (nZ ?_))))))
    refine Vc.ret' ?_
    refine res_tmp (v := .bool (n == 1)) rfl (res_nil ?_)
    show Gives _ (.bool (n == 1)) _
    exact gives_out hrg (VW.refl _) (hQ _ h)
  replace h := h.2 hb1
  refine Vc.skip' ?_
  refine qZ (rZ (mvZ (.int .i64 n) rfl (wZ rg (o_geq rfl rfl (mvZ (.bool (decide (1 ≤ n))) rfl ?_)))))
  refine Wl.guard rfl rfl (fun hb2 => ?_) (fun hb2 => ?_)
  · replace h := h.1 hb2
    refine mvZ (.int .i64 n) rfl ?_
    refine Wl.guardT rfl rfl hb2 ?_
    refine wZ rg (o_leq rfl rfl (wZ rg (o_pickT rfl hb2 (v := .bool (decide (n ≤ 16))) rfl (asZ (.bool (decide (n ≤ 16))) rfl (nZ ?_)))))
    refine Vc.ret' ?_
    refine res_tmp (v := .bool (decide (n ≤ 16))) rfl (res_nil ?_)
    show Gives _ (.bool (decide (n ≤ 16))) _
    exact gives_out hrg (VW.refl _) (hQ _ h)
  replace h := h.2 hb2
  refine Wl.guardF rfl rfl hb2 rfl ?_
  refine wZ rg (o_pickF rfl hb2 (v := .bool false) rfl (asZ (.bool false) rfl (nZ ?_)))
  refine Vc.ret' ?_
  refine res_tmp (v := .bool false) rfl (res_nil ?_)
  show Gives _ (.bool false) _
  exact gives_out hrg (VW.refl _) (hQ _ h)
theorem formula_checkNode_ctr {f : GFormula} {i : Int} {Q : Option Int → Prop} {S : St} {R : AV → St → Prop} (h : formula_checkNode_W f i Q) (hQ : ∀ r1, Q r1 → R (eErr 73 r1) S) :
    Ctr Try.prog 127 [eFormula f, AV.int .i64 i] S R := by
  unfold formula_checkNode_W at h
  refine enterT Try.func127 rfl Try.ntmps127 Try.results127 (by kernel_rfl) (fun rg hrg => ?_)
  refine qZ (rZ (wZ rg (o_box (v := eFormula f) rfl rfl (kk := 3) rfl (by decide) (fun g1 => (asZ .niface rfl (nZ (qZ (rZ (wZ rg (o_faP td24 rfl rfl (by rw [sz22]; decide) rfl (wZ rg (o_loadB1 (atL (k := 2) rfl) sz22 ag22 rfl rfl (v := eL eNode f.Nodes) rfl (mvZ (.int .i64 i) rfl (wZ rg (o_idxL td22 sz105 (by decide) (fun _ => rfl) rfl rfl h.1 ?_)))))))))))))))
  replace h := h.2
  refine wZ rg (o_loadIA sz105 (by decide) ag105 rfl rfl (v := eNode (at' f.Nodes i)) rfl (wZ rg (o_alloc zav105 ok105 (kk := 3) rfl (fun g2 => (wZ rg (o_storeB (atL (k := 5) rfl) sz105 (by decide) rfl (w := eNode (at' f.Nodes i)) rfl rfl rfl (v := eNode (at' f.Nodes i)) rfl setL (nZ (qZ ?_))))))))
  obtain ⟨J, h, hJ⟩ := h
  refine Vc.join' (σ := ((Bool) × (Nat × Nat))) (fun y => J y.1) (fun y => envOf [(1, .int .i64 i), (2, .ptr rg 2 y.2.1 0 0), (5, .ptr rg 5 y.2.2 0 0), (20, .bool y.1)]) (fun y => stL S rg [(2, .arr 3 [eFormula f], y.2.1), (5, .arr 3 [eNode (at' f.Nodes i)], y.2.2)]) (fun y h => ?_) ?_
  · obtain ⟨x, ⟨g3, g4⟩⟩ := y
    replace h := hJ x h
    show Vc _ _ _ _ (envOf [(1, .int .i64 i), (2, .ptr rg 2 g3 0 0), (5, .ptr rg 5 g4 0 0), (20, .bool x)]) (stL S rg [(2, .arr 3 [eFormula f], g3), (5, .arr 3 [eNode (at' f.Nodes i)], g4)])
    refine Vc.cond' rfl (fun hb => ?_) (fun hb => ?_)
    · replace h := h.1 hb
      refine qZ (rZ (wZ rg (o_iface (by rw [td73]; trivial) (v := .int .i64 7) rfl (asZ (.iface 73 (.int .i64 7)) rfl (nZ ?_)))))
      refine Vc.ret' ?_
      refine res_tmp (v := .iface 73 (.int .i64 7)) rfl (res_nil ?_)
      show Gives _ (.iface 73 (.int .i64 7)) _
      exact gives_out hrg (VW.refl _) (hQ _ h)
    replace h := h.2 hb
    refine Vc.skip' ?_
    refine qZ (qZ (rZ (wZ rg (o_faP td105 rfl rfl (by rw [sz3]; decide) rfl (wZ rg (o_loadB1 (atL (k := 5) rfl) sz3 ag3 rfl rfl (v := .int .i64 ((at' f.Nodes i).Kind)) rfl (wZ rg (o_faP td105 rfl rfl (by rw [sz25]; decide) rfl (wZ rg (o_loadB1 (atL (k := 5) rfl) sz25 ag25 rfl rfl (v := eL (AV.int .i64) ((at' f.Nodes i).Args)) rfl (wZ rg (o_len td25 rfl ?_))))))))))))
    refine wZ rg (o_call (us := [AV.int .i64 ((at' f.Nodes i).Kind), AV.int .i64 (((at' f.Nodes i).Args).length : Int)]) rfl (vl' vr (vl' vr (vn))) (formula_arguments_ctr h fun r h => (wZ rg (o_not rfl (nZ ?_)))))
    refine Vc.cond' rfl (fun hb1 => ?_) (fun hb1 => ?_)
    · replace h := h.1 hb1
      refine qZ (rZ (wZ rg (o_iface (by rw [td73]; trivial) (v := .int .i64 11) rfl (asZ (.iface 73 (.int .i64 11)) rfl (nZ ?_)))))
      refine Vc.ret' ?_
      refine res_tmp (v := .iface 73 (.int .i64 11)) rfl (res_nil ?_)
      show Gives _ (.iface 73 (.int .i64 11)) _
      exact gives_out hrg (VW.refl _) (hQ _ h)
    replace h := h.2 hb1
    refine Vc.skip' ?_
    refine qZ (qZ (rZ (wZ rg (o_faP td105 rfl rfl (by rw [sz25]; decide) rfl (wZ rg (o_loadB1 (atL (k := 5) rfl) sz25 ag25 rfl rfl (v := eL (AV.int .i64) ((at' f.Nodes i).Args)) rfl (wZ rg (o_len td25 rfl (mvZ (.int .i64 0) rfl (nZ ?_))))))))))
    refine Vc.blk ?_
    obtain ⟨I, μ, h0, hI⟩ := h
    refine Vc.loop' (σ := ((Int) × (Nat × Nat))) (fun y => I y.1) (fun y => μ y.1) (fun y => envOf [(1, .int .i64 i), (2, .ptr rg 2 y.2.1 0 0), (5, .ptr rg 5 y.2.2 0 0), (31, eL (AV.int .i64) ((at' f.Nodes i).Args)), (32, .int .i64 (((at' f.Nodes i).Args).length : Int)), (33, .int .i64 y.1)]) (fun y => stL S rg [(2, .arr 3 [eFormula f], y.2.1), (5, .arr 3 [eNode (at' f.Nodes i)], y.2.2)]) (0, (g3, g4)) (canon (fc vr (fc vr (fc vr (fc vr (fc vr (fc vr (fn))))))) (sc rfl (sc rfl (sn)))) h0 (fun y h => ?_)
    obtain ⟨x1, ⟨g5, g6⟩⟩ := y
    replace h := hI x1 h
    show Vc _ _ _ _ (envOf [(1, .int .i64 i), (2, .ptr rg 2 g5 0 0), (5, .ptr rg 5 g6 0 0), (31, eL (AV.int .i64) ((at' f.Nodes i).Args)), (32, .int .i64 (((at' f.Nodes i).Args).length : Int)), (33, .int .i64 x1)]) (stL S rg [(2, .arr 3 [eFormula f], g5), (5, .arr 3 [eNode (at' f.Nodes i)], g6)])
    refine qZ (rZ (wZ rg (o_lss rfl rfl (nZ (qZ ?_)))))
    refine Vc.cond' rfl (fun hb2 => ?_) (fun hb2 => ?_)
    · replace h := h.1 hb2
      refine Vc.skip' ?_
      refine qZ ?_
      refine Vc.blk ?_
      refine qZ (rZ (wZ rg (o_idxL td25 sz3 (by decide) (fun _ => rfl) rfl rfl h.1 ?_)))
      replace h := h.2
      refine wZ rg (o_loadI1 sz3 ag3 rfl rfl (v := .int .i64 (at' ((at' f.Nodes i).Args) x1)) rfl (asZ (.int .i64 (at' ((at' f.Nodes i).Args) x1)) rfl (nZ ?_)))
      obtain ⟨J, h, hJ⟩ := h
      refine Vc.join' (σ := ((Bool) × (Nat × Nat))) (fun y => J y.1) (fun y => envOf [(1, .int .i64 i), (2, .ptr rg 2 y.2.1 0 0), (5, .ptr rg 5 y.2.2 0 0), (31, eL (AV.int .i64) ((at' f.Nodes i).Args)), (32, .int .i64 (((at' f.Nodes i).Args).length : Int)), (33, .int .i64 x1), (46, .bool y.1)]) (fun y => stL S rg [(2, .arr 3 [eFormula f], y.2.1), (5, .arr 3 [eNode (at' f.Nodes i)], y.2.2)]) (fun y h => ?_) ?_
      · obtain ⟨x2, ⟨g7, g8⟩⟩ := y
        replace h := hJ x2 h
        show Vc _ _ _ _ (envOf [(1, .int .i64 i), (2, .ptr rg 2 g7 0 0), (5, .ptr rg 5 g8 0 0), (31, eL (AV.int .i64) ((at' f.Nodes i).Args)), (32, .int .i64 (((at' f.Nodes i).Args).length : Int)), (33, .int .i64 x1), (46, .bool x2)]) (stL S rg [(2, .arr 3 [eFormula f], g7), (5, .arr 3 [eNode (at' f.Nodes i)], g8)])
        refine Vc.cond' rfl (fun hb3 => ?_) (fun hb3 => ?_)
        · replace h := h.1 hb3
          refine qZ (rZ (wZ rg (o_iface (by rw [td73]; trivial) (v := .int .i64 10) rfl (asZ (.iface 73 (.int .i64 10)) rfl (nZ ?_)))))
          refine Vc.ret' ?_
          refine res_tmp (v := .iface 73 (.int .i64 10)) rfl (res_nil ?_)
          show Gives _ (.iface 73 (.int .i64 10)) _
          exact gives_out hrg (VW.refl _) (hQ _ h)
        replace h := h.2 hb3
        refine Vc.skip' ?_
        refine rZ ?_
        refine wZ rg (o_addG rfl rfl h.1 ?_)
        replace h := h.2
        refine mvZ (.int .i64 (x1 + 1)) rfl (nZ ?_)
        exact ⟨((x1 + 1), (g7, g8)), (canon (fc vr (fc vr (fc vr (fc vr (fc vr (fc vr (fn))))))) (sc rfl (sc rfl (sn)))), h⟩
      refine rZ ?_
      refine mvZ (.int .i64 (at' ((at' f.Nodes i).Args) x1)) rfl (wZ rg (o_lss rfl rfl (mvZ (.bool (decide ((at' ((at' f.Nodes i).Args) x1) < 0))) rfl ?_)))
      refine Wl.guard rfl rfl (fun hb4 => ?_) (fun hb4 => ?_)
      · replace h := h.2 hb4
        refine mvZ (.int .i64 (at' ((at' f.Nodes i).Args) x1)) rfl ?_
        refine Wl.guardT rfl rfl hb4 ?_
        refine wZ rg (o_faP td24 rfl rfl (by rw [sz3]; decide) rfl ?_)
        refine Wl.guardT rfl rfl hb4 ?_
        refine wZ rg (o_loadB1 (atL (k := 2) rfl) sz3 ag3 rfl rfl (v := .int .i64 f.Vars) rfl ?_)
        refine Wl.guardT rfl rfl hb4 ?_
        refine mvZ (.int .i64 i) rfl ?_
        refine Wl.guardT rfl rfl hb4 ?_
        refine wZ rg (o_addG rfl rfl h.1 ?_)
        replace h := h.2
        refine Wl.guardT rfl rfl hb4 ?_
        refine wZ rg (o_geq rfl rfl (wZ rg (o_pickF rfl hb4 (v := .bool (decide ((f.Vars + i) ≤ (at' ((at' f.Nodes i).Args) x1)))) rfl (nZ ?_))))
        exact ⟨((decide ((f.Vars + i) ≤ (at' ((at' f.Nodes i).Args) x1))), (g5, g6)), (canon (fc vr (fc vr (fc vr (fc vr (fc vr (fc vr (fc vr (fn)))))))) (sc rfl (sc rfl (sn)))), h⟩
      replace h := h.1 hb4
      refine Wl.guardF rfl rfl hb4 rfl ?_
      refine Wl.guardF rfl rfl hb4 rfl ?_
      refine Wl.guardF rfl rfl hb4 rfl ?_
      refine Wl.guardF rfl rfl hb4 rfl ?_
      refine Wl.guardF rfl rfl hb4 rfl ?_
      refine wZ rg (o_pickT rfl hb4 (v := .bool true) rfl (nZ ?_))
      exact ⟨(true, (g5, g6)), (canon (fc vr (fc vr (fc vr (fc vr (fc vr (fc vr (fc vr (fn)))))))) (sc rfl (sc rfl (sn)))), h⟩
    replace h := h.2 hb2
    refine Vc.exit' (exB_self ?_)
    refine qZ (qZ (rZ (wZ rg (o_faP td105 rfl rfl (by rw [sz3]; decide) rfl (wZ rg (o_loadB1 (atL (k := 5) rfl) sz3 ag3 rfl rfl (v := .int .i64 ((at' f.Nodes i).Kind)) rfl (nZ ?_)))))))
    refine Vc.blk ?_
    refine qZ (rZ (wZ rg (o_eql rfl rfl (asZ (.bool ((at' f.Nodes i).Kind == 0)) rfl (nZ ?_)))))
    refine Vc.cond' rfl (fun hb5 => ?_) (fun hb5 => ?_)
    · replace h := h.1 hb5
      obtain ⟨J, h, hJ⟩ := h
      refine Vc.join' (σ := (Bool)) (fun y => J y) (fun y => envOf [(64, .bool y)]) (fun y => stL S rg []) (fun x3 h => ?_) ?_
      · replace h := hJ x3 h
        show Vc _ _ _ _ (envOf [(64, .bool x3)]) (stL S rg [])
        refine Vc.cond' rfl (fun hb6 => ?_) (fun hb6 => ?_)
        · replace h := h.1 hb6
          refine qZ (rZ (wZ rg (o_iface (by rw [td73]; trivial) (v := .int .i64 3) rfl (asZ (.iface 73 (.int .i64 3)) rfl (nZ ?_)))))
          refine Vc.ret' ?_
          refine res_tmp (v := .iface 73 (.int .i64 3)) rfl (res_nil ?_)
          show Gives _ (.iface 73 (.int .i64 3)) _
          exact gives_out hrg (VW.refl _) (hQ _ h)
        replace h := h.2 hb6
        refine Vc.skip' ?_
        refine qZ (rZ (asZ .niface rfl (nZ ?_)))
        refine Vc.ret' ?_
        refine res_tmp (v := .niface) rfl (res_nil ?_)
        show Gives _ .niface _
        exact gives_out hrg (VW.refl _) (hQ _ h)
      refine rZ ?_
      refine wZ rg (o_faP td105 rfl rfl (by rw [sz3]; decide) rfl (wZ rg (o_loadB1 (atL (k := 5) rfl) sz3 ag3 rfl rfl (v := .int .i64 ((at' f.Nodes i).K)) rfl (wZ rg (o_neq rfl rfl (mvZ (.bool ((at' f.Nodes i).K != 0)) rfl ?_))))))
      refine Wl.guard rfl rfl (fun hb7 => ?_) (fun hb7 => ?_)
      · replace h := h.1 hb7
        refine wZ rg (o_faP td105 rfl rfl (by rw [sz3]; decide) rfl ?_)
        refine Wl.guardT rfl rfl hb7 ?_
        refine wZ rg (o_loadB1 (atL (k := 5) rfl) sz3 ag3 rfl rfl (v := .int .i64 ((at' f.Nodes i).K)) rfl ?_)
        refine Wl.guardT rfl rfl hb7 ?_
        refine wZ rg (o_neq rfl rfl (wZ rg (o_pickT rfl hb7 (v := .bool ((at' f.Nodes i).K != 1)) rfl (nZ ?_))))
        exact ⟨((at' f.Nodes i).K != 1), (canon (fc vr (fn)) (sn)), h⟩
      replace h := h.2 hb7
      refine Wl.guardF rfl rfl hb7 rfl ?_
      refine Wl.guardF rfl rfl hb7 rfl ?_
      refine wZ rg (o_pickF rfl hb7 (v := .bool false) rfl (nZ ?_))
      exact ⟨false, (canon (fc vr (fn)) (sn)), h⟩
    replace h := h.2 hb5
    refine qZ (rZ (wZ rg (o_eql rfl rfl (asZ (.bool ((at' f.Nodes i).Kind == 4)) rfl (nZ ?_)))))
    refine Vc.cond' rfl (fun hb8 => ?_) (fun hb8 => ?_)
    · replace h := h.1 hb8
      obtain ⟨J, h, hJ⟩ := h
      refine Vc.join' (σ := (Bool)) (fun y => J y) (fun y => envOf [(78, .bool y)]) (fun y => stL S rg []) (fun x4 h => ?_) ?_
      · replace h := hJ x4 h
        show Vc _ _ _ _ (envOf [(78, .bool x4)]) (stL S rg [])
        refine Vc.cond' rfl (fun hb9 => ?_) (fun hb9 => ?_)
        · replace h := h.1 hb9
          refine qZ (rZ (wZ rg (o_iface (by rw [td73]; trivial) (v := .int .i64 3) rfl (asZ (.iface 73 (.int .i64 3)) rfl (nZ ?_)))))
          refine Vc.ret' ?_
          refine res_tmp (v := .iface 73 (.int .i64 3)) rfl (res_nil ?_)
          show Gives _ (.iface 73 (.int .i64 3)) _
          exact gives_out hrg (VW.refl _) (hQ _ h)
        replace h := h.2 hb9
        refine Vc.skip' ?_
        refine qZ (rZ (asZ .niface rfl (nZ ?_)))
        refine Vc.ret' ?_
        refine res_tmp (v := .niface) rfl (res_nil ?_)
        show Gives _ .niface _
        exact gives_out hrg (VW.refl _) (hQ _ h)
      refine rZ ?_
      refine wZ rg (o_faP td105 rfl rfl (by rw [sz3]; decide) rfl (wZ rg (o_loadB1 (atL (k := 5) rfl) sz3 ag3 rfl rfl (v := .int .i64 ((at' f.Nodes i).K)) rfl (wZ rg (o_lss rfl rfl (mvZ (.bool (decide ((at' f.Nodes i).K < 1))) rfl ?_))))))
      refine Wl.guard rfl rfl (fun hb10 => ?_) (fun hb10 => ?_)
      · replace h := h.2 hb10
        refine wZ rg (o_faP td105 rfl rfl (by rw [sz3]; decide) rfl ?_)
        refine Wl.guardT rfl rfl hb10 ?_
        refine wZ rg (o_loadB1 (atL (k := 5) rfl) sz3 ag3 rfl rfl (v := .int .i64 ((at' f.Nodes i).K)) rfl ?_)
        refine Wl.guardT rfl rfl hb10 ?_
        refine wZ rg (o_faP td105 rfl rfl (by rw [sz25]; decide) rfl ?_)
        refine Wl.guardT rfl rfl hb10 ?_
        refine wZ rg (o_loadB1 (atL (k := 5) rfl) sz25 ag25 rfl rfl (v := eL (AV.int .i64) ((at' f.Nodes i).Args)) rfl ?_)
        refine Wl.guardT rfl rfl hb10 ?_
        refine wZ rg (o_len td25 rfl ?_)
        refine Wl.guardT rfl rfl hb10 ?_
        refine wZ rg (o_gtr rfl rfl (wZ rg (o_pickF rfl hb10 (v := .bool (decide ((((at' f.Nodes i).Args).length : Int) < (at' f.Nodes i).K))) rfl (nZ ?_))))
        exact ⟨(decide ((((at' f.Nodes i).Args).length : Int) < (at' f.Nodes i).K)), (canon (fc vr (fn)) (sn)), h⟩
      replace h := h.1 hb10
      refine Wl.guardF rfl rfl hb10 rfl ?_
      refine Wl.guardF rfl rfl hb10 rfl ?_
      refine Wl.guardF rfl rfl hb10 rfl ?_
      refine Wl.guardF rfl rfl hb10 rfl ?_
      refine Wl.guardF rfl rfl hb10 rfl ?_
      refine wZ rg (o_pickT rfl hb10 (v := .bool true) rfl (nZ ?_))
      exact ⟨true, (canon (fc vr (fn)) (sn)), h⟩
    replace h := h.2 hb8
    refine qZ (rZ (wZ rg (o_faP td105 rfl rfl (by rw [sz3]; decide) rfl (wZ rg (o_loadB1 (atL (k := 5) rfl) sz3 ag3 rfl rfl (v := .int .i64 ((at' f.Nodes i).K)) rfl (wZ rg (o_neq rfl rfl (nZ ?_))))))))
    refine Vc.cond' rfl (fun hb11 => ?_) (fun hb11 => ?_)
    · replace h := h.1 hb11
      refine qZ (rZ (wZ rg (o_iface (by rw [td73]; trivial) (v := .int .i64 2) rfl (asZ (.iface 73 (.int .i64 2)) rfl (nZ ?_)))))
      refine Vc.ret' ?_
      refine res_tmp (v := .iface 73 (.int .i64 2)) rfl (res_nil ?_)
      show Gives _ (.iface 73 (.int .i64 2)) _
      exact gives_out hrg (VW.refl _) (hQ _ h)
    replace h := h.2 hb11
    refine Vc.skip' ?_
    refine qZ (rZ (asZ .niface rfl (nZ ?_)))
    refine Vc.ret' ?_
    refine res_tmp (v := .niface) rfl (res_nil ?_)
    show Gives _ .niface _
    exact gives_out hrg (VW.refl _) (hQ _ h)
  refine rZ ?_
  refine wZ rg (o_faP td105 rfl rfl (by rw [sz3]; decide) rfl (wZ rg (o_loadB1 (atL (k := 5) rfl) sz3 ag3 rfl rfl (v := .int .i64 ((at' f.Nodes i).Kind)) rfl (wZ rg (o_lss rfl rfl (mvZ (.bool (decide ((at' f.Nodes i).Kind < 0))) rfl ?_))))))
  refine Wl.guard rfl rfl (fun hb12 => ?_) (fun hb12 => ?_)
  · replace h := h.2 hb12
    refine wZ rg (o_faP td105 rfl rfl (by rw [sz3]; decide) rfl ?_)
    refine Wl.guardT rfl rfl hb12 ?_
    refine wZ rg (o_loadB1 (atL (k := 5) rfl) sz3 ag3 rfl rfl (v := .int .i64 ((at' f.Nodes i).Kind)) rfl ?_)
    refine Wl.guardT rfl rfl hb12 ?_
    refine wZ rg (o_gtr rfl rfl (wZ rg (o_pickF rfl hb12 (v := .bool (decide (5 < (at' f.Nodes i).Kind))) rfl (nZ ?_))))
    exact ⟨((decide (5 < (at' f.Nodes i).Kind)), (g1, g2)), (canon (fc vr (fc vr (fc vr (fc vr (fn))))) (sc rfl (sc rfl (sn)))), h⟩
  replace h := h.1 hb12
  refine Wl.guardF rfl rfl hb12 rfl ?_
  refine Wl.guardF rfl rfl hb12 rfl ?_
  refine wZ rg (o_pickT rfl hb12 (v := .bool true) rfl (nZ ?_))
  exact ⟨(true, (g1, g2)), (canon (fc vr (fc vr (fc vr (fc vr (fn))))) (sc rfl (sc rfl (sn)))), h⟩
theorem formula_Valid_ctr {f : GFormula} {arg : Int} {Q : Bool → Prop} {S : St} {R : AV → St → Prop} (h : formula_Valid_W f arg Q) (hQ : ∀ r1, Q r1 → R (AV.bool r1) S) :
    Ctr Try.prog 128 [eFormula f, AV.int .i64 arg] S R := by
  unfold formula_Valid_W at h
  refine enterT Try.func128 rfl Try.ntmps128 Try.results128 (by kernel_rfl) (fun rg hrg => ?_)
  refine qZ (rZ (wZ rg (o_box (v := eFormula f) rfl rfl (kk := 3) rfl (by decide) (fun g1 => (asZ (.bool false) rfl (nZ (qZ (rZ (wZ rg (o_faP td24 rfl rfl (by rw [sz3]; decide) rfl (wZ rg (o_loadB1 (atL (k := 2) rfl) sz3 ag3 rfl rfl (v := .int .i64 f.Vars) rfl (wZ rg (o_geq rfl rfl (mvZ (.bool (decide (0 ≤ f.Vars))) rfl ?_)))))))))))))))
  refine Wl.guard rfl rfl (fun hb => ?_) (fun hb => ?_)
  · replace h := h.1 hb
    refine mvZ (.int .i64 arg) rfl ?_
    refine Wl.guardT rfl rfl hb ?_
    refine wZ rg (o_geq rfl rfl (wZ rg (o_pickT rfl hb (v := .bool (decide (0 ≤ arg))) rfl (mvZ (.bool (decide (0 ≤ arg))) rfl ?_))))
    refine Wl.guard rfl rfl (fun hb1 => ?_) (fun hb1 => ?_)
    · replace h := h.1 hb1
      refine mvZ (.int .i64 arg) rfl ?_
      refine Wl.guardT rfl rfl hb1 ?_
      refine wZ rg (o_faP td24 rfl rfl (by rw [sz3]; decide) rfl ?_)
      refine Wl.guardT rfl rfl hb1 ?_
      refine wZ rg (o_loadB1 (atL (k := 2) rfl) sz3 ag3 rfl rfl (v := .int .i64 f.Vars) rfl ?_)
      refine Wl.guardT rfl rfl hb1 ?_
      refine wZ rg (o_lss rfl rfl ?_)
      refine Wl.guardT rfl rfl hb1 ?_
      refine mvZ (.bool (decide (arg < f.Vars))) rfl ?_
      refine Wl.guard rfl rfl (fun hb2 => ?_) (fun hb2 => ?_)
      · replace h := h.2 hb2
        refine mvZ (.int .i64 arg) rfl ?_
        refine Wl.guardT rfl rfl hb2 ?_
        refine wZ rg (o_faP td24 rfl rfl (by rw [sz3]; decide) rfl ?_)
        refine Wl.guardT rfl rfl hb2 ?_
        refine wZ rg (o_loadB1 (atL (k := 2) rfl) sz3 ag3 rfl rfl (v := .int .i64 f.Vars) rfl ?_)
        refine Wl.guardT rfl rfl hb2 ?_
        refine wZ rg (o_subG rfl rfl h.1 ?_)
        replace h := h.2
        refine Wl.guardT rfl rfl hb2 ?_
        refine wZ rg (o_faP td24 rfl rfl (by rw [sz22]; decide) rfl ?_)
        refine Wl.guardT rfl rfl hb2 ?_
        refine wZ rg (o_loadB1 (atL (k := 2) rfl) sz22 ag22 rfl rfl (v := eL eNode f.Nodes) rfl ?_)
        refine Wl.guardT rfl rfl hb2 ?_
        refine wZ rg (o_len td22 rfl ?_)
        refine Wl.guardT rfl rfl hb2 ?_
        refine wZ rg (o_lss rfl rfl ?_)
        refine Wl.guardT rfl rfl hb1 ?_
        refine wZ rg (o_pickF rfl hb2 (v := .bool (decide ((arg - f.Vars) < (f.Nodes.length : Int)))) rfl (wZ rg (o_pickT rfl hb1 (v := .bool (decide ((arg - f.Vars) < (f.Nodes.length : Int)))) rfl (asZ (.bool (decide ((arg - f.Vars) < (f.Nodes.length : Int)))) rfl (nZ ?_)))))
        refine Vc.ret' ?_
        refine res_tmp (v := .bool (decide ((arg - f.Vars) < (f.Nodes.length : Int)))) rfl (res_nil ?_)
        show Gives _ (.bool (decide ((arg - f.Vars) < (f.Nodes.length : Int)))) _
        exact gives_out hrg (VW.refl _) (hQ _ h)
      replace h := h.1 hb2
      refine Wl.guardF rfl rfl hb2 rfl ?_
      refine Wl.guardF rfl rfl hb2 rfl ?_
      refine Wl.guardF rfl rfl hb2 rfl ?_
      refine Wl.guardF rfl rfl hb2 rfl ?_
      refine Wl.guardF rfl rfl hb2 rfl ?_
      refine Wl.guardF rfl rfl hb2 rfl ?_
      refine Wl.guardF rfl rfl hb2 rfl ?_
      refine Wl.guardT rfl rfl hb1 ?_
      refine wZ rg (o_pickT rfl hb2 (v := .bool true) rfl (wZ rg (o_pickT rfl hb1 (v := .bool true) rfl (asZ (.bool true) rfl (nZ ?_)))))
      refine Vc.ret' ?_
      refine res_tmp (v := .bool true) rfl (res_nil ?_)
      show Gives _ (.bool true) _
      exact gives_out hrg (VW.refl _) (hQ _ h)
    replace h := h.2 hb1
    refine Wl.guardF rfl rfl hb1 rfl ?_
    refine Wl.guardF rfl rfl hb1 rfl ?_
    refine Wl.guardF rfl rfl hb1 rfl ?_
    refine Wl.guardF rfl rfl hb1 rfl ?_
    refine Wl.guardU rfl rfl ?_
    refine Wl.guardU rfl rfl ?_
    refine Wl.guardU rfl rfl ?_
    refine Wl.guardU rfl rfl ?_
    refine Wl.guardU rfl rfl ?_
    refine Wl.guardU rfl rfl ?_
    refine Wl.guardU rfl rfl ?_
    refine Wl.guardU rfl rfl ?_
    refine Wl.guardF rfl rfl hb1 rfl ?_
    refine wZ rg (o_pickF rfl hb1 (v := .bool false) rfl (asZ (.bool false) rfl (nZ ?_)))
    refine Vc.ret' ?_
    refine res_tmp (v := .bool false) rfl (res_nil ?_)
    show Gives _ (.bool false) _
    exact gives_out hrg (VW.refl _) (hQ _ h)
  replace h := h.2 hb
  refine Wl.guardF rfl rfl hb rfl ?_
  refine wZ rg (o_pickF rfl hb (v := .bool false) rfl (mvZ (.bool false) rfl ?_))
  refine Wl.guardF rfl rfl rfl rfl ?_
  refine Wl.guardF rfl rfl rfl rfl ?_
  refine Wl.guardF rfl rfl rfl rfl ?_
  refine Wl.guardF rfl rfl rfl rfl ?_
  refine Wl.guardF rfl rfl rfl rfl ?_
  refine Wl.guardU rfl rfl ?_
  refine Wl.guardU rfl rfl ?_
  refine Wl.guardU rfl rfl ?_
  refine Wl.guardU rfl rfl ?_
  refine Wl.guardU rfl rfl ?_
  refine Wl.guardU rfl rfl ?_
  refine Wl.guardU rfl rfl ?_
  refine Wl.guardU rfl rfl ?_
  refine Wl.guardF rfl rfl rfl rfl ?_
  refine wZ rg (o_pickF rfl rfl (v := .bool false) rfl (asZ (.bool false) rfl (nZ ?_)))
  refine Vc.ret' ?_
  refine res_tmp (v := .bool false) rfl (res_nil ?_)
  show Gives _ (.bool false) _
  exact gives_out hrg (VW.refl _) (hQ _ h)
theorem formula_Check_ctr {f : GFormula} {Q : Option Int → Prop} {S : St} {R : AV → St → Prop} (h : formula_Check_W f Q) (hQ : ∀ r1, Q r1 → R (eErr 73 r1) S) :
    Ctr Try.prog 83 [eFormula f] S R := by
  unfold formula_Check_W at h
  refine enterT Try.func83 rfl Try.ntmps83 Try.results83 (by kernel_rfl) (fun rg hrg => ?_)
  refine qZ (rZ (wZ rg (o_box (v := eFormula f) rfl rfl (kk := 3) rfl (by decide) (fun g1 => (asZ .niface rfl (nZ (qZ ?_)))))))
  obtain ⟨J, h, hJ⟩ := h
  refine Vc.join' (σ := ((Bool) × (Nat))) (fun y => J y.1) (fun y => envOf [(1, .ptr rg 1 y.2 0 0), (12, .bool y.1)]) (fun y => stL S rg [(1, .arr 3 [eFormula f], y.2)]) (fun y h => ?_) ?_
  · obtain ⟨x, g2⟩ := y
    replace h := hJ x h
    show Vc _ _ _ _ (envOf [(1, .ptr rg 1 g2 0 0), (12, .bool x)]) (stL S rg [(1, .arr 3 [eFormula f], g2)])
    refine Vc.cond' rfl (fun hb => ?_) (fun hb => ?_)
    · replace h := h.1 hb
      refine qZ (rZ (wZ rg (o_iface (by rw [td73]; trivial) (v := .int .i64 3) rfl (asZ (.iface 73 (.int .i64 3)) rfl (nZ ?_)))))
      refine Vc.ret' ?_
      refine res_tmp (v := .iface 73 (.int .i64 3)) rfl (res_nil ?_)
      show Gives _ (.iface 73 (.int .i64 3)) _
      exact gives_out hrg (VW.refl _) (hQ _ h)
    replace h := h.2 hb
    refine Vc.skip' ?_
    refine qZ (qZ (rZ (wZ rg (o_faP td24 rfl rfl (by rw [sz22]; decide) rfl (wZ rg (o_loadB1 (atL (k := 1) rfl) sz22 ag22 rfl rfl (v := eL eNode f.Nodes) rfl (wZ rg (o_len td22 rfl (wZ rg (o_gtr rfl rfl (nZ ?_)))))))))))
    refine Vc.cond' rfl (fun hb1 => ?_) (fun hb1 => ?_)
    · replace h := h.1 hb1
      refine qZ (rZ (wZ rg (o_iface (by rw [td73]; trivial) (v := .int .i64 4) rfl (asZ (.iface 73 (.int .i64 4)) rfl (nZ ?_)))))
      refine Vc.ret' ?_
      refine res_tmp (v := .iface 73 (.int .i64 4)) rfl (res_nil ?_)
      show Gives _ (.iface 73 (.int .i64 4)) _
      exact gives_out hrg (VW.refl _) (hQ _ h)
    replace h := h.2 hb1
    refine Vc.skip' ?_
    refine qZ (qZ (rZ (wZ rg (o_faP td24 rfl rfl (by rw [sz22]; decide) rfl (wZ rg (o_loadB1 (atL (k := 1) rfl) sz22 ag22 rfl rfl (v := eL eNode f.Nodes) rfl (wZ rg (o_len td22 rfl (mvZ (.int .i64 0) rfl (nZ ?_))))))))))
    refine Vc.blk ?_
    obtain ⟨I, μ, h0, hI⟩ := h
    refine Vc.loop' (σ := (Int)) (fun y => I y) (fun y => μ y) (fun y => envOf [(1, .ptr rg 1 g2 0 0), (21, .int .i64 (f.Nodes.length : Int)), (22, .int .i64 y)]) (fun y => stL S rg [(1, .arr 3 [eFormula f], g2)]) 0 (canon (fc vr (fc vr (fc vr (fn)))) (sc rfl (sn))) h0 (fun x1 h => ?_)
    replace h := hI x1 h
    show Vc _ _ _ _ (envOf [(1, .ptr rg 1 g2 0 0), (21, .int .i64 (f.Nodes.length : Int)), (22, .int .i64 x1)]) (stL S rg [(1, .arr 3 [eFormula f], g2)])
    refine qZ (rZ (wZ rg (o_lss rfl rfl (nZ (qZ ?_)))))
    refine Vc.cond' rfl (fun hb2 => ?_) (fun hb2 => ?_)
    · replace h := h.1 hb2
      refine Vc.skip' ?_
      refine qZ ?_
      refine Vc.blk ?_
      refine qZ (rZ (mvZ (.int .i64 x1) rfl (asZ (.int .i64 x1) rfl (nZ (qZ (rZ (wZ rg (o_loadBA (atL (k := 1) rfl) sz24 (by decide) ag24 rfl rfl (v := eFormula f) rfl (mvZ (.int .i64 x1) rfl (wZ rg (o_call (us := [eFormula f, AV.int .i64 x1]) rfl (vl' vr (vl' vr (vn))) (formula_checkNode_ctr h fun e h => (asZ (eErr 73 e) rfl (nZ (qZ (rZ (mvZ (eErr 73 e) rfl ?_)))))))))))))))))
      refine wZ rg (o_isnon td32 (E := 73) rfl rfl rfl (nZ ?_))
      refine Vc.cond' rfl (fun hb3 => ?_) (fun hb3 => ?_)
      · replace h := h.1 hb3
        refine qZ (rZ (mvZ (eErr 73 e) rfl (asZ (eErr 73 e) rfl (nZ ?_))))
        refine Vc.ret' ?_
        refine res_tmp (v := eErr 73 e) rfl (res_nil ?_)
        show Gives _ (eErr 73 e) _
        exact gives_out hrg (VW.refl _) (hQ _ h)
      replace h := h.2 hb3
      refine Vc.skip' ?_
      refine rZ ?_
      refine wZ rg (o_addG rfl rfl h.1 ?_)
      replace h := h.2
      refine mvZ (.int .i64 (x1 + 1)) rfl (nZ ?_)
      exact ⟨(x1 + 1), (canon (fc vr (fc vr (fc vr (fn)))) (sc rfl (sn))), h⟩
    replace h := h.2 hb2
    refine Vc.exit' (exB_self ?_)
    refine qZ (qZ (rZ (wZ rg (o_loadBA (atL (k := 1) rfl) sz24 (by decide) ag24 rfl rfl (v := eFormula f) rfl (wZ rg (o_faP td24 rfl rfl (by rw [sz3]; decide) rfl (wZ rg (o_loadB1 (atL (k := 1) rfl) sz3 ag3 rfl rfl (v := .int .i64 f.Top) rfl (wZ rg (o_call (us := [eFormula f, AV.int .i64 f.Top]) rfl (vl' vr (vl' vr (vn))) (formula_Valid_ctr h fun r h => (wZ rg (o_not rfl (nZ ?_))))))))))))))
    refine Vc.cond' rfl (fun hb4 => ?_) (fun hb4 => ?_)
    · replace h := h.1 hb4
      refine qZ (rZ (wZ rg (o_iface (by rw [td73]; trivial) (v := .int .i64 10) rfl (asZ (.iface 73 (.int .i64 10)) rfl (nZ ?_)))))
      refine Vc.ret' ?_
      refine res_tmp (v := .iface 73 (.int .i64 10)) rfl (res_nil ?_)
      show Gives _ (.iface 73 (.int .i64 10)) _
      exact gives_out hrg (VW.refl _) (hQ _ h)
    replace h := h.2 hb4
    refine Vc.skip' ?_
    refine qZ (rZ (asZ .niface rfl (nZ ?_)))
    refine Vc.ret' ?_
    refine res_tmp (v := .niface) rfl (res_nil ?_)
    show Gives _ .niface _
    exact gives_out hrg (VW.refl _) (hQ _ h)
  refine rZ ?_
  refine wZ rg (o_faP td24 rfl rfl (by rw [sz3]; decide) rfl (wZ rg (o_loadB1 (atL (k := 1) rfl) sz3 ag3 rfl rfl (v := .int .i64 f.Vars) rfl (wZ rg (o_lss rfl rfl (mvZ (.bool (decide (f.Vars < 0))) rfl ?_))))))
  refine Wl.guard rfl rfl (fun hb5 => ?_) (fun hb5 => ?_)
  · replace h := h.2 hb5
    refine wZ rg (o_faP td24 rfl rfl (by rw [sz3]; decide) rfl ?_)
    refine Wl.guardT rfl rfl hb5 ?_
    refine wZ rg (o_loadB1 (atL (k := 1) rfl) sz3 ag3 rfl rfl (v := .int .i64 f.Vars) rfl ?_)
    refine Wl.guardT rfl rfl hb5 ?_
    refine wZ rg (o_gtr rfl rfl (wZ rg (o_pickF rfl hb5 (v := .bool (decide (24 < f.Vars))) rfl (nZ ?_))))
    exact ⟨((decide (24 < f.Vars)), g1), (canon (fc vr (fc vr (fn))) (sc rfl (sn))), h⟩
  replace h := h.1 hb5
  refine Wl.guardF rfl rfl hb5 rfl ?_
  refine Wl.guardF rfl rfl hb5 rfl ?_
  refine wZ rg (o_pickT rfl hb5 (v := .bool true) rfl (nZ ?_))
  exact ⟨(true, g1), (canon (fc vr (fc vr (fn))) (sc rfl (sn))), h⟩
end Go.Proofs.Ytiamkdpljeemkaa
