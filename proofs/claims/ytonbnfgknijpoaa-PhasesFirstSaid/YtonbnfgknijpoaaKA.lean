/- Walks of functions. Conditions: none. -/
import Derived.Test.YtonbnfgknijpoaaWA
import Derived.Test.YtonbnfgknijpoaaGgTy
namespace Go.Proofs.Ytonbnfgknijpoaa
open Go.Gg
set_option maxRecDepth 100000
theorem natural_trim_ctr {a : List Int} {Q : List Int → Prop} {S : St} {R : AV → St → Prop} (h : natural_trim_W a Q) (hQ : ∀ r1, Q r1 → R (eL (AV.int .u32) r1) S) :
    Ctr Try.prog 151 [eL (AV.int .u32) a] S R := by
  unfold natural_trim_W at h
  refine enterT Try.func151 rfl Try.ntmps151 Try.results151 (by kernel_rfl) (fun rg hrg => ?_)
  refine qZ (rZ (asZ .nil rfl (nZ (qZ (rZ (mvZ (eL (AV.int .u32) a) rfl (wZ rg (o_len td25 rfl (asZ (.int .i64 (a.length : Int)) rfl (nZ ?_))))))))))
  obtain ⟨J, h, hJ⟩ := h
  refine Vc.join' (σ := (Int)) (fun y => J y) (fun y => envOf [(0, eL (AV.int .u32) a), (3, .int .i64 y)]) (fun y => stL S rg []) (fun n h => ?_) ?_
  · replace h := hJ n h
    show Vc _ _ _ _ (envOf [(0, eL (AV.int .u32) a), (3, .int .i64 n)]) (stL S rg [])
    refine qZ (qZ (rZ (mvZ (.int .i64 n) rfl (wZ rg (o_eql rfl rfl (nZ ?_))))))
    refine Vc.cond' rfl (fun hb => ?_) (fun hb => ?_)
    · replace h := h.1 hb
      refine qZ (rZ (asZ .nil rfl (nZ ?_)))
      refine Vc.ret' ?_
      refine res_tmp (v := .nil) rfl (res_nil ?_)
      show Gives _ .nil _
      exact gives_out hrg (VW.nilL) (hQ _ h)
    replace h := h.2 hb
    refine Vc.skip' ?_
    refine qZ (rZ (wZ rg (o_bslice td25 ok173 zav173 (es := []) rfl (kk := 1) rfl rfl rfl rfl rfl rfl (fun g1 => (mvZ (eL (AV.int .u32) a) rfl (mvZ (.int .i64 n) rfl (wZ rg (o_sliceL td25 sz173 (by decide) (fun _ => rfl) rfl (l := 0) (h := n) rfl rfl h.1 ?_))))))))
    replace h := h.2
    refine wZ rg (o_appR td25 bts173 ok173 zav173 (es := []) (xs := (sub' a 0 n)) (enc := AV.int .u32) (atL (k := 20) rfl) (by first | rfl | omega | (simp only [go_sem] <;> omega)) (rfl) (kk := 1) rfl rfl (fun _ => rfl) (fun _ => rfl) h.1 rfl (fun _ => setL) (fun g2 => ?_))
    replace h := h.2
    refine asZ (.sl 1 rg 20 g2 0 (([] ++ (sub' a 0 n)).length)) rfl (nZ ?_)
    refine Vc.ret' ?_
    refine res_tmp (v := .sl 1 rg 20 g2 0 (([] ++ (sub' a 0 n)).length)) rfl (res_nil ?_)
    show Gives _ (.sl 1 rg 20 g2 0 (([] ++ (sub' a 0 n)).length)) _
    refine gives_freeze (k := 20) (xs := List.map (AV.int .u32) ([] ++ (sub' a 0 n))) rfl (v' := eL (AV.int .u32) ([] ++ (sub' a 0 n))) (frz_full rfl) ?_
    exact gives_out hrg (VW.refl _) (hQ _ h)
  refine Vc.blk ?_
  obtain ⟨I, μ, h0, hI⟩ := h
  refine Vc.loop' (σ := (Int)) (fun y => I y) (fun y => μ y) (fun y => envOf [(0, eL (AV.int .u32) a), (3, .int .i64 y)]) (fun y => stL S rg []) (a.length : Int) (canon (fc vr (fc vr (fn))) (sn)) h0 (fun n1 h => ?_)
  replace h := hI n1 h
  show Vc _ _ _ _ (envOf [(0, eL (AV.int .u32) a), (3, .int .i64 n1)]) (stL S rg [])
  refine qZ (qZ (rZ (mvZ (.int .i64 n1) rfl (wZ rg (o_gtr rfl rfl (mvZ (.bool (decide (0 < n1))) rfl ?_))))))
  refine Wl.guard rfl rfl (fun hb1 => ?_) (fun hb1 => ?_)
  · replace h := h.1 hb1
    refine mvZ (eL (AV.int .u32) a) rfl ?_
    refine Wl.guardT rfl rfl hb1 ?_
    refine mvZ (.int .i64 n1) rfl ?_
    refine Wl.guardT rfl rfl hb1 ?_
    refine wZ rg (o_subG rfl rfl h.1 ?_)
    replace h := h.2
    refine Wl.guardT rfl rfl hb1 ?_
    refine wZ rg (o_idxL td25 sz173 (by decide) (fun _ => rfl) rfl rfl h.1 ?_)
    replace h := h.2
    refine Wl.guardT rfl rfl hb1 ?_
    refine wZ rg (o_loadI1 sz173 ag173 rfl rfl (v := .int .u32 (at' a (n1 - 1))) rfl ?_)
    refine Wl.guardT rfl rfl hb1 ?_
    refine wZ rg (o_eql rfl rfl (wZ rg (o_pickT rfl hb1 (v := .bool ((at' a (n1 - 1)) == 0)) rfl (nZ ?_))))
    refine Vc.cond' rfl (fun hb2 => ?_) (fun hb2 => ?_)
    · replace h := h.1 hb2
      refine Vc.skip' ?_
      refine Vc.blk ?_
      refine rZ ?_
      refine mvZ (.int .i64 n1) rfl (wZ rg (o_subG rfl rfl h.1 ?_))
      replace h := h.2
      refine asZ (.int .i64 (n1 - 1)) rfl (nZ ?_)
      exact ⟨(n1 - 1), (canon (fc vr (fc vr (fn))) (sn)), h⟩
    replace h := h.2 hb2
    refine Vc.exit' (exB_self ?_)
    exact ⟨n1, (canon (fc vr (fc vr (fn))) (sn)), h⟩
  replace h := h.2 hb1
  refine Wl.guardF rfl rfl hb1 rfl ?_
  refine Wl.guardF rfl rfl hb1 rfl ?_
  refine Wl.guardF rfl rfl hb1 rfl ?_
  refine Wl.guardF rfl rfl hb1 rfl ?_
  refine Wl.guardF rfl rfl hb1 rfl ?_
  refine wZ rg (o_pickF rfl hb1 (v := .bool false) rfl (nZ ?_))
  refine Vc.cond' rfl (fun hb => Bool.noConfusion hb) (fun _ => ?_)
  refine Vc.exit' (exB_self ?_)
  exact ⟨n1, (canon (fc vr (fc vr (fn))) (sn)), h⟩
theorem natural_Cmp_ctr {a : List Int} {b : List Int} {Q : Int → Prop} {S : St} {R : AV → St → Prop} (h : natural_Cmp_W a b Q) (hQ : ∀ r1, Q r1 → R (AV.int .i64 r1) S) :
    Ctr Try.prog 103 [eL (AV.int .u32) a, eL (AV.int .u32) b] S R := by
  unfold natural_Cmp_W at h
  refine enterT Try.func103 rfl Try.ntmps103 Try.results103 (by kernel_rfl) (fun rg hrg => ?_)
  refine qZ (rZ (asZ (.int .i64 0) rfl (nZ (qZ (rZ (mvZ (eL (AV.int .u32) a) rfl (wZ rg (o_call (us := [eL (AV.int .u32) a]) rfl (vl' vr (vn)) (natural_trim_ctr h fun a1 h => (mvZ (eL (AV.int .u32) b) rfl (wZ rg (o_call (us := [eL (AV.int .u32) b]) rfl (vl' vr (vn)) (natural_trim_ctr h fun b1 h => (asZ (eL (AV.int .u32) a1) rfl (asZ (eL (AV.int .u32) b1) rfl (nZ (qZ (qZ (rZ ?_)))))))))))))))))))
  refine mvZ (eL (AV.int .u32) a1) rfl (wZ rg (o_len td25 rfl (mvZ (eL (AV.int .u32) b1) rfl (wZ rg (o_len td25 rfl (wZ rg (o_neq rfl rfl (nZ ?_))))))))
  refine Vc.cond' rfl (fun hb => ?_) (fun hb => ?_)
  · replace h := h.1 hb
    refine qZ (qZ (rZ (mvZ (eL (AV.int .u32) a1) rfl (wZ rg (o_len td25 rfl (mvZ (eL (AV.int .u32) b1) rfl (wZ rg (o_len td25 rfl (wZ rg (o_lss rfl rfl (nZ ?_)))))))))))
    refine Vc.cond' rfl (fun hb1 => ?_) (fun hb1 => ?_)
    · replace h := h.1 hb1
      refine qZ (rZ (asZ (.int .i64 (-1)) rfl (nZ ?_)))
      refine Vc.ret' ?_
      refine res_tmp (v := .int .i64 (-1)) rfl (res_nil ?_)
      show Gives _ (.int .i64 (-1)) _
      exact gives_out hrg (VW.refl _) (hQ _ h)
    replace h := h.2 hb1
    refine Vc.skip' ?_
    refine qZ (rZ (asZ (.int .i64 1) rfl (nZ ?_)))
    refine Vc.ret' ?_
    refine res_tmp (v := .int .i64 1) rfl (res_nil ?_)
    show Gives _ (.int .i64 1) _
    exact gives_out hrg (VW.refl _) (hQ _ h)
  replace h := h.2 hb
  refine Vc.skip' ?_
  refine qZ (qZ (rZ (mvZ (eL (AV.int .u32) a1) rfl (wZ rg (o_len td25 rfl (wZ rg (o_subG rfl rfl h.1 ?_)))))))
  replace h := h.2
  refine asZ (.int .i64 ((a1.length : Int) - 1)) rfl (nZ ?_)
  refine Vc.blk ?_
  obtain ⟨I, μ, h0, hI⟩ := h
  refine Vc.loop' (σ := (Int)) (fun y => I y) (fun y => μ y) (fun y => envOf [(0, eL (AV.int .u32) a1), (1, eL (AV.int .u32) b1), (5, .int .i64 y)]) (fun y => stL S rg []) ((a1.length : Int) - 1) (canon (fc vr (fc vr (fc vr (fn)))) (sn)) h0 (fun i h => ?_)
  replace h := hI i h
  show Vc _ _ _ _ (envOf [(0, eL (AV.int .u32) a1), (1, eL (AV.int .u32) b1), (5, .int .i64 i)]) (stL S rg [])
  refine qZ (qZ (rZ (mvZ (.int .i64 i) rfl (wZ rg (o_geq rfl rfl (nZ ?_))))))
  refine Vc.cond' rfl (fun hb2 => ?_) (fun hb2 => ?_)
  · replace h := h.1 hb2
    refine Vc.skip' ?_
    refine qZ ?_
    refine Vc.blk ?_
    refine qZ (qZ ?_)
    have hg := h.1
    replace h := h.2
    have hg1 := h.1
    replace h := h.2
    refine Vc.drawn' mixed rg (fun _ => jcr2) (by kernel_rfl) ?_
    refine dP rfl rfl (o_move (v := eL (AV.int .u32) a1) rfl (dP rfl rfl (o_move (v := .int .i64 i) rfl (dP rfl rfl (o_idxL td25 sz173 (by decide) (fun _ => rfl) rfl rfl hg (dP rfl rfl (o_loadI1 sz173 ag173 rfl rfl (v := .int .u32 (at' a1 i)) rfl (dP rfl rfl (o_move (v := eL (AV.int .u32) b1) rfl (dP rfl rfl (o_move (v := .int .i64 i) rfl ?_)))))))))))
    refine dP rfl rfl (o_idxL td25 sz173 (by decide) (fun _ => rfl) rfl rfl hg1 (dP rfl rfl (o_loadI1 sz173 ag173 rfl rfl (v := .int .u32 (at' b1 i)) rfl (dP rfl rfl (o_lss rfl rfl (dN ?_))))))
    refine Vc.cond' rfl (fun hb3 => ?_) (fun hb3 => ?_)
    · replace h := h.1 hb3
      refine qZ (rZ (asZ (.int .i64 (-1)) rfl (nZ ?_)))
      refine Vc.ret' ?_
      refine res_tmp (v := .int .i64 (-1)) rfl (res_nil ?_)
      show Gives _ (.int .i64 (-1)) _
      exact gives_out hrg (VW.refl _) (hQ _ h)
    replace h := h.2 hb3
    refine Vc.skip' ?_
    refine qZ ?_
    have hg2 := h.1
    replace h := h.2
    have hg3 := h.1
    replace h := h.2
    refine Vc.drawn' mixed rg (fun _ => jcr2) (by kernel_rfl) ?_
    refine dP rfl rfl (o_move (v := eL (AV.int .u32) a1) rfl (dP rfl rfl (o_move (v := .int .i64 i) rfl (dP rfl rfl (o_idxL td25 sz173 (by decide) (fun _ => rfl) rfl rfl hg2 (dP rfl rfl (o_loadI1 sz173 ag173 rfl rfl (v := .int .u32 (at' a1 i)) rfl (dP rfl rfl (o_move (v := eL (AV.int .u32) b1) rfl (dP rfl rfl (o_move (v := .int .i64 i) rfl ?_)))))))))))
    refine dP rfl rfl (o_idxL td25 sz173 (by decide) (fun _ => rfl) rfl rfl hg3 (dP rfl rfl (o_loadI1 sz173 ag173 rfl rfl (v := .int .u32 (at' b1 i)) rfl (dP rfl rfl (o_gtr rfl rfl (dN ?_))))))
    refine Vc.cond' rfl (fun hb4 => ?_) (fun hb4 => ?_)
    · replace h := h.1 hb4
      refine qZ (rZ (asZ (.int .i64 1) rfl (nZ ?_)))
      refine Vc.ret' ?_
      refine res_tmp (v := .int .i64 1) rfl (res_nil ?_)
      show Gives _ (.int .i64 1) _
      exact gives_out hrg (VW.refl _) (hQ _ h)
    replace h := h.2 hb4
    refine Vc.skip' ?_
    refine rZ ?_
    refine mvZ (.int .i64 i) rfl (wZ rg (o_subG rfl rfl h.1 ?_))
    replace h := h.2
    refine asZ (.int .i64 (i - 1)) rfl (nZ ?_)
    exact ⟨(i - 1), (canon (fc vr (fc vr (fc vr (fn)))) (sn)), h⟩
  replace h := h.2 hb2
  refine Vc.exit' (exB_self ?_)
  refine qZ (rZ (asZ (.int .i64 0) rfl (nZ ?_)))
  refine Vc.ret' ?_
  refine res_tmp (v := .int .i64 0) rfl (res_nil ?_)
  show Gives _ (.int .i64 0) _
  exact gives_out hrg (VW.refl _) (hQ _ h)
theorem natural_Of_ctr {n : Int} {Q : List Int → Prop} {S : St} {R : AV → St → Prop} (h : natural_Of_W n Q) (hQ : ∀ r1, Q r1 → R (eL (AV.int .u32) r1) S) :
    Ctr Try.prog 154 [AV.int .i64 n] S R := by
  unfold natural_Of_W at h
  refine enterT Try.func154 rfl Try.ntmps154 Try.results154 (by kernel_rfl) (fun rg hrg => ?_)
  refine qZ (rZ (asZ .nil rfl (nZ (qZ (qZ (rZ (mvZ (.int .i64 n) rfl (wZ rg (o_leq rfl rfl (nZ ?_))))))))))
  refine Vc.cond' rfl (fun hb => ?_) (fun hb => ?_)
  · replace h := h.1 hb
    refine qZ (rZ (asZ .nil rfl (nZ ?_)))
    refine Vc.ret' ?_
    refine res_tmp (v := .nil) rfl (res_nil ?_)
    show Gives _ .nil _
    exact gives_out hrg (VW.nilL) (hQ _ h)
  replace h := h.2 hb
  refine Vc.skip' ?_
  refine qZ (rZ (mvZ (.int .i64 n) rfl (wZ rg (o_conv td3 td173 rfl (mvZ (.int .i64 n) rfl (wZ rg (o_shr rfl rfl (by decide) (wZ rg (o_conv td3 td173 rfl (wZ rg (o_bslice td25 ok173 zav173 (es := [.int .u32 (IntKind.wrap .u32 n), .int .u32 (IntKind.wrap .u32 (n / 2 ^ (Int.toNat 32)))]) rfl (kk := 1) rfl rfl rfl rfl rfl rfl (fun g1 => ?_))))))))))))
  refine Wl.wk (canon_freeze (k := 10) (xs := List.map (AV.int .u32) [(IntKind.wrap .u32 n), (IntKind.wrap .u32 (n / 2 ^ (Int.toNat 32)))]) rfl (es := [(10, eL (AV.int .u32) [(IntKind.wrap .u32 n), (IntKind.wrap .u32 (n / 2 ^ (Int.toNat 32)))])]) (fc (frz_full rfl) (fn)) (m := []) (sn)) ?_
  refine wZ rg (o_call (us := [eL (AV.int .u32) [(IntKind.wrap .u32 n), (IntKind.wrap .u32 (n / 2 ^ (Int.toNat 32)))]]) rfl (vl' vr (vn)) (natural_trim_ctr h fun r h => (asZ (eL (AV.int .u32) r) rfl (nZ ?_))))
  refine Vc.ret' ?_
  refine res_tmp (v := eL (AV.int .u32) r) rfl (res_nil ?_)
  show Gives _ (eL (AV.int .u32) r) _
  exact gives_out hrg (VW.refl _) (hQ _ h)
theorem natural_small_ctr {a : List Int} {b : Int} {Q : List Int → Int → Prop} {S : St} {R : AV → St → Prop} (h : natural_small_W a b Q) (hQ : ∀ r1 r2, Q r1 r2 → R (.tuple [eL (AV.int .u32) r1, AV.int .u32 r2]) S) :
    Ctr Try.prog 171 [eL (AV.int .u32) a, AV.int .u32 b] S R := by
  unfold natural_small_W at h
  refine enterT Try.func171 rfl Try.ntmps171 Try.results171 (by kernel_rfl) (fun rg hrg => ?_)
  refine qZ (rZ (asZ .nil rfl (asZ (.int .u32 0) rfl (nZ (qZ (rZ (mvZ (eL (AV.int .u32) a) rfl (wZ rg (o_len td25 rfl (wZ rg (o_make td25 bts173 ok173 (enc := AV.int .u32) (z' := 0) zav173 (kk := 1) rfl rfl rfl h.1 (fun g1 => ?_))))))))))))
  replace h := h.2
  refine asZ (.sl 1 rg 11 g1 0 (Int.toNat (a.length : Int))) rfl (nZ (qZ (rZ (asZ (.int .u64 0) rfl (nZ (qZ (qZ (rZ (mvZ (eL (AV.int .u32) a) rfl (wZ rg (o_len td25 rfl (wZ rg (o_subG rfl rfl h.1 ?_)))))))))))))
  replace h := h.2
  refine asZ (.int .i64 ((a.length : Int) - 1)) rfl (nZ ?_)
  refine Vc.blk ?_
  obtain ⟨I, μ, h0, hI⟩ := h
  refine Vc.loop' (σ := (Int × Int × (List Int))) (fun y => I y) (fun y => μ y) (fun y => envOf [(0, eL (AV.int .u32) a), (1, .int .u32 b), (6, .sl 1 rg 11 g1 0 y.2.2.length), (7, .int .u64 y.1), (8, .int .i64 y.2.1)]) (fun y => stL S rg [(11, .arr 1 (List.map (AV.int .u32) y.2.2), g1)]) (0, ((a.length : Int) - 1), (rep' (a.length : Int) 0)) (canon (fc vr (fc vr (fc (VW.slen (by first | rfl | omega | (simp only [go_sem] <;> omega))) (fc vr (fc vr (fn)))))) (sc rfl (sn))) h0 (fun y h => ?_)
  obtain ⟨rest, i, out⟩ := y
  replace h := hI (rest, i, out) h
  show Vc _ _ _ _ (envOf [(0, eL (AV.int .u32) a), (1, .int .u32 b), (6, .sl 1 rg 11 g1 0 out.length), (7, .int .u64 rest), (8, .int .i64 i)]) (stL S rg [(11, .arr 1 (List.map (AV.int .u32) out), g1)])
  refine qZ (qZ (rZ (mvZ (.int .i64 i) rfl (wZ rg (o_geq rfl rfl (nZ ?_))))))
  refine Vc.cond' rfl (fun hb => ?_) (fun hb => ?_)
  · replace h := h.1 hb
    refine Vc.skip' ?_
    refine qZ ?_
    refine Vc.blk ?_
    refine qZ (rZ (mvZ (.int .u64 rest) rfl (wZ rg (o_shl rfl rfl (by decide) (mvZ (eL (AV.int .u32) a) rfl (mvZ (.int .i64 i) rfl (wZ rg (o_idxL td25 sz173 (by decide) (fun _ => rfl) rfl rfl h.1 ?_))))))))
    replace h := h.2
    refine wZ rg (o_loadI1 sz173 ag173 rfl rfl (v := .int .u32 (at' a i)) rfl (wZ rg (o_conv td173 td179 rfl (wZ rg (o_or rfl rfl ?_)))))
    obtain ⟨rest1, hs⟩ : ∃ qz, qz = (bits .or .u64 (IntKind.wrap .u64 (rest * 2 ^ (Int.toNat 32))) (IntKind.wrap .u64 (at' a i))) := ⟨_, rfl⟩
    replace h := h rest1 hs
    refine wZ rg (o_assign (v := .int .u64 rest1) (by subst hs; rfl) (nZ (qZ (rZ (mvZ (.sl 1 rg 11 g1 0 out.length) rfl (mvZ (.int .i64 i) rfl (mvZ (.int .u64 rest1) rfl (mvZ (.int .u32 b) rfl (wZ rg (o_conv td173 td179 rfl (wZ rg (o_quo rfl rfl h.1 ?_))))))))))))
    replace h := h.2
    refine wZ rg (o_conv td179 td173 rfl (wZ rg (o_idxR0 td25 sz173 (by decide) rfl rfl h.1 ?_)))
    have hi := h.1
    replace h := h.2
    refine wZ rg (o_storeR1 (atL (k := 11) rfl) sz173 (by decide) (x' := (IntKind.wrap .u32 (IntKind.wrap .u64 (Int.tdiv rest1 (IntKind.wrap .u64 b))))) (fun _ => rfl) rfl rfl (lt_of hi (by first | rfl | omega | (simp only [go_sem] <;> omega))) rfl rfl setL (nZ (rZ (mvZ (.int .u64 rest1) rfl (mvZ (.int .u32 b) rfl (wZ rg (o_conv td173 td179 rfl (wZ rg (o_rem rfl rfl h.1 ?_)))))))))
    replace h := h.2
    refine asZ (.int .u64 (Int.tmod rest1 (IntKind.wrap .u64 b))) rfl (nZ (rZ (mvZ (.int .i64 i) rfl (wZ rg (o_subG rfl rfl h.1 ?_)))))
    replace h := h.2
    refine asZ (.int .i64 (i - 1)) rfl (nZ ?_)
    exact ⟨((Int.tmod rest1 (IntKind.wrap .u64 b)), (i - 1), (set' out i (IntKind.wrap .u32 (IntKind.wrap .u64 (Int.tdiv rest1 (IntKind.wrap .u64 b)))))), (canon (fc vr (fc vr (fc (VW.slen (by first | rfl | omega | (simp only [go_sem] <;> omega))) (fc vr (fc vr (fn)))))) (sc rfl (sn))), h⟩
  replace h := h.2 hb
  refine Vc.exit' (exB_self ?_)
  refine qZ (rZ (mvZ (.sl 1 rg 11 g1 0 out.length) rfl ?_))
  refine Wl.wk (canon_freeze (k := 11) (xs := List.map (AV.int .u32) out) rfl (es := [(7, .int .u64 rest), (39, eL (AV.int .u32) out)]) (fc vr (fc (frz_full rfl) (fn))) (m := []) (sn)) ?_
  refine wZ rg (o_call (us := [eL (AV.int .u32) out]) rfl (vl' vr (vn)) (natural_trim_ctr h fun r h => (mvZ (.int .u64 rest) rfl (wZ rg (o_conv td179 td173 rfl (asZ (eL (AV.int .u32) r) rfl (asZ (.int .u32 (IntKind.wrap .u32 rest)) rfl (nZ ?_))))))))
  refine Vc.ret' ?_
  refine res_tmp (v := eL (AV.int .u32) r) rfl (res_tmp (v := .int .u32 (IntKind.wrap .u32 rest)) rfl (res_nil ?_))
  show Gives _ (.tuple [eL (AV.int .u32) r, .int .u32 (IntKind.wrap .u32 rest)]) _
  exact gives_out hrg (VW.tupL (vl' vr (vl' vr (vn)))) (hQ _ _ h)
theorem math_bits_Len32_ctr {x : Int} {Q : Int → Prop} {S : St} {R : AV → St → Prop} (h : math_bits_Len32_W x Q) (hQ : ∀ r1, Q r1 → R (AV.int .i64 r1) S) :
    Ctr Try.prog 170 [AV.int .u32 x] S R := by
  unfold math_bits_Len32_W at h
  refine enterT Try.func170 rfl Try.ntmps170 Try.results170 (by kernel_rfl) (fun rg hrg => ?_)
  refine qZ (rZ (asZ (.int .i64 0) rfl (nZ ?_)))
  obtain ⟨J, h, hJ⟩ := h
  refine Vc.join' (σ := (Int × Int)) (fun y => J y) (fun y => envOf [(0, .int .u32 y.1), (2, .int .i64 y.2)]) (fun y => stL S rg []) (fun y h => ?_) ?_
  · obtain ⟨x1, n⟩ := y
    replace h := hJ (x1, n) h
    show Vc _ _ _ _ (envOf [(0, .int .u32 x1), (2, .int .i64 n)]) (stL S rg [])
    obtain ⟨J, h, hJ⟩ := h
    refine Vc.join' (σ := (Int × Int)) (fun y => J y) (fun y => envOf [(0, .int .u32 y.1), (2, .int .i64 y.2)]) (fun y => stL S rg []) (fun y h => ?_) ?_
    · obtain ⟨x2, n1⟩ := y
      replace h := hJ (x2, n1) h
      show Vc _ _ _ _ (envOf [(0, .int .u32 x2), (2, .int .i64 n1)]) (stL S rg [])
      refine qZ (rZ (mvZ (.int .i64 n1) rfl (mvZ (.int .u32 x2) rfl (wZ rg (o_conv td173 td5 rfl (wZ rg (o_indexS td9 (by kernel_rfl) rfl h.1 ?_)))))))
      replace h := h.2
      refine wZ rg (o_conv td5 td3 rfl (wZ rg (o_addG rfl rfl h.1 ?_)))
      replace h := h.2
      obtain ⟨n2, hs⟩ : ∃ qz, qz = (n1 + (IntKind.wrap .i64 (byteAt str_633d862b (Int.toNat (IntKind.wrap .u8 x2))))) := ⟨_, rfl⟩
      replace h := h n2 hs
      refine wZ rg (o_assign (v := .int .i64 n2) (by subst hs; rfl) (nZ ?_))
      refine Vc.ret' ?_
      refine res_tmp (v := .int .i64 n2) rfl (res_nil ?_)
      show Gives _ (.int .i64 n2) _
      exact gives_out hrg (VW.refl _) (hQ _ h)
    refine qZ (rZ (mvZ (.int .u32 x1) rfl (wZ rg (o_geq rfl rfl (nZ ?_)))))
    refine Vc.cond' rfl (fun hb => ?_) (fun hb => ?_)
    · replace h := h.1 hb
      refine qZ (rZ (mvZ (.int .u32 x1) rfl (wZ rg (o_shr rfl rfl (by decide) (asZ (.int .u32 (x1 / 2 ^ (Int.toNat 8))) rfl (nZ (rZ (mvZ (.int .i64 n) rfl (wZ rg (o_addG rfl rfl h.1 ?_))))))))))
      replace h := h.2
      refine asZ (.int .i64 (n + 8)) rfl (nZ ?_)
      exact ⟨((x1 / 2 ^ (Int.toNat 8)), (n + 8)), (canon (fc vr (fc vr (fn))) (sn)), h⟩
    replace h := h.2 hb
    refine Vc.skip' ?_
    exact ⟨(x1, n), (canon (fc vr (fc vr (fn))) (sn)), h⟩
  refine qZ (rZ (mvZ (.int .u32 x) rfl (wZ rg (o_geq rfl rfl (nZ ?_)))))
  refine Vc.cond' rfl (fun hb1 => ?_) (fun hb1 => ?_)
  · replace h := h.1 hb1
    refine qZ (rZ (mvZ (.int .u32 x) rfl (wZ rg (o_shr rfl rfl (by decide) (asZ (.int .u32 (x / 2 ^ (Int.toNat 16))) rfl (nZ (rZ (asZ (.int .i64 16) rfl (nZ ?_)))))))))
    exact ⟨((x / 2 ^ (Int.toNat 16)), 16), (canon (fc vr (fc vr (fn))) (sn)), h⟩
  replace h := h.2 hb1
  refine Vc.skip' ?_
  exact ⟨(x, 0), (canon (fc vr (fc vr (fn))) (sn)), h⟩
theorem math_bits_LeadingZeros32_ctr {x : Int} {Q : Int → Prop} {S : St} {R : AV → St → Prop} (h : math_bits_LeadingZeros32_W x Q) (hQ : ∀ r1, Q r1 → R (AV.int .i64 r1) S) :
    Ctr Try.prog 172 [AV.int .u32 x] S R := by
  unfold math_bits_LeadingZeros32_W at h
  refine enterT Try.func172 rfl Try.ntmps172 Try.results172 (by kernel_rfl) (fun rg hrg => ?_)
  refine qZ (rZ (asZ (.int .i64 0) rfl (nZ (qZ (rZ (mvZ (.int .u32 x) rfl (wZ rg (o_call (us := [AV.int .u32 x]) rfl (vl' vr (vn)) (math_bits_Len32_ctr h fun r h => (wZ rg (o_subG rfl rfl h.1 ?_)))))))))))
  replace h := h.2
  refine asZ (.int .i64 (32 - r)) rfl (nZ ?_)
  refine Vc.ret' ?_
  refine res_tmp (v := .int .i64 (32 - r)) rfl (res_nil ?_)
  show Gives _ (.int .i64 (32 - r)) _
  exact gives_out hrg (VW.refl _) (hQ _ h)
theorem natural_left_ctr {a : List Int} {n : Int} {Q : List Int → Prop} {S : St} {R : AV → St → Prop} (h : natural_left_W a n Q) (hQ : ∀ r1, Q r1 → R (eL (AV.int .u32) r1) S) :
    Ctr Try.prog 173 [eL (AV.int .u32) a, AV.int .i64 n] S R := by
  unfold natural_left_W at h
  refine enterT Try.func173 rfl Try.ntmps173 Try.results173 (by kernel_rfl) (fun rg hrg => ?_)
  refine qZ (rZ (asZ .nil rfl (nZ (qZ (rZ (mvZ (eL (AV.int .u32) a) rfl (wZ rg (o_len td25 rfl (wZ rg (o_addG rfl rfl h.1 ?_))))))))))
  replace h := h.2
  refine wZ rg (o_make td25 bts173 ok173 (enc := AV.int .u32) (z' := 0) zav173 (kk := 1) rfl rfl rfl h.1 (fun g1 => ?_))
  replace h := h.2
  refine asZ (.sl 1 rg 12 g1 0 (Int.toNat ((a.length : Int) + 1))) rfl (nZ (qZ (qZ (rZ (mvZ (eL (AV.int .u32) a) rfl (wZ rg (o_len td25 rfl (mvZ (.int .i64 0) rfl (nZ ?_)))))))))
  refine Vc.blk ?_
  obtain ⟨I, μ, h0, hI⟩ := h
  refine Vc.loop' (σ := (Int × (List Int))) (fun y => I y) (fun y => μ y) (fun y => envOf [(1, .int .i64 n), (5, .sl 1 rg 12 g1 0 y.2.length), (13, eL (AV.int .u32) a), (14, .int .i64 (a.length : Int)), (15, .int .i64 y.1)]) (fun y => stL S rg [(12, .arr 1 (List.map (AV.int .u32) y.2), g1)]) (0, (rep' ((a.length : Int) + 1) 0)) (canon (fc vr (fc (VW.slen (by first | rfl | omega | (simp only [go_sem] <;> omega))) (fc vr (fc vr (fc vr (fn)))))) (sc rfl (sn))) h0 (fun y h => ?_)
  obtain ⟨x, out⟩ := y
  replace h := hI (x, out) h
  show Vc _ _ _ _ (envOf [(1, .int .i64 n), (5, .sl 1 rg 12 g1 0 out.length), (13, eL (AV.int .u32) a), (14, .int .i64 (a.length : Int)), (15, .int .i64 x)]) (stL S rg [(12, .arr 1 (List.map (AV.int .u32) out), g1)])
  refine qZ (rZ (wZ rg (o_lss rfl rfl (nZ (qZ ?_)))))
  refine Vc.cond' rfl (fun hb => ?_) (fun hb => ?_)
  · replace h := h.1 hb
    refine Vc.skip' ?_
    refine qZ ?_
    refine Vc.blk ?_
    refine qZ (rZ (mvZ (.int .i64 x) rfl (wZ rg (o_idxL td25 sz173 (by decide) (fun _ => rfl) rfl rfl h.1 ?_))))
    replace h := h.2
    refine wZ rg (o_loadI1 sz173 ag173 rfl rfl (v := .int .u32 (at' a x)) rfl (asZ (.int .i64 x) rfl (asZ (.int .u32 (at' a x)) rfl (nZ (qZ (rZ (mvZ (.int .u32 (at' a x)) rfl (wZ rg (o_conv td173 td179 rfl (mvZ (.int .i64 n) rfl (wZ rg (o_shl rfl rfl h.1 ?_))))))))))))
    replace h := h.2
    obtain ⟨y1, hs⟩ : ∃ qz, qz = (IntKind.wrap .u64 ((IntKind.wrap .u64 (at' a x)) * 2 ^ (Int.toNat n))) := ⟨_, rfl⟩
    replace h := h y1 hs
    refine wZ rg (o_assign (v := .int .u64 y1) (by subst hs; rfl) (nZ (qZ (rZ (mvZ (.sl 1 rg 12 g1 0 out.length) rfl (mvZ (.int .i64 x) rfl (wZ rg (o_idxR0 td25 sz173 (by decide) rfl rfl h.1 ?_))))))))
    have hi := h.1
    replace h := h.2
    refine wZ rg (o_loadR1 (atL (k := 12) rfl) sz173 ag173 rfl (lt_of hi (by first | rfl | omega | (simp only [go_sem] <;> omega))) rfl (v := .int .u32 (at' out x)) rfl (mvZ (.int .u64 y1) rfl (wZ rg (o_conv td179 td173 rfl (wZ rg (o_or rfl rfl (wZ rg (o_idxR0 td25 sz173 (by decide) rfl rfl h.1 ?_))))))))
    have hi1 := h.1
    replace h := h.2
    refine wZ rg (o_storeR1 (atL (k := 12) rfl) sz173 (by decide) (x' := (bits .or .u32 (at' out x) (IntKind.wrap .u32 y1))) (fun _ => rfl) rfl rfl (lt_of hi1 (by first | rfl | omega | (simp only [go_sem] <;> omega))) rfl rfl setL (nZ (rZ (mvZ (.sl 1 rg 12 g1 0 out.length) rfl (mvZ (.int .i64 x) rfl (wZ rg (o_addG rfl rfl h.1 ?_)))))))
    replace h := h.2
    refine mvZ (.int .u64 y1) rfl (wZ rg (o_shr rfl rfl (by decide) (wZ rg (o_conv td179 td173 rfl (wZ rg (o_idxR0 td25 sz173 (by decide) rfl rfl h.1 ?_))))))
    have hi2 := h.1
    replace h := h.2
    refine wZ rg (o_storeR1 (atL (k := 12) rfl) sz173 (by decide) (x' := (IntKind.wrap .u32 (y1 / 2 ^ (Int.toNat 32)))) (fun _ => rfl) rfl rfl (lt_of hi2 (by first | rfl | omega | (simp only [go_sem] <;> omega))) rfl rfl setL (nZ (rZ (wZ rg (o_addG rfl rfl h.1 ?_)))))
    replace h := h.2
    refine mvZ (.int .i64 (x + 1)) rfl (nZ ?_)
    exact ⟨((x + 1), (set' (set' out x (bits .or .u32 (at' out x) (IntKind.wrap .u32 y1))) (x + 1) (IntKind.wrap .u32 (y1 / 2 ^ (Int.toNat 32))))), (canon (fc vr (fc (VW.slen (by first | rfl | omega | (simp only [go_sem] <;> omega))) (fc vr (fc vr (fc vr (fn)))))) (sc rfl (sn))), h⟩
  replace h := h.2 hb
  refine Vc.exit' (exB_self ?_)
  refine qZ (rZ (mvZ (.sl 1 rg 12 g1 0 out.length) rfl (asZ (.sl 1 rg 12 g1 0 out.length) rfl (nZ ?_))))
  refine Vc.ret' ?_
  refine res_tmp (v := .sl 1 rg 12 g1 0 out.length) rfl (res_nil ?_)
  show Gives _ (.sl 1 rg 12 g1 0 out.length) _
  refine gives_freeze (k := 12) (xs := List.map (AV.int .u32) out) rfl (v' := eL (AV.int .u32) out) (frz_full rfl) ?_
  exact gives_out hrg (VW.refl _) (hQ _ h)
theorem natural_left_ctrO {a : List Int} {n : Int} (q k : Nat) {Q : List Int → Prop} {S : St} {R : AV → St → Prop} (h : natural_left_W a n Q) (hQ : ∀ l g, Q l → R (.sl 1 q k g 0 l.length) (S.set q k (.arr 1 (List.map (AV.int .u32) l)) g)) :
    Ctr Try.prog 173 [eL (AV.int .u32) a, AV.int .i64 n] S R := by
  unfold natural_left_W at h
  refine enterT Try.func173 rfl Try.ntmps173 Try.results173 (by kernel_rfl) (fun rg hrg => ?_)
  refine qZ (rZ (asZ .nil rfl (nZ (qZ (rZ (mvZ (eL (AV.int .u32) a) rfl (wZ rg (o_len td25 rfl (wZ rg (o_addG rfl rfl h.1 ?_))))))))))
  replace h := h.2
  refine wZ rg (o_make td25 bts173 ok173 (enc := AV.int .u32) (z' := 0) zav173 (kk := 1) rfl rfl rfl h.1 (fun g1 => ?_))
  replace h := h.2
  refine asZ (.sl 1 rg 12 g1 0 (Int.toNat ((a.length : Int) + 1))) rfl (nZ (qZ (qZ (rZ (mvZ (eL (AV.int .u32) a) rfl (wZ rg (o_len td25 rfl (mvZ (.int .i64 0) rfl (nZ ?_)))))))))
  refine Vc.blk ?_
  obtain ⟨I, μ, h0, hI⟩ := h
  refine Vc.loop' (σ := (Int × (List Int))) (fun y => I y) (fun y => μ y) (fun y => envOf [(1, .int .i64 n), (5, .sl 1 rg 12 g1 0 y.2.length), (13, eL (AV.int .u32) a), (14, .int .i64 (a.length : Int)), (15, .int .i64 y.1)]) (fun y => stL S rg [(12, .arr 1 (List.map (AV.int .u32) y.2), g1)]) (0, (rep' ((a.length : Int) + 1) 0)) (canon (fc vr (fc (VW.slen (by first | rfl | omega | (simp only [go_sem] <;> omega))) (fc vr (fc vr (fc vr (fn)))))) (sc rfl (sn))) h0 (fun y h => ?_)
  obtain ⟨x, out⟩ := y
  replace h := hI (x, out) h
  show Vc _ _ _ _ (envOf [(1, .int .i64 n), (5, .sl 1 rg 12 g1 0 out.length), (13, eL (AV.int .u32) a), (14, .int .i64 (a.length : Int)), (15, .int .i64 x)]) (stL S rg [(12, .arr 1 (List.map (AV.int .u32) out), g1)])
  refine qZ (rZ (wZ rg (o_lss rfl rfl (nZ (qZ ?_)))))
  refine Vc.cond' rfl (fun hb => ?_) (fun hb => ?_)
  · replace h := h.1 hb
    refine Vc.skip' ?_
    refine qZ ?_
    refine Vc.blk ?_
    refine qZ (rZ (mvZ (.int .i64 x) rfl (wZ rg (o_idxL td25 sz173 (by decide) (fun _ => rfl) rfl rfl h.1 ?_))))
    replace h := h.2
    refine wZ rg (o_loadI1 sz173 ag173 rfl rfl (v := .int .u32 (at' a x)) rfl (asZ (.int .i64 x) rfl (asZ (.int .u32 (at' a x)) rfl (nZ (qZ (rZ (mvZ (.int .u32 (at' a x)) rfl (wZ rg (o_conv td173 td179 rfl (mvZ (.int .i64 n) rfl (wZ rg (o_shl rfl rfl h.1 ?_))))))))))))
    replace h := h.2
    obtain ⟨y1, hs⟩ : ∃ qz, qz = (IntKind.wrap .u64 ((IntKind.wrap .u64 (at' a x)) * 2 ^ (Int.toNat n))) := ⟨_, rfl⟩
    replace h := h y1 hs
    refine wZ rg (o_assign (v := .int .u64 y1) (by subst hs; rfl) (nZ (qZ (rZ (mvZ (.sl 1 rg 12 g1 0 out.length) rfl (mvZ (.int .i64 x) rfl (wZ rg (o_idxR0 td25 sz173 (by decide) rfl rfl h.1 ?_))))))))
    have hi := h.1
    replace h := h.2
    refine wZ rg (o_loadR1 (atL (k := 12) rfl) sz173 ag173 rfl (lt_of hi (by first | rfl | omega | (simp only [go_sem] <;> omega))) rfl (v := .int .u32 (at' out x)) rfl (mvZ (.int .u64 y1) rfl (wZ rg (o_conv td179 td173 rfl (wZ rg (o_or rfl rfl (wZ rg (o_idxR0 td25 sz173 (by decide) rfl rfl h.1 ?_))))))))
    have hi1 := h.1
    replace h := h.2
    refine wZ rg (o_storeR1 (atL (k := 12) rfl) sz173 (by decide) (x' := (bits .or .u32 (at' out x) (IntKind.wrap .u32 y1))) (fun _ => rfl) rfl rfl (lt_of hi1 (by first | rfl | omega | (simp only [go_sem] <;> omega))) rfl rfl setL (nZ (rZ (mvZ (.sl 1 rg 12 g1 0 out.length) rfl (mvZ (.int .i64 x) rfl (wZ rg (o_addG rfl rfl h.1 ?_)))))))
    replace h := h.2
    refine mvZ (.int .u64 y1) rfl (wZ rg (o_shr rfl rfl (by decide) (wZ rg (o_conv td179 td173 rfl (wZ rg (o_idxR0 td25 sz173 (by decide) rfl rfl h.1 ?_))))))
    have hi2 := h.1
    replace h := h.2
    refine wZ rg (o_storeR1 (atL (k := 12) rfl) sz173 (by decide) (x' := (IntKind.wrap .u32 (y1 / 2 ^ (Int.toNat 32)))) (fun _ => rfl) rfl rfl (lt_of hi2 (by first | rfl | omega | (simp only [go_sem] <;> omega))) rfl rfl setL (nZ (rZ (wZ rg (o_addG rfl rfl h.1 ?_)))))
    replace h := h.2
    refine mvZ (.int .i64 (x + 1)) rfl (nZ ?_)
    exact ⟨((x + 1), (set' (set' out x (bits .or .u32 (at' out x) (IntKind.wrap .u32 y1))) (x + 1) (IntKind.wrap .u32 (y1 / 2 ^ (Int.toNat 32))))), (canon (fc vr (fc (VW.slen (by first | rfl | omega | (simp only [go_sem] <;> omega))) (fc vr (fc vr (fc vr (fn)))))) (sc rfl (sn))), h⟩
  replace h := h.2 hb
  refine Vc.exit' (exB_self ?_)
  refine qZ (rZ (mvZ (.sl 1 rg 12 g1 0 out.length) rfl (asZ (.sl 1 rg 12 g1 0 out.length) rfl (nZ ?_))))
  refine Vc.ret' ?_
  refine res_tmp (v := .sl 1 rg 12 g1 0 out.length) rfl (res_nil ?_)
  show Gives _ (.sl 1 rg 12 g1 0 out.length) _
  exact gives_own q k hrg rfl (fun g' => hQ _ g' h)
theorem natural_word_ctr {a : List Int} {i : Int} {Q : Int → Prop} {S : St} {R : AV → St → Prop} (h : natural_word_W a i Q) (hQ : ∀ r1, Q r1 → R (AV.int .u64 r1) S) :
    Ctr Try.prog 155 [eL (AV.int .u32) a, AV.int .i64 i] S R := by
  unfold natural_word_W at h
  refine enterT Try.func155 rfl Try.ntmps155 Try.results155 (by kernel_rfl) (fun rg hrg => ?_)
  refine qZ (rZ (asZ (.int .u64 0) rfl (nZ (qZ (qZ (rZ (mvZ (.int .i64 i) rfl (mvZ (eL (AV.int .u32) a) rfl (wZ rg (o_len td25 rfl (wZ rg (o_lss rfl rfl (nZ ?_)))))))))))))
  refine Vc.cond' rfl (fun hb => ?_) (fun hb => ?_)
  · replace h := h.1 hb
    refine qZ (rZ (mvZ (eL (AV.int .u32) a) rfl (mvZ (.int .i64 i) rfl (wZ rg (o_idxL td25 sz173 (by decide) (fun _ => rfl) rfl rfl h.1 ?_)))))
    replace h := h.2
    refine wZ rg (o_loadI1 sz173 ag173 rfl rfl (v := .int .u32 (at' a i)) rfl (wZ rg (o_conv td173 td179 rfl (asZ (.int .u64 (IntKind.wrap .u64 (at' a i))) rfl (nZ ?_)))))
    refine Vc.ret' ?_
    refine res_tmp (v := .int .u64 (IntKind.wrap .u64 (at' a i))) rfl (res_nil ?_)
    show Gives _ (.int .u64 (IntKind.wrap .u64 (at' a i))) _
    exact gives_out hrg (VW.refl _) (hQ _ h)
  replace h := h.2 hb
  refine Vc.skip' ?_
  refine qZ (rZ (asZ (.int .u64 0) rfl (nZ ?_)))
  refine Vc.ret' ?_
  refine res_tmp (v := .int .u64 0) rfl (res_nil ?_)
  show Gives _ (.int .u64 0) _
  exact gives_out hrg (VW.refl _) (hQ _ h)
theorem natural_take_ctr {u : List Int} {uo : Nat} {ul : Nat} {v : List Int} {n : Int} {q0 k0 g0 : Nat} {Q : List Int → Bool → Prop} {S : St} {R : AV → St → Prop} (h : natural_take_W u uo ul v n Q) (hQ : ∀ r1 r2, Q r1 r2 → R (AV.bool r2) (stX S [(q0, k0, .arr 1 (List.map (AV.int .u32) r1), g0)])) :
    Ctr Try.prog 174 [.sl 1 q0 k0 g0 uo ul, eL (AV.int .u32) v, AV.int .u64 n] (stX S [(q0, k0, .arr 1 (List.map (AV.int .u32) u), g0)]) R := by
  unfold natural_take_W at h
  refine enterT Try.func174 rfl Try.ntmps174 Try.results174 (by kernel_rfl) (fun rg hrg => ?_)
  have hdx : DX [(q0, k0, .arr 1 (List.map (AV.int .u32) u), g0)] := dx1
  have hfr := fun X' e => fresh_set (S := S) (rg := rg) (X := [(q0, k0, .arr 1 (List.map (AV.int .u32) u), g0)]) (X' := X') e hrg
  have hne0 := fresh_ne hdx hrg 0 rfl
  refine qZ (rZ (asZ (.bool false) rfl (nZ (qZ (rZ (asZ (.int .u64 0) rfl (asZ (.int .u64 0) rfl (nZ (qZ (qZ (rZ (mvZ (.sl 1 q0 k0 g0 uo ul) rfl (wZ rg (o_lenR td25 rfl (mvZ (.int .i64 0) rfl (nZ ?_))))))))))))))))
  refine Vc.blk ?_
  obtain ⟨I, μ, h0, hI⟩ := h
  refine Vc.loop' (σ := (Int × Int × Int × (List Int))) (fun y => I y) (fun y => μ y) (fun y => envOf [(0, .sl 1 q0 k0 g0 uo ul), (1, eL (AV.int .u32) v), (2, .int .u64 n), (7, .int .u64 y.1), (8, .int .u64 y.2.1), (12, .int .i64 (ul : Int)), (13, .int .i64 y.2.2.1)]) (fun y => stL (stX S [(q0, k0, .arr 1 (List.map (AV.int .u32) y.2.2.2), g0)]) rg []) (0, 0, 0, u) (canon (fc vr (fc vr (fc vr (fc vr (fc vr (fc vr (fc vr (fn)))))))) (sn)) h0 (fun y h => ?_)
  obtain ⟨carry, borrow, x, u1⟩ := y
  replace h := hI (carry, borrow, x, u1) h
  show Vc _ _ _ _ (envOf [(0, .sl 1 q0 k0 g0 uo ul), (1, eL (AV.int .u32) v), (2, .int .u64 n), (7, .int .u64 carry), (8, .int .u64 borrow), (12, .int .i64 (ul : Int)), (13, .int .i64 x)]) (stL (stX S [(q0, k0, .arr 1 (List.map (AV.int .u32) u1), g0)]) rg [])
  refine qZ (rZ (wZ rg (o_lss rfl rfl (nZ (qZ ?_)))))
  refine Vc.cond' rfl (fun hb => ?_) (fun hb => ?_)
  · replace h := h.1 hb
    refine Vc.skip' ?_
    refine qZ ?_
    refine Vc.blk ?_
    refine qZ (rZ (mvZ (.int .i64 x) rfl (asZ (.int .i64 x) rfl (nZ (qZ (rZ (mvZ (.int .u64 carry) rfl (mvZ (.int .u64 n) rfl (mvZ (eL (AV.int .u32) v) rfl (mvZ (.int .i64 x) rfl (wZ rg (o_call (us := [eL (AV.int .u32) v, AV.int .i64 x]) rfl (vl' vr (vl' vr (vn))) (natural_word_ctr h fun r h => (wZ rg (o_mul rfl rfl (wZ rg (o_add rfl rfl ?_)))))))))))))))))
    obtain ⟨carry1, hs⟩ : ∃ qz, qz = (IntKind.wrap .u64 (carry + (IntKind.wrap .u64 (n * r)))) := ⟨_, rfl⟩
    replace h := h carry1 hs
    refine wZ rg (o_assign (v := .int .u64 carry1) (by subst hs; rfl) (nZ (qZ (rZ (mvZ (.sl 1 q0 k0 g0 uo ul) rfl (mvZ (.int .i64 x) rfl (wZ rg (o_idxRO td25 sz173 (by decide) rfl rfl h.1 ?_))))))))
    have hi := h.1
    replace h := h.2
    refine wZ rg (o_loadR1 (atX hne0 hdx 0 rfl) sz173 ag173 rfl (h.1) rfl (v := .int .u32 (at' u1 ((uo : Int) + x))) rfl ?_)
    replace h := h.2
    refine wZ rg (o_conv td173 td179 rfl (mvZ (.int .u64 carry1) rfl (wZ rg (o_conv td179 td173 rfl (wZ rg (o_conv td173 td179 rfl (wZ rg (o_sub rfl rfl (mvZ (.int .u64 borrow) rfl (wZ rg (o_sub rfl rfl ?_)))))))))))
    obtain ⟨d, hs1⟩ : ∃ qz, qz = (IntKind.wrap .u64 ((IntKind.wrap .u64 ((IntKind.wrap .u64 (at' u1 ((uo : Int) + x))) - (IntKind.wrap .u64 (IntKind.wrap .u32 carry1)))) - borrow)) := ⟨_, rfl⟩
    replace h := h d hs1
    refine wZ rg (o_assign (v := .int .u64 d) (by subst hs1; rfl) (nZ (qZ (rZ (mvZ (.sl 1 q0 k0 g0 uo ul) rfl (mvZ (.int .i64 x) rfl (mvZ (.int .u64 d) rfl (wZ rg (o_conv td179 td173 rfl (wZ rg (o_idxRO td25 sz173 (by decide) rfl rfl h.1 ?_)))))))))))
    have hi1 := h.1
    replace h := h.2
    refine wZ rg (o_storeR1 (atX hne0 hdx 0 rfl) sz173 (by decide) (x' := (IntKind.wrap .u32 d)) (fun _ => rfl) rfl rfl (h.1) rfl rfl (setX hne0 hdx 0 rfl rfl) ?_)
    replace h := h.2
    refine nZ (qZ (rZ (mvZ (.int .u64 d) rfl (wZ rg (o_shr rfl rfl (by decide) (asZ (.int .u64 (d / 2 ^ (Int.toNat 63))) rfl (nZ (rZ (mvZ (.int .u64 carry1) rfl (wZ rg (o_shr rfl rfl (by decide) (asZ (.int .u64 (carry1 / 2 ^ (Int.toNat 32))) rfl (nZ (rZ (wZ rg (o_addG rfl rfl h.1 ?_))))))))))))))))
    replace h := h.2
    refine mvZ (.int .i64 (x + 1)) rfl (nZ ?_)
    exact ⟨((carry1 / 2 ^ (Int.toNat 32)), (d / 2 ^ (Int.toNat 63)), (x + 1), (set' u1 ((uo : Int) + x) (IntKind.wrap .u32 d))), (canon (fc vr (fc vr (fc vr (fc vr (fc vr (fc vr (fc vr (fn)))))))) (sn)), h⟩
  replace h := h.2 hb
  refine Vc.exit' (exB_self ?_)
  refine qZ (rZ (mvZ (.int .u64 borrow) rfl (wZ rg (o_eql rfl rfl (asZ (.bool (borrow == 1)) rfl (nZ ?_))))))
  refine Vc.ret' ?_
  refine res_tmp (v := .bool (borrow == 1)) rfl (res_nil ?_)
  show Gives _ (.bool (borrow == 1)) _
  exact gives_out (hfr _ rfl) (VW.refl _) (hQ _ _ h)
theorem natural_give_ctr {u : List Int} {uo : Nat} {ul : Nat} {v : List Int} {q0 k0 g0 : Nat} {Q : List Int → Prop} {S : St} {R : AV → St → Prop} (h : natural_give_W u uo ul v Q) (hQ : ∀ r1, Q r1 → R (.tuple []) (stX S [(q0, k0, .arr 1 (List.map (AV.int .u32) r1), g0)])) :
    Ctr Try.prog 175 [.sl 1 q0 k0 g0 uo ul, eL (AV.int .u32) v] (stX S [(q0, k0, .arr 1 (List.map (AV.int .u32) u), g0)]) R := by
  unfold natural_give_W at h
  refine enterT Try.func175 rfl Try.ntmps175 Try.results175 (by kernel_rfl) (fun rg hrg => ?_)
  have hdx : DX [(q0, k0, .arr 1 (List.map (AV.int .u32) u), g0)] := dx1
  have hfr := fun X' e => fresh_set (S := S) (rg := rg) (X := [(q0, k0, .arr 1 (List.map (AV.int .u32) u), g0)]) (X' := X') e hrg
  have hne0 := fresh_ne hdx hrg 0 rfl
  refine qZ (rZ (asZ (.int .u64 0) rfl (nZ (qZ (rZ (mvZ (.sl 1 q0 k0 g0 uo ul) rfl (wZ rg (o_lenR td25 rfl (mvZ (.int .i64 0) rfl (nZ ?_))))))))))
  refine Vc.blk ?_
  obtain ⟨I, μ, h0, hI⟩ := h
  refine Vc.loop' (σ := (Int × Int × (List Int))) (fun y => I y) (fun y => μ y) (fun y => envOf [(0, .sl 1 q0 k0 g0 uo ul), (1, eL (AV.int .u32) v), (4, .int .u64 y.1), (7, .int .i64 (ul : Int)), (8, .int .i64 y.2.1)]) (fun y => stL (stX S [(q0, k0, .arr 1 (List.map (AV.int .u32) y.2.2), g0)]) rg []) (0, 0, u) (canon (fc vr (fc vr (fc vr (fc vr (fc vr (fn)))))) (sn)) h0 (fun y h => ?_)
  obtain ⟨carry, x, u1⟩ := y
  replace h := hI (carry, x, u1) h
  show Vc _ _ _ _ (envOf [(0, .sl 1 q0 k0 g0 uo ul), (1, eL (AV.int .u32) v), (4, .int .u64 carry), (7, .int .i64 (ul : Int)), (8, .int .i64 x)]) (stL (stX S [(q0, k0, .arr 1 (List.map (AV.int .u32) u1), g0)]) rg [])
  refine qZ (rZ (wZ rg (o_lss rfl rfl (nZ (qZ ?_)))))
  refine Vc.cond' rfl (fun hb => ?_) (fun hb => ?_)
  · replace h := h.1 hb
    refine Vc.skip' ?_
    refine qZ ?_
    refine Vc.blk ?_
    refine qZ (rZ (mvZ (.int .i64 x) rfl (asZ (.int .i64 x) rfl (nZ (qZ ?_)))))
    have hi := h.1
    replace h := h.2
    have hg := h.1
    replace h := h.2
    obtain ⟨r, hc, h⟩ := h
    refine Vc.drawn' mixed rg (usOf [(8, pc (.int .u64 r))]) (by kernel_rfl) ?_
    refine dP rfl rfl (o_move (v := .int .u64 carry) rfl (dP rfl rfl (o_move (v := .sl 1 q0 k0 g0 uo ul) rfl (dP rfl rfl (o_move (v := .int .i64 x) rfl (dP rfl rfl (o_idxRO td25 sz173 (by decide) rfl rfl hi (dL (E := ([(q0, k0)], [])) rfl rfl (by simp) (cfn) (o_loadR1 (atX hne0 hdx 0 rfl) sz173 ag173 rfl (hg) rfl (v := .int .u32 (at' u1 ((uo : Int) + x))) rfl (dP rfl rfl (o_conv td173 td179 rfl ?_)))))))))))
    refine dP rfl rfl (o_move (v := eL (AV.int .u32) v) rfl (dP rfl rfl (o_move (v := .int .i64 x) rfl ?_)))
    refine dC (vs := [eL (AV.int .u32) v, AV.int .i64 x]) rfl (vl' vr (vl' vr (vn))) (fun _ => natural_word_ctr hc (fun _ hr => ⟨by rw [hr], rfl⟩)) rfl ?_
    refine dP rfl rfl (o_add rfl rfl (dP rfl rfl (o_add rfl rfl (dP rfl rfl (o_assign (v := .int .u64 (IntKind.wrap .u64 (carry + (IntKind.wrap .u64 ((IntKind.wrap .u64 (at' u1 ((uo : Int) + x))) + r))))) rfl (dN (qZ (rZ (mvZ (.sl 1 q0 k0 g0 uo ul) rfl (mvZ (.int .i64 x) rfl (mvZ (.int .u64 (IntKind.wrap .u64 (carry + (IntKind.wrap .u64 ((IntKind.wrap .u64 (at' u1 ((uo : Int) + x))) + r))))) rfl ?_)))))))))))
    refine wZ rg (o_conv td179 td173 rfl (wZ rg (o_idxRO td25 sz173 (by decide) rfl rfl h.1 ?_)))
    have hi1 := h.1
    replace h := h.2
    refine wZ rg (o_storeR1 (atX hne0 hdx 0 rfl) sz173 (by decide) (x' := (IntKind.wrap .u32 (IntKind.wrap .u64 (carry + (IntKind.wrap .u64 ((IntKind.wrap .u64 (at' u1 ((uo : Int) + x))) + r)))))) (fun _ => rfl) rfl rfl (h.1) rfl rfl (setX hne0 hdx 0 rfl rfl) ?_)
    replace h := h.2
    refine nZ (rZ (mvZ (.int .u64 (IntKind.wrap .u64 (carry + (IntKind.wrap .u64 ((IntKind.wrap .u64 (at' u1 ((uo : Int) + x))) + r))))) rfl (wZ rg (o_shr rfl rfl (by decide) ?_))))
    obtain ⟨carry1, hs⟩ : ∃ qz, qz = ((IntKind.wrap .u64 (carry + (IntKind.wrap .u64 ((IntKind.wrap .u64 (at' u1 ((uo : Int) + x))) + r)))) / 2 ^ (Int.toNat 32)) := ⟨_, rfl⟩
    replace h := h carry1 hs
    refine wZ rg (o_assign (v := .int .u64 carry1) (by subst hs; rfl) (nZ (rZ (wZ rg (o_addG rfl rfl h.1 ?_)))))
    replace h := h.2
    refine mvZ (.int .i64 (x + 1)) rfl (nZ ?_)
    exact ⟨(carry1, (x + 1), (set' u1 ((uo : Int) + x) (IntKind.wrap .u32 (IntKind.wrap .u64 (carry + (IntKind.wrap .u64 ((IntKind.wrap .u64 (at' u1 ((uo : Int) + x))) + r))))))), (canon (fc vr (fc vr (fc vr (fc vr (fc vr (fn)))))) (sn)), h⟩
  replace h := h.2 hb
  refine Vc.exit' (exB_self ?_)
  refine res_nil ?_
  show Gives _ (.tuple []) _
  exact gives_out (hfr _ rfl) (VW.refl _) (hQ _ h)
theorem natural_right_ctr {a : List Int} {n : Int} {Q : List Int → Prop} {S : St} {R : AV → St → Prop} (h : natural_right_W a n Q) (hQ : ∀ r1, Q r1 → R (eL (AV.int .u32) r1) S) :
    Ctr Try.prog 176 [eL (AV.int .u32) a, AV.int .i64 n] S R := by
  unfold natural_right_W at h
  refine enterT Try.func176 rfl Try.ntmps176 Try.results176 (by kernel_rfl) (fun rg hrg => ?_)
  refine qZ (rZ (asZ .nil rfl (nZ (qZ (rZ (mvZ (eL (AV.int .u32) a) rfl (wZ rg (o_len td25 rfl (wZ rg (o_make td25 bts173 ok173 (enc := AV.int .u32) (z' := 0) zav173 (kk := 1) rfl rfl rfl h.1 (fun g1 => ?_)))))))))))
  replace h := h.2
  refine asZ (.sl 1 rg 9 g1 0 (Int.toNat (a.length : Int))) rfl (nZ (qZ (qZ (rZ (mvZ (eL (AV.int .u32) a) rfl (wZ rg (o_len td25 rfl (mvZ (.int .i64 0) rfl (nZ ?_)))))))))
  refine Vc.blk ?_
  obtain ⟨I, μ, h0, hI⟩ := h
  refine Vc.loop' (σ := (Int × (List Int))) (fun y => I y) (fun y => μ y) (fun y => envOf [(0, eL (AV.int .u32) a), (1, .int .i64 n), (5, .sl 1 rg 9 g1 0 y.2.length), (11, .int .i64 (a.length : Int)), (12, .int .i64 y.1)]) (fun y => stL S rg [(9, .arr 1 (List.map (AV.int .u32) y.2), g1)]) (0, (rep' (a.length : Int) 0)) (canon (fc vr (fc vr (fc (VW.slen (by first | rfl | omega | (simp only [go_sem] <;> omega))) (fc vr (fc vr (fn)))))) (sc rfl (sn))) h0 (fun y h => ?_)
  obtain ⟨x, out⟩ := y
  replace h := hI (x, out) h
  show Vc _ _ _ _ (envOf [(0, eL (AV.int .u32) a), (1, .int .i64 n), (5, .sl 1 rg 9 g1 0 out.length), (11, .int .i64 (a.length : Int)), (12, .int .i64 x)]) (stL S rg [(9, .arr 1 (List.map (AV.int .u32) out), g1)])
  refine qZ (rZ (wZ rg (o_lss rfl rfl (nZ (qZ ?_)))))
  refine Vc.cond' rfl (fun hb => ?_) (fun hb => ?_)
  · replace h := h.1 hb
    refine Vc.skip' ?_
    refine qZ ?_
    refine Vc.blk ?_
    refine qZ (rZ (mvZ (.int .i64 x) rfl (asZ (.int .i64 x) rfl (nZ (rZ (mvZ (.sl 1 rg 9 g1 0 out.length) rfl (mvZ (.int .i64 x) rfl (mvZ (eL (AV.int .u32) a) rfl (mvZ (.int .i64 x) rfl (wZ rg (o_call (us := [eL (AV.int .u32) a, AV.int .i64 x]) rfl (vl' vr (vl' vr (vn))) (natural_word_ctr h fun r h => (mvZ (eL (AV.int .u32) a) rfl (mvZ (.int .i64 x) rfl (wZ rg (o_addG rfl rfl h.1 ?_))))))))))))))))
    replace h := h.2
    refine wZ rg (o_call (us := [eL (AV.int .u32) a, AV.int .i64 (x + 1)]) rfl (vl' vr (vl' vr (vn))) (natural_word_ctr h fun r1 h => (wZ rg (o_shl rfl rfl (by decide) (wZ rg (o_or rfl rfl (mvZ (.int .i64 n) rfl (wZ rg (o_shr rfl rfl h.1 ?_)))))))))
    replace h := h.2
    refine wZ rg (o_conv td179 td173 rfl (wZ rg (o_idxR0 td25 sz173 (by decide) rfl rfl h.1 ?_)))
    have hi := h.1
    replace h := h.2
    refine wZ rg (o_storeR1 (atL (k := 9) rfl) sz173 (by decide) (x' := (IntKind.wrap .u32 ((bits .or .u64 r (IntKind.wrap .u64 (r1 * 2 ^ (Int.toNat 32)))) / 2 ^ (Int.toNat n)))) (fun _ => rfl) rfl rfl (lt_of hi (by first | rfl | omega | (simp only [go_sem] <;> omega))) rfl rfl setL (nZ (rZ (wZ rg (o_addG rfl rfl h.1 ?_)))))
    replace h := h.2
    refine mvZ (.int .i64 (x + 1)) rfl (nZ ?_)
    exact ⟨((x + 1), (set' out x (IntKind.wrap .u32 ((bits .or .u64 r (IntKind.wrap .u64 (r1 * 2 ^ (Int.toNat 32)))) / 2 ^ (Int.toNat n))))), (canon (fc vr (fc vr (fc (VW.slen (by first | rfl | omega | (simp only [go_sem] <;> omega))) (fc vr (fc vr (fn)))))) (sc rfl (sn))), h⟩
  replace h := h.2 hb
  refine Vc.exit' (exB_self ?_)
  refine qZ (rZ (mvZ (.sl 1 rg 9 g1 0 out.length) rfl (asZ (.sl 1 rg 9 g1 0 out.length) rfl (nZ ?_))))
  refine Vc.ret' ?_
  refine res_tmp (v := .sl 1 rg 9 g1 0 out.length) rfl (res_nil ?_)
  show Gives _ (.sl 1 rg 9 g1 0 out.length) _
  refine gives_freeze (k := 9) (xs := List.map (AV.int .u32) out) rfl (v' := eL (AV.int .u32) out) (frz_full rfl) ?_
  exact gives_out hrg (VW.refl _) (hQ _ h)
theorem natural_Div_ctr {a : List Int} {b : List Int} {Q : List Int → List Int → Option Int → Prop} {S : St} {R : AV → St → Prop} (h : natural_Div_W a b Q) (hQ : ∀ r1 r2 r3, Q r1 r2 r3 → R (.tuple [eL (AV.int .u32) r1, eL (AV.int .u32) r2, eErr 107 r3]) S) :
    Ctr Try.prog 153 [eL (AV.int .u32) a, eL (AV.int .u32) b] S R := by
  unfold natural_Div_W at h
  refine enterT Try.func153 rfl Try.ntmps153 Try.results153 (by kernel_rfl) (fun rg hrg => ?_)
  refine qZ (rZ (asZ .nil rfl (asZ .nil rfl (asZ .niface rfl (nZ (qZ (rZ (mvZ (eL (AV.int .u32) a) rfl (wZ rg (o_call (us := [eL (AV.int .u32) a]) rfl (vl' vr (vn)) (natural_trim_ctr h fun a1 h => (mvZ (eL (AV.int .u32) b) rfl (wZ rg (o_call (us := [eL (AV.int .u32) b]) rfl (vl' vr (vn)) (natural_trim_ctr h fun b1 h => (asZ (eL (AV.int .u32) a1) rfl (asZ (eL (AV.int .u32) b1) rfl (nZ (qZ ?_)))))))))))))))))))
  refine qZ (rZ (mvZ (eL (AV.int .u32) b1) rfl (wZ rg (o_len td25 rfl (wZ rg (o_eql rfl rfl (nZ ?_)))))))
  refine Vc.cond' rfl (fun hb => ?_) (fun hb => ?_)
  · replace h := h.1 hb
    refine qZ (rZ (wZ rg (o_iface (by rw [td107]; trivial) (v := .int .i64 8) rfl (asZ .nil rfl (asZ .nil rfl (asZ (.iface 107 (.int .i64 8)) rfl (nZ ?_)))))))
    refine Vc.ret' ?_
    refine res_tmp (v := .nil) rfl (res_tmp (v := .nil) rfl (res_tmp (v := .iface 107 (.int .i64 8)) rfl (res_nil ?_)))
    show Gives _ (.tuple [.nil, .nil, .iface 107 (.int .i64 8)]) _
    exact gives_out hrg (VW.tupL (vl' (VW.nilL) (vl' (VW.nilL) (vl' vr (vn))))) (hQ _ _ _ h)
  replace h := h.2 hb
  refine Vc.skip' ?_
  refine qZ (qZ (rZ (mvZ (eL (AV.int .u32) a1) rfl (mvZ (eL (AV.int .u32) b1) rfl (wZ rg (o_call (us := [eL (AV.int .u32) a1, eL (AV.int .u32) b1]) rfl (vl' vr (vl' vr (vn))) (natural_Cmp_ctr h fun r h => (wZ rg (o_lss rfl rfl (nZ ?_))))))))))
  refine Vc.cond' rfl (fun hb1 => ?_) (fun hb1 => ?_)
  · replace h := h.1 hb1
    refine qZ (rZ (mvZ (eL (AV.int .u32) a1) rfl (asZ .nil rfl (asZ (eL (AV.int .u32) a1) rfl (asZ .niface rfl (nZ ?_))))))
    refine Vc.ret' ?_
    refine res_tmp (v := .nil) rfl (res_tmp (v := eL (AV.int .u32) a1) rfl (res_tmp (v := .niface) rfl (res_nil ?_)))
    show Gives _ (.tuple [.nil, eL (AV.int .u32) a1, .niface]) _
    exact gives_out hrg (VW.tupL (vl' (VW.nilL) (vl' vr (vl' vr (vn))))) (hQ _ _ _ h)
  replace h := h.2 hb1
  refine Vc.skip' ?_
  refine qZ (qZ (rZ (mvZ (eL (AV.int .u32) b1) rfl (wZ rg (o_len td25 rfl (wZ rg (o_eql rfl rfl (nZ ?_))))))))
  refine Vc.cond' rfl (fun hb2 => ?_) (fun hb2 => ?_)
  · replace h := h.1 hb2
    refine qZ (rZ (mvZ (eL (AV.int .u32) a1) rfl (mvZ (eL (AV.int .u32) b1) rfl (wZ rg (o_idxL td25 sz173 (by decide) (fun _ => rfl) rfl rfl h.1 ?_)))))
    replace h := h.2
    refine wZ rg (o_loadI1 sz173 ag173 rfl rfl (v := .int .u32 (at' b1 0)) rfl (wZ rg (o_call (us := [eL (AV.int .u32) a1, AV.int .u32 (at' b1 0)]) rfl (vl' vr (vl' vr (vn))) (natural_small_ctr h fun r1 r2 h => (mvZ (.tuple [eL (AV.int .u32) r1, .int .u32 r2]) rfl (wZ rg (o_extract (v := eL (AV.int .u32) r1) rfl rfl rfl (wZ rg (o_extract (v := .int .u32 r2) rfl rfl rfl (asZ (eL (AV.int .u32) r1) rfl ?_))))))))))
    refine asZ (.int .u32 r2) rfl (nZ (qZ (rZ (mvZ (eL (AV.int .u32) r1) rfl (mvZ (.int .u32 r2) rfl (wZ rg (o_conv td173 td3 rfl (wZ rg (o_call (us := [AV.int .i64 (IntKind.wrap .i64 r2)]) rfl (vl' vr (vn)) (natural_Of_ctr h fun r3 h => (asZ (eL (AV.int .u32) r1) rfl (asZ (eL (AV.int .u32) r3) rfl (asZ .niface rfl (nZ ?_))))))))))))))
    refine Vc.ret' ?_
    refine res_tmp (v := eL (AV.int .u32) r1) rfl (res_tmp (v := eL (AV.int .u32) r3) rfl (res_tmp (v := .niface) rfl (res_nil ?_)))
    show Gives _ (.tuple [eL (AV.int .u32) r1, eL (AV.int .u32) r3, .niface]) _
    exact gives_out hrg (VW.tupL (vl' vr (vl' vr (vl' vr (vn))))) (hQ _ _ _ h)
  replace h := h.2 hb2
  refine Vc.skip' ?_
  refine qZ (rZ (mvZ (eL (AV.int .u32) b1) rfl (mvZ (eL (AV.int .u32) b1) rfl (wZ rg (o_len td25 rfl (wZ rg (o_subG rfl rfl h.1 ?_)))))))
  replace h := h.2
  refine wZ rg (o_idxL td25 sz173 (by decide) (fun _ => rfl) rfl rfl h.1 ?_)
  replace h := h.2
  refine wZ rg (o_loadI1 sz173 ag173 rfl rfl (v := .int .u32 (at' b1 ((b1.length : Int) - 1))) rfl (wZ rg (o_call (us := [AV.int .u32 (at' b1 ((b1.length : Int) - 1))]) rfl (vl' vr (vn)) (math_bits_LeadingZeros32_ctr h fun n h => (asZ (.int .i64 n) rfl (nZ (qZ (rZ (mvZ (eL (AV.int .u32) b1) rfl (mvZ (.int .i64 n) rfl ?_))))))))))
  refine wZ rg (o_call (us := [eL (AV.int .u32) b1, AV.int .i64 n]) rfl (vl' vr (vl' vr (vn))) (natural_left_ctr h fun r4 h => (mvZ (eL (AV.int .u32) b1) rfl (wZ rg (o_len td25 rfl (wZ rg (o_sliceL td25 sz173 (by decide) (fun _ => rfl) rfl (l := 0) (h := (b1.length : Int)) rfl rfl h.1 ?_)))))))
  replace h := h.2
  obtain ⟨v, hs⟩ : ∃ qz, qz = (sub' r4 0 (b1.length : Int)) := ⟨_, rfl⟩
  replace h := h v hs
  refine wZ rg (o_assign (v := eL (AV.int .u32) v) (by subst hs; rfl) (nZ (qZ (rZ (mvZ (eL (AV.int .u32) a1) rfl (mvZ (.int .i64 n) rfl (wZ rg (o_call (us := [eL (AV.int .u32) a1, AV.int .i64 n]) rfl (vl' vr (vl' vr (vn))) (natural_left_ctrO rg 61 h fun u g1 h => ?_)))))))))
  refine Wl.eqS setL ?_
  refine asZ (.sl 1 rg 61 g1 0 u.length) rfl (nZ (qZ ?_))
  have hg := h.1
  replace h := h.2
  have hg1 := h.1
  replace h := h.2
  have hg2 := h.1
  replace h := h.2
  have hg3 := h.1
  replace h := h.2
  refine Vc.drawn' mixed rg (fun _ => jcr2) (by kernel_rfl) ?_
  refine dP rfl rfl (o_move (v := eL (AV.int .u32) v) rfl (dP rfl rfl (o_move (v := eL (AV.int .u32) v) rfl (dP rfl rfl (o_len td25 rfl (dP rfl rfl (o_subG rfl rfl hg (dP rfl rfl (o_idxL td25 sz173 (by decide) (fun _ => rfl) rfl rfl hg1 (dP rfl rfl (o_loadI1 sz173 ag173 rfl rfl (v := .int .u32 (at' v ((v.length : Int) - 1))) rfl (dP rfl rfl (o_conv td173 td179 rfl ?_)))))))))))))
  refine dP rfl rfl (o_move (v := eL (AV.int .u32) v) rfl (dP rfl rfl (o_move (v := eL (AV.int .u32) v) rfl (dP rfl rfl (o_len td25 rfl (dP rfl rfl (o_subG rfl rfl hg2 (dP rfl rfl (o_idxL td25 sz173 (by decide) (fun _ => rfl) rfl rfl hg3 (dP rfl rfl (o_loadI1 sz173 ag173 rfl rfl (v := .int .u32 (at' v ((v.length : Int) - 2))) rfl (dP rfl rfl (o_conv td173 td179 rfl ?_)))))))))))))
  refine dP rfl rfl (o_assign (v := .int .u64 (IntKind.wrap .u64 (at' v ((v.length : Int) - 1)))) rfl (dP rfl rfl (o_assign (v := .int .u64 (IntKind.wrap .u64 (at' v ((v.length : Int) - 2)))) rfl (dN (qZ (rZ (mvZ (.sl 1 rg 61 g1 0 u.length) rfl (wZ rg (o_lenR td25 rfl (mvZ (eL (AV.int .u32) v) rfl (wZ rg (o_len td25 rfl (wZ rg (o_subG rfl rfl h.1 ?_))))))))))))))
  replace h := h.2
  refine wZ rg (o_make td25 bts173 ok173 (enc := AV.int .u32) (z' := 0) zav173 (kk := 1) rfl rfl rfl h.1 (fun g2 => ?_))
  replace h := h.2
  refine asZ (.sl 1 rg 81 g2 0 (Int.toNat ((u.length : Int) - (v.length : Int)))) rfl (nZ (qZ (qZ (rZ (mvZ (.sl 1 rg 81 g2 0 (Int.toNat ((u.length : Int) - (v.length : Int)))) rfl (wZ rg (o_lenR td25 rfl (wZ rg (o_subG rfl rfl h.1 ?_)))))))))
  replace h := h.2
  obtain ⟨j, hs1⟩ : ∃ qz, qz = (((Int.toNat ((u.length : Int) - (v.length : Int))) : Int) - 1) := ⟨_, rfl⟩
  replace h := h j hs1
  refine wZ rg (o_assign (v := .int .i64 j) (by subst hs1; rfl) (nZ ?_))
  refine Vc.blk ?_
  obtain ⟨I, μ, h0, hI⟩ := h
  refine Vc.loop' (σ := ((Int × (List Int) × (List Int)) × (Nat × Nat))) (fun y => I y.1) (fun y => μ y.1) (fun y => envOf [(4, .sl 1 rg 81 y.2.2 0 y.1.2.2.length), (9, .int .i64 n), (10, eL (AV.int .u32) v), (11, .sl 1 rg 61 y.2.1 0 y.1.2.1.length), (12, .int .u64 (IntKind.wrap .u64 (at' v ((v.length : Int) - 1)))), (13, .int .u64 (IntKind.wrap .u64 (at' v ((v.length : Int) - 2)))), (14, .int .i64 y.1.1)]) (fun y => stL S rg [(61, .arr 1 (List.map (AV.int .u32) y.1.2.1), y.2.1), (81, .arr 1 (List.map (AV.int .u32) y.1.2.2), y.2.2)]) ((j, u, (rep' ((u.length : Int) - (v.length : Int)) 0)), (g1, g2)) (canon (fc (VW.slen (by first | rfl | omega | (simp only [go_sem] <;> omega))) (fc vr (fc vr (fc vr (fc vr (fc vr (fc vr (fn)))))))) (sc rfl (sc rfl (sn)))) h0 (fun y h => ?_)
  obtain ⟨⟨j1, u1, q⟩, ⟨g3, g4⟩⟩ := y
  replace h := hI (j1, u1, q) h
  show Vc _ _ _ _ (envOf [(4, .sl 1 rg 81 g4 0 q.length), (9, .int .i64 n), (10, eL (AV.int .u32) v), (11, .sl 1 rg 61 g3 0 u1.length), (12, .int .u64 (IntKind.wrap .u64 (at' v ((v.length : Int) - 1)))), (13, .int .u64 (IntKind.wrap .u64 (at' v ((v.length : Int) - 2)))), (14, .int .i64 j1)]) (stL S rg [(61, .arr 1 (List.map (AV.int .u32) u1), g3), (81, .arr 1 (List.map (AV.int .u32) q), g4)])
  refine qZ (qZ (rZ (mvZ (.int .i64 j1) rfl (wZ rg (o_geq rfl rfl (nZ ?_))))))
  refine Vc.cond' rfl (fun hb3 => ?_) (fun hb3 => ?_)
  · replace h := h.1 hb3
    refine Vc.skip' ?_
    refine qZ ?_
    refine Vc.blk ?_
    refine qZ ?_
    have hg4 := h.1
    replace h := h.2
    have hi := h.1
    replace h := h.2
    have hg5 := h.1
    replace h := h.2
    have hg6 := h.1
    replace h := h.2
    have hi1 := h.1
    replace h := h.2
    refine Vc.drawn' mixed rg (fun _ => jcr2) (by kernel_rfl) ?_
    refine dP rfl rfl (o_move (v := .sl 1 rg 61 g3 0 u1.length) rfl (dP rfl rfl (o_move (v := .int .i64 j1) rfl (dP rfl rfl (o_move (v := eL (AV.int .u32) v) rfl (dP rfl rfl (o_len td25 rfl (dP rfl rfl (o_addG rfl rfl hg4 (dP rfl rfl (o_idxR0 td25 sz173 (by decide) rfl rfl hi ?_)))))))))))
    refine dL (E := ([(rg, 61)], [])) rfl rfl (by simp) (cfn) (o_loadR1 (atL (k := 61) rfl) sz173 ag173 rfl (lt_of hi (by first | rfl | omega | (simp only [go_sem] <;> omega))) rfl (v := .int .u32 (at' u1 (j1 + (v.length : Int)))) rfl (dP rfl rfl (o_conv td173 td179 rfl (dP rfl rfl (o_shl rfl rfl (by decide) (dP rfl rfl (o_move (v := .sl 1 rg 61 g3 0 u1.length) rfl ?_)))))))
    refine dP rfl rfl (o_move (v := .int .i64 j1) rfl (dP rfl rfl (o_move (v := eL (AV.int .u32) v) rfl (dP rfl rfl (o_len td25 rfl (dP rfl rfl (o_addG rfl rfl hg5 (dP rfl rfl (o_subG rfl rfl hg6 (dP rfl rfl (o_idxR0 td25 sz173 (by decide) rfl rfl hi1 ?_)))))))))))
    refine dL (E := ([(rg, 61)], [])) rfl rfl (by simp) (cfa (by simp [apartE]) (cfn)) (o_loadR1 (atL (k := 61) rfl) sz173 ag173 rfl (lt_of hi1 (by first | rfl | omega | (simp only [go_sem] <;> omega))) rfl (v := .int .u32 (at' u1 ((j1 + (v.length : Int)) - 1))) rfl (dP rfl rfl (o_conv td173 td179 rfl (dP rfl rfl (o_or rfl rfl ?_)))))
    refine dP rfl rfl (o_assign (v := .int .u64 (bits .or .u64 (IntKind.wrap .u64 ((IntKind.wrap .u64 (at' u1 (j1 + (v.length : Int)))) * 2 ^ (Int.toNat 32))) (IntKind.wrap .u64 (at' u1 ((j1 + (v.length : Int)) - 1))))) rfl (dN (qZ ?_)))
    have hg7 := h.1
    replace h := h.2
    have hg8 := h.1
    replace h := h.2
    refine Vc.drawn' mixed rg (fun _ => jcr2) (by kernel_rfl) ?_
    refine dP rfl rfl (o_move (v := .int .u64 (bits .or .u64 (IntKind.wrap .u64 ((IntKind.wrap .u64 (at' u1 (j1 + (v.length : Int)))) * 2 ^ (Int.toNat 32))) (IntKind.wrap .u64 (at' u1 ((j1 + (v.length : Int)) - 1))))) rfl (dP rfl rfl (o_move (v := .int .u64 (IntKind.wrap .u64 (at' v ((v.length : Int) - 1)))) rfl (dP rfl rfl (o_quo rfl rfl hg7 ?_)))))
    refine dP rfl rfl (o_move (v := .int .u64 (bits .or .u64 (IntKind.wrap .u64 ((IntKind.wrap .u64 (at' u1 (j1 + (v.length : Int)))) * 2 ^ (Int.toNat 32))) (IntKind.wrap .u64 (at' u1 ((j1 + (v.length : Int)) - 1))))) rfl (dP rfl rfl (o_move (v := .int .u64 (IntKind.wrap .u64 (at' v ((v.length : Int) - 1)))) rfl (dP rfl rfl (o_rem rfl rfl hg8 ?_)))))
    refine dP rfl rfl (o_assign (v := .int .u64 (IntKind.wrap .u64 (Int.tdiv (bits .or .u64 (IntKind.wrap .u64 ((IntKind.wrap .u64 (at' u1 (j1 + (v.length : Int)))) * 2 ^ (Int.toNat 32))) (IntKind.wrap .u64 (at' u1 ((j1 + (v.length : Int)) - 1)))) (IntKind.wrap .u64 (at' v ((v.length : Int) - 1)))))) rfl ?_)
    refine dP rfl rfl (o_assign (v := .int .u64 (Int.tmod (bits .or .u64 (IntKind.wrap .u64 ((IntKind.wrap .u64 (at' u1 (j1 + (v.length : Int)))) * 2 ^ (Int.toNat 32))) (IntKind.wrap .u64 (at' u1 ((j1 + (v.length : Int)) - 1)))) (IntKind.wrap .u64 (at' v ((v.length : Int) - 1))))) rfl (dN ?_))
    obtain ⟨J, h, hJ⟩ := h
    refine Vc.join' (σ := ((Int) × (Nat × Nat))) (fun y => J y.1) (fun y => envOf [(4, .sl 1 rg 81 y.2.2 0 q.length), (9, .int .i64 n), (10, eL (AV.int .u32) v), (11, .sl 1 rg 61 y.2.1 0 u1.length), (12, .int .u64 (IntKind.wrap .u64 (at' v ((v.length : Int) - 1)))), (13, .int .u64 (IntKind.wrap .u64 (at' v ((v.length : Int) - 2)))), (14, .int .i64 j1), (16, .int .u64 y.1)]) (fun y => stL S rg [(61, .arr 1 (List.map (AV.int .u32) u1), y.2.1), (81, .arr 1 (List.map (AV.int .u32) q), y.2.2)]) (fun y h => ?_) ?_
    · obtain ⟨guess, ⟨g5, g6⟩⟩ := y
      replace h := hJ guess h
      show Vc _ _ _ _ (envOf [(4, .sl 1 rg 81 g6 0 q.length), (9, .int .i64 n), (10, eL (AV.int .u32) v), (11, .sl 1 rg 61 g5 0 u1.length), (12, .int .u64 (IntKind.wrap .u64 (at' v ((v.length : Int) - 1)))), (13, .int .u64 (IntKind.wrap .u64 (at' v ((v.length : Int) - 2)))), (14, .int .i64 j1), (16, .int .u64 guess)]) (stL S rg [(61, .arr 1 (List.map (AV.int .u32) u1), g5), (81, .arr 1 (List.map (AV.int .u32) q), g6)])
      obtain ⟨J, h, hJ⟩ := h
      refine Vc.join' (σ := ((Int × (List Int)) × (Nat × Nat))) (fun y => J y.1) (fun y => envOf [(4, .sl 1 rg 81 y.2.2 0 q.length), (9, .int .i64 n), (10, eL (AV.int .u32) v), (11, .sl 1 rg 61 y.2.1 0 y.1.2.length), (12, .int .u64 (IntKind.wrap .u64 (at' v ((v.length : Int) - 1)))), (13, .int .u64 (IntKind.wrap .u64 (at' v ((v.length : Int) - 2)))), (14, .int .i64 j1), (16, .int .u64 y.1.1)]) (fun y => stL S rg [(61, .arr 1 (List.map (AV.int .u32) y.1.2), y.2.1), (81, .arr 1 (List.map (AV.int .u32) q), y.2.2)]) (fun y h => ?_) ?_
      · obtain ⟨⟨guess1, u2⟩, ⟨g7, g8⟩⟩ := y
        replace h := hJ (guess1, u2) h
        show Vc _ _ _ _ (envOf [(4, .sl 1 rg 81 g8 0 q.length), (9, .int .i64 n), (10, eL (AV.int .u32) v), (11, .sl 1 rg 61 g7 0 u2.length), (12, .int .u64 (IntKind.wrap .u64 (at' v ((v.length : Int) - 1)))), (13, .int .u64 (IntKind.wrap .u64 (at' v ((v.length : Int) - 2)))), (14, .int .i64 j1), (16, .int .u64 guess1)]) (stL S rg [(61, .arr 1 (List.map (AV.int .u32) u2), g7), (81, .arr 1 (List.map (AV.int .u32) q), g8)])
        refine rZ ?_
        refine mvZ (.sl 1 rg 81 g8 0 q.length) rfl (mvZ (.int .i64 j1) rfl (mvZ (.int .u64 guess1) rfl (wZ rg (o_conv td179 td173 rfl (wZ rg (o_idxR0 td25 sz173 (by decide) rfl rfl h.1 ?_))))))
        have hi2 := h.1
        replace h := h.2
        refine wZ rg (o_storeR1 (atL (k := 81) rfl) sz173 (by decide) (x' := (IntKind.wrap .u32 guess1)) (fun _ => rfl) rfl rfl (lt_of hi2 (by first | rfl | omega | (simp only [go_sem] <;> omega))) rfl rfl setL (nZ (rZ (mvZ (.int .i64 j1) rfl (wZ rg (o_subG rfl rfl h.1 ?_))))))
        replace h := h.2
        refine asZ (.int .i64 (j1 - 1)) rfl (nZ ?_)
        exact ⟨(((j1 - 1), u2, (set' q j1 (IntKind.wrap .u32 guess1))), (g7, g8)), (canon (fc (VW.slen (by first | rfl | omega | (simp only [go_sem] <;> omega))) (fc vr (fc vr (fc vr (fc vr (fc vr (fc vr (fn)))))))) (sc rfl (sc rfl (sn)))), h⟩
      refine qZ (rZ (mvZ (.sl 1 rg 61 g5 0 u1.length) rfl (mvZ (.int .i64 j1) rfl (mvZ (.int .i64 j1) rfl (mvZ (eL (AV.int .u32) v) rfl (wZ rg (o_len td25 rfl (wZ rg (o_addG rfl rfl h.1 ?_)))))))))
      replace h := h.2
      refine wZ rg (o_addG rfl rfl h.1 ?_)
      replace h := h.2
      refine wZ rg (o_sliceR td25 sz173 (by decide) rfl (l := j1) (h := ((j1 + (v.length : Int)) + 1)) rfl rfl h.1 ?_)
      replace h := h.2
      refine mvZ (eL (AV.int .u32) v) rfl (mvZ (.int .u64 guess) rfl (wZ rg (o_call (us := [.sl 1 rg 61 g5 (0 + Int.toNat j1) (Int.toNat ((j1 + (v.length : Int)) + 1) - Int.toNat j1), eL (AV.int .u32) v, AV.int .u64 guess]) rfl (vl' vr (vl' vr (vl' vr (vn)))) (ctrX (stX_same1 (atL (k := 61) rfl)) (natural_take_ctr h fun u3 r5 h => ?_)))))
      refine Wl.eqS setL ?_
      have hl := h.1
      replace h := h.2
      refine nZ ?_
      refine Vc.cond' rfl (fun hb4 => ?_) (fun hb4 => ?_)
      · replace h := h.1 hb4
        refine qZ (rZ (mvZ (.int .u64 guess) rfl (wZ rg (o_sub rfl rfl (asZ (.int .u64 (IntKind.wrap .u64 (guess - 1))) rfl (nZ (rZ (mvZ (.sl 1 rg 61 g5 0 u1.length) rfl (mvZ (.int .i64 j1) rfl (mvZ (.int .i64 j1) rfl (mvZ (eL (AV.int .u32) v) rfl (wZ rg (o_len td25 rfl (wZ rg (o_addG rfl rfl h.1 ?_)))))))))))))))
        replace h := h.2
        refine wZ rg (o_addG rfl rfl h.1 ?_)
        replace h := h.2
        refine wZ rg (o_sliceR td25 sz173 (by decide) rfl (l := j1) (h := ((j1 + (v.length : Int)) + 1)) rfl rfl h.1 ?_)
        replace h := h.2
        refine mvZ (eL (AV.int .u32) v) rfl (wZ rg (o_call (us := [.sl 1 rg 61 g5 (0 + Int.toNat j1) (Int.toNat ((j1 + (v.length : Int)) + 1) - Int.toNat j1), eL (AV.int .u32) v]) rfl (vl' vr (vl' vr (vn))) (ctrX (stX_same1 (atL (k := 61) rfl)) (natural_give_ctr h fun u4 h => ?_))))
        refine Wl.eqS setL ?_
        have hl1 := h.1
        replace h := h.2
        refine nZ ?_
        exact ⟨(((IntKind.wrap .u64 (guess - 1)), u4), (g5, g6)), (canon (fc vr (fc vr (fc vr (fc (VW.slen (by first | rfl | omega | (simp only [go_sem] <;> omega))) (fc vr (fc vr (fc vr (fc vr (fn))))))))) (sc rfl (sc rfl (sn)))), h⟩
      replace h := h.2 hb4
      refine Vc.skip' ?_
      exact ⟨((guess, u3), (g5, g6)), (canon (fc vr (fc vr (fc vr (fc (VW.slen (by first | rfl | omega | (simp only [go_sem] <;> omega))) (fc vr (fc vr (fc vr (fc vr (fn))))))))) (sc rfl (sc rfl (sn)))), h⟩
    refine Vc.blk ?_
    obtain ⟨I, μ, h0, hI⟩ := h
    refine Vc.loop' (σ := ((Int × Int) × (Nat × Nat))) (fun y => I y.1) (fun y => μ y.1) (fun y => envOf [(4, .sl 1 rg 81 y.2.2 0 q.length), (9, .int .i64 n), (10, eL (AV.int .u32) v), (11, .sl 1 rg 61 y.2.1 0 u1.length), (12, .int .u64 (IntKind.wrap .u64 (at' v ((v.length : Int) - 1)))), (13, .int .u64 (IntKind.wrap .u64 (at' v ((v.length : Int) - 2)))), (14, .int .i64 j1), (16, .int .u64 y.1.1), (17, .int .u64 y.1.2)]) (fun y => stL S rg [(61, .arr 1 (List.map (AV.int .u32) u1), y.2.1), (81, .arr 1 (List.map (AV.int .u32) q), y.2.2)]) (((IntKind.wrap .u64 (Int.tdiv (bits .or .u64 (IntKind.wrap .u64 ((IntKind.wrap .u64 (at' u1 (j1 + (v.length : Int)))) * 2 ^ (Int.toNat 32))) (IntKind.wrap .u64 (at' u1 ((j1 + (v.length : Int)) - 1)))) (IntKind.wrap .u64 (at' v ((v.length : Int) - 1))))), (Int.tmod (bits .or .u64 (IntKind.wrap .u64 ((IntKind.wrap .u64 (at' u1 (j1 + (v.length : Int)))) * 2 ^ (Int.toNat 32))) (IntKind.wrap .u64 (at' u1 ((j1 + (v.length : Int)) - 1)))) (IntKind.wrap .u64 (at' v ((v.length : Int) - 1))))), (g3, g4)) (canon (fc vr (fc vr (fc vr (fc vr (fc vr (fc vr (fc vr (fc vr (fc vr (fn)))))))))) (sc rfl (sc rfl (sn)))) h0 (fun y h => ?_)
    obtain ⟨⟨guess2, rest⟩, ⟨g9, g10⟩⟩ := y
    replace h := hI (guess2, rest) h
    show Vc _ _ _ _ (envOf [(4, .sl 1 rg 81 g10 0 q.length), (9, .int .i64 n), (10, eL (AV.int .u32) v), (11, .sl 1 rg 61 g9 0 u1.length), (12, .int .u64 (IntKind.wrap .u64 (at' v ((v.length : Int) - 1)))), (13, .int .u64 (IntKind.wrap .u64 (at' v ((v.length : Int) - 2)))), (14, .int .i64 j1), (16, .int .u64 guess2), (17, .int .u64 rest)]) (stL S rg [(61, .arr 1 (List.map (AV.int .u32) u1), g9), (81, .arr 1 (List.map (AV.int .u32) q), g10)])
    obtain ⟨J, h, hJ⟩ := h
    refine Vc.join' (σ := ((Unit) × (Nat × Nat))) (fun y => J y.1) (fun y => envOf [(4, .sl 1 rg 81 y.2.2 0 q.length), (9, .int .i64 n), (10, eL (AV.int .u32) v), (11, .sl 1 rg 61 y.2.1 0 u1.length), (12, .int .u64 (IntKind.wrap .u64 (at' v ((v.length : Int) - 1)))), (13, .int .u64 (IntKind.wrap .u64 (at' v ((v.length : Int) - 2)))), (14, .int .i64 j1), (16, .int .u64 guess2), (17, .int .u64 rest)]) (fun y => stL S rg [(61, .arr 1 (List.map (AV.int .u32) u1), y.2.1), (81, .arr 1 (List.map (AV.int .u32) q), y.2.2)]) (fun y h => ?_) ?_
    · obtain ⟨_, ⟨g11, g12⟩⟩ := y
      replace h := hJ () h
      show Vc _ _ _ _ (envOf [(4, .sl 1 rg 81 g12 0 q.length), (9, .int .i64 n), (10, eL (AV.int .u32) v), (11, .sl 1 rg 61 g11 0 u1.length), (12, .int .u64 (IntKind.wrap .u64 (at' v ((v.length : Int) - 1)))), (13, .int .u64 (IntKind.wrap .u64 (at' v ((v.length : Int) - 2)))), (14, .int .i64 j1), (16, .int .u64 guess2), (17, .int .u64 rest)]) (stL S rg [(61, .arr 1 (List.map (AV.int .u32) u1), g11), (81, .arr 1 (List.map (AV.int .u32) q), g12)])
      refine Vc.blk ?_
      refine qZ (rZ (mvZ (.int .u64 guess2) rfl (wZ rg (o_sub rfl rfl (asZ (.int .u64 (IntKind.wrap .u64 (guess2 - 1))) rfl (nZ (qZ (rZ (mvZ (.int .u64 rest) rfl (mvZ (.int .u64 (IntKind.wrap .u64 (at' v ((v.length : Int) - 1)))) rfl (wZ rg (o_add rfl rfl ?_))))))))))))
      obtain ⟨rest1, hs2⟩ : ∃ qz, qz = (IntKind.wrap .u64 (rest + (IntKind.wrap .u64 (at' v ((v.length : Int) - 1))))) := ⟨_, rfl⟩
      replace h := h rest1 hs2
      refine wZ rg (o_assign (v := .int .u64 rest1) (by subst hs2; rfl) (nZ (qZ (rZ (mvZ (.int .u64 rest1) rfl (wZ rg (o_geq rfl rfl (nZ ?_))))))))
      refine Vc.cond' rfl (fun hb5 => ?_) (fun hb5 => ?_)
      · replace h := h.1 hb5
        refine Vc.exit' (exB_ne rfl (exB_self ?_))
        exact ⟨((IntKind.wrap .u64 (guess2 - 1)), (g11, g12)), (canon (fc vr (fc vr (fc vr (fc vr (fc vr (fc vr (fc vr (fc vr (fn))))))))) (sc rfl (sc rfl (sn)))), h⟩
      replace h := h.2 hb5
      refine Vc.skip' ?_
      exact ⟨(((IntKind.wrap .u64 (guess2 - 1)), rest1), (g11, g12)), (canon (fc vr (fc vr (fc vr (fc vr (fc vr (fc vr (fc vr (fc vr (fc vr (fn)))))))))) (sc rfl (sc rfl (sn)))), h⟩
    refine qZ (rZ (mvZ (.int .u64 guess2) rfl (wZ rg (o_geq rfl rfl (mvZ (.bool (decide (4294967296 ≤ guess2))) rfl ?_)))))
    refine Wl.guard rfl rfl (fun hb6 => ?_) (fun hb6 => ?_)
    · replace h := h.2 hb6
      refine mvZ (.int .u64 guess2) rfl ?_
      refine Wl.guardT rfl rfl hb6 ?_
      refine mvZ (.int .u64 (IntKind.wrap .u64 (at' v ((v.length : Int) - 2)))) rfl ?_
      refine Wl.guardT rfl rfl hb6 ?_
      refine wZ rg (o_mul rfl rfl ?_)
      refine Wl.guardT rfl rfl hb6 ?_
      refine mvZ (.int .u64 rest) rfl ?_
      refine Wl.guardT rfl rfl hb6 ?_
      refine wZ rg (o_shl rfl rfl (by decide) ?_)
      refine Wl.guardT rfl rfl hb6 ?_
      refine mvZ (.sl 1 rg 61 g9 0 u1.length) rfl ?_
      refine Wl.guardT rfl rfl hb6 ?_
      refine mvZ (.int .i64 j1) rfl ?_
      refine Wl.guardT rfl rfl hb6 ?_
      refine mvZ (eL (AV.int .u32) v) rfl ?_
      refine Wl.guardT rfl rfl hb6 ?_
      refine wZ rg (o_len td25 rfl ?_)
      refine Wl.guardT rfl rfl hb6 ?_
      refine wZ rg (o_addG rfl rfl h.1 ?_)
      replace h := h.2
      refine Wl.guardT rfl rfl hb6 ?_
      refine wZ rg (o_subG rfl rfl h.1 ?_)
      replace h := h.2
      refine Wl.guardT rfl rfl hb6 ?_
      refine wZ rg (o_idxR0 td25 sz173 (by decide) rfl rfl h.1 ?_)
      have hi3 := h.1
      replace h := h.2
      refine Wl.guardT rfl rfl hb6 ?_
      refine wZ rg (o_loadR1 (atL (k := 61) rfl) sz173 ag173 rfl (lt_of hi3 (by first | rfl | omega | (simp only [go_sem] <;> omega))) rfl (v := .int .u32 (at' u1 ((j1 + (v.length : Int)) - 2))) rfl ?_)
      refine Wl.guardT rfl rfl hb6 ?_
      refine wZ rg (o_conv td173 td179 rfl ?_)
      refine Wl.guardT rfl rfl hb6 ?_
      refine wZ rg (o_or rfl rfl ?_)
      refine Wl.guardT rfl rfl hb6 ?_
      refine wZ rg (o_gtr rfl rfl (wZ rg (o_pickF rfl hb6 (v := .bool (decide ((bits .or .u64 (IntKind.wrap .u64 (rest * 2 ^ (Int.toNat 32))) (IntKind.wrap .u64 (at' u1 ((j1 + (v.length : Int)) - 2)))) < (IntKind.wrap .u64 (guess2 * (IntKind.wrap .u64 (at' v ((v.length : Int) - 2)))))))) rfl (nZ ?_))))
      refine Vc.cond' rfl (fun hb7 => ?_) (fun hb7 => ?_)
      · replace h := h.1 hb7
        refine Vc.skip' ?_
        exact ⟨((), (g9, g10)), (canon (fc vr (fc vr (fc vr (fc vr (fc vr (fc vr (fc vr (fc vr (fc vr (fn)))))))))) (sc rfl (sc rfl (sn)))), h⟩
      replace h := h.2 hb7
      refine Vc.exit' (exB_self ?_)
      exact ⟨(guess2, (g9, g10)), (canon (fc vr (fc vr (fc vr (fc vr (fc vr (fc vr (fc vr (fc vr (fn))))))))) (sc rfl (sc rfl (sn)))), h⟩
    replace h := h.1 hb6
    refine Wl.guardF rfl rfl hb6 rfl ?_
    refine Wl.guardF rfl rfl hb6 rfl ?_
    refine Wl.guardF rfl rfl hb6 rfl ?_
    refine Wl.guardF rfl rfl hb6 rfl ?_
    refine Wl.guardF rfl rfl hb6 rfl ?_
    refine Wl.guardF rfl rfl hb6 rfl ?_
    refine Wl.guardF rfl rfl hb6 rfl ?_
    refine Wl.guardF rfl rfl hb6 rfl ?_
    refine Wl.guardF rfl rfl hb6 rfl ?_
    refine Wl.guardF rfl rfl hb6 rfl ?_
    refine Wl.guardF rfl rfl hb6 rfl ?_
    refine Wl.guardF rfl rfl hb6 rfl ?_
    refine Wl.guardF rfl rfl hb6 rfl ?_
    refine Wl.guardF rfl rfl hb6 rfl ?_
    refine Wl.guardF rfl rfl hb6 rfl ?_
    refine wZ rg (o_pickT rfl hb6 (v := .bool true) rfl (nZ ?_))
    refine Vc.cond' rfl (fun _ => ?_) (fun hb => Bool.noConfusion hb)
    refine Vc.skip' ?_
    exact ⟨((), (g9, g10)), (canon (fc vr (fc vr (fc vr (fc vr (fc vr (fc vr (fc vr (fc vr (fc vr (fn)))))))))) (sc rfl (sc rfl (sn)))), h⟩
  replace h := h.2 hb3
  refine Vc.exit' (exB_self ?_)
  refine qZ (rZ (mvZ (.sl 1 rg 81 g4 0 q.length) rfl ?_))
  refine Wl.wk (canon_freeze (k := 81) (xs := List.map (AV.int .u32) q) rfl (es := [(9, .int .i64 n), (11, .sl 1 rg 61 g3 0 u1.length), (169, eL (AV.int .u32) q)]) (fc vr (fc (frz_ne rfl) (fc (frz_full rfl) (fn)))) (m := [(61, .arr 1 (List.map (AV.int .u32) u1), g3)]) (sc rfl (sn))) ?_
  refine wZ rg (o_call (us := [eL (AV.int .u32) q]) rfl (vl' vr (vn)) (natural_trim_ctr h fun q1 h => (mvZ (.sl 1 rg 61 g3 0 u1.length) rfl (mvZ (.int .i64 n) rfl ?_))))
  refine Wl.wk (canon_freeze (k := 61) (xs := List.map (AV.int .u32) u1) rfl (es := [(170, eL (AV.int .u32) q1), (171, eL (AV.int .u32) u1), (172, .int .i64 n)]) (fc vr (fc (frz_full rfl) (fc vr (fn)))) (m := []) (sn)) ?_
  refine wZ rg (o_call (us := [eL (AV.int .u32) u1, AV.int .i64 n]) rfl (vl' vr (vl' vr (vn))) (natural_right_ctr h fun r6 h => (wZ rg (o_call (us := [eL (AV.int .u32) r6]) rfl (vl' vr (vn)) (natural_trim_ctr h fun r7 h => (asZ (eL (AV.int .u32) q1) rfl (asZ (eL (AV.int .u32) r7) rfl (asZ .niface rfl (nZ ?_)))))))))
  refine Vc.ret' ?_
  refine res_tmp (v := eL (AV.int .u32) q1) rfl (res_tmp (v := eL (AV.int .u32) r7) rfl (res_tmp (v := .niface) rfl (res_nil ?_)))
  show Gives _ (.tuple [eL (AV.int .u32) q1, eL (AV.int .u32) r7, .niface]) _
  exact gives_out hrg (VW.tupL (vl' vr (vl' vr (vl' vr (vn))))) (hQ _ _ _ h)
theorem natural_Gcd_ctr {a : List Int} {b : List Int} {Q : List Int → Prop} {S : St} {R : AV → St → Prop} (h : natural_Gcd_W a b Q) (hQ : ∀ r1, Q r1 → R (eL (AV.int .u32) r1) S) :
    Ctr Try.prog 150 [eL (AV.int .u32) a, eL (AV.int .u32) b] S R := by
  unfold natural_Gcd_W at h
  refine enterT Try.func150 rfl Try.ntmps150 Try.results150 (by kernel_rfl) (fun rg hrg => ?_)
  refine qZ (rZ (asZ .nil rfl (nZ (qZ (rZ (mvZ (eL (AV.int .u32) a) rfl (wZ rg (o_call (us := [eL (AV.int .u32) a]) rfl (vl' vr (vn)) (natural_trim_ctr h fun a1 h => (mvZ (eL (AV.int .u32) b) rfl (wZ rg (o_call (us := [eL (AV.int .u32) b]) rfl (vl' vr (vn)) (natural_trim_ctr h fun b1 h => (asZ (eL (AV.int .u32) a1) rfl (asZ (eL (AV.int .u32) b1) rfl (nZ (qZ ?_)))))))))))))))))
  refine Vc.blk ?_
  obtain ⟨I, μ, h0, hI⟩ := h
  refine Vc.loop' (σ := ((List Int) × (List Int))) (fun y => I y) (fun y => μ y) (fun y => envOf [(0, eL (AV.int .u32) y.1), (1, eL (AV.int .u32) y.2)]) (fun y => stL S rg []) (a1, b1) (canon (fc vr (fc vr (fn))) (sn)) h0 (fun y h => ?_)
  obtain ⟨a2, b2⟩ := y
  replace h := hI (a2, b2) h
  show Vc _ _ _ _ (envOf [(0, eL (AV.int .u32) a2), (1, eL (AV.int .u32) b2)]) (stL S rg [])
  refine qZ (qZ (rZ (mvZ (eL (AV.int .u32) b2) rfl (wZ rg (o_len td25 rfl (wZ rg (o_gtr rfl rfl (nZ ?_))))))))
  refine Vc.cond' rfl (fun hb => ?_) (fun hb => ?_)
  · replace h := h.1 hb
    refine Vc.skip' ?_
    refine Vc.blk ?_
    refine qZ (rZ (mvZ (eL (AV.int .u32) a2) rfl (mvZ (eL (AV.int .u32) b2) rfl (wZ rg (o_call (us := [eL (AV.int .u32) a2, eL (AV.int .u32) b2]) rfl (vl' vr (vl' vr (vn))) (natural_Div_ctr h fun r r1 r2 h => (mvZ (.tuple [eL (AV.int .u32) r, eL (AV.int .u32) r1, eErr 107 r2]) rfl (wZ rg (o_extract (v := eL (AV.int .u32) r) rfl rfl rfl (wZ rg (o_extract (v := eL (AV.int .u32) r1) rfl rfl rfl ?_)))))))))))
    refine wZ rg (o_extract (v := eErr 107 r2) rfl rfl rfl (asZ (eL (AV.int .u32) r) rfl (asZ (eL (AV.int .u32) r1) rfl (asZ (eErr 107 r2) rfl (nZ (rZ (mvZ (eL (AV.int .u32) b2) rfl (mvZ (eL (AV.int .u32) r1) rfl (asZ (eL (AV.int .u32) b2) rfl (asZ (eL (AV.int .u32) r1) rfl (nZ ?_)))))))))))
    exact ⟨(b2, r1), (canon (fc vr (fc vr (fn))) (sn)), h⟩
  replace h := h.2 hb
  refine Vc.exit' (exB_self ?_)
  refine qZ (rZ (mvZ (eL (AV.int .u32) a2) rfl (asZ (eL (AV.int .u32) a2) rfl (nZ ?_))))
  refine Vc.ret' ?_
  refine res_tmp (v := eL (AV.int .u32) a2) rfl (res_nil ?_)
  show Gives _ (eL (AV.int .u32) a2) _
  exact gives_out hrg (VW.refl _) (hQ _ h)
theorem natural_Bits_ctr {a : List Int} {Q : Int → Prop} {S : St} {R : AV → St → Prop} (h : natural_Bits_W a Q) (hQ : ∀ r1, Q r1 → R (AV.int .i64 r1) S) :
    Ctr Try.prog 152 [eL (AV.int .u32) a] S R := by
  unfold natural_Bits_W at h
  refine enterT Try.func152 rfl Try.ntmps152 Try.results152 (by kernel_rfl) (fun rg hrg => ?_)
  refine qZ (rZ (asZ (.int .i64 0) rfl (nZ (qZ (qZ (rZ (mvZ (eL (AV.int .u32) a) rfl (wZ rg (o_len td25 rfl (wZ rg (o_subG rfl rfl h.1 ?_)))))))))))
  replace h := h.2
  refine asZ (.int .i64 ((a.length : Int) - 1)) rfl (nZ ?_)
  refine Vc.blk ?_
  obtain ⟨I, μ, h0, hI⟩ := h
  refine Vc.loop' (σ := (Int)) (fun y => I y) (fun y => μ y) (fun y => envOf [(0, eL (AV.int .u32) a), (3, .int .i64 y)]) (fun y => stL S rg []) ((a.length : Int) - 1) (canon (fc vr (fc vr (fn))) (sn)) h0 (fun i h => ?_)
  replace h := hI i h
  show Vc _ _ _ _ (envOf [(0, eL (AV.int .u32) a), (3, .int .i64 i)]) (stL S rg [])
  refine qZ (qZ (rZ (mvZ (.int .i64 i) rfl (wZ rg (o_geq rfl rfl (nZ ?_))))))
  refine Vc.cond' rfl (fun hb => ?_) (fun hb => ?_)
  · replace h := h.1 hb
    refine Vc.skip' ?_
    refine qZ ?_
    refine Vc.blk ?_
    refine qZ (rZ (mvZ (eL (AV.int .u32) a) rfl (mvZ (.int .i64 i) rfl (wZ rg (o_idxL td25 sz173 (by decide) (fun _ => rfl) rfl rfl h.1 ?_)))))
    replace h := h.2
    refine wZ rg (o_loadI1 sz173 ag173 rfl rfl (v := .int .u32 (at' a i)) rfl (wZ rg (o_neq rfl rfl (nZ ?_))))
    refine Vc.cond' rfl (fun hb1 => ?_) (fun hb1 => ?_)
    · replace h := h.1 hb1
      refine qZ (rZ (mvZ (.int .i64 i) rfl (wZ rg (o_mulG rfl rfl h.1 ?_))))
      replace h := h.2
      refine mvZ (eL (AV.int .u32) a) rfl (mvZ (.int .i64 i) rfl (wZ rg (o_idxL td25 sz173 (by decide) (fun _ => rfl) rfl rfl h.1 ?_)))
      replace h := h.2
      refine wZ rg (o_loadI1 sz173 ag173 rfl rfl (v := .int .u32 (at' a i)) rfl (wZ rg (o_call (us := [AV.int .u32 (at' a i)]) rfl (vl' vr (vn)) (math_bits_Len32_ctr h fun r h => (wZ rg (o_addG rfl rfl h.1 ?_))))))
      replace h := h.2
      refine asZ (.int .i64 ((32 * i) + r)) rfl (nZ ?_)
      refine Vc.ret' ?_
      refine res_tmp (v := .int .i64 ((32 * i) + r)) rfl (res_nil ?_)
      show Gives _ (.int .i64 ((32 * i) + r)) _
      exact gives_out hrg (VW.refl _) (hQ _ h)
    replace h := h.2 hb1
    refine Vc.skip' ?_
    refine rZ ?_
    refine mvZ (.int .i64 i) rfl (wZ rg (o_subG rfl rfl h.1 ?_))
    replace h := h.2
    refine asZ (.int .i64 (i - 1)) rfl (nZ ?_)
    exact ⟨(i - 1), (canon (fc vr (fc vr (fn))) (sn)), h⟩
  replace h := h.2 hb
  refine Vc.exit' (exB_self ?_)
  refine qZ (rZ (asZ (.int .i64 0) rfl (nZ ?_)))
  refine Vc.ret' ?_
  refine res_tmp (v := .int .i64 0) rfl (res_nil ?_)
  show Gives _ (.int .i64 0) _
  exact gives_out hrg (VW.refl _) (hQ _ h)
theorem natural_Mul_ctr {a : List Int} {b : List Int} {Q : List Int → Prop} {S : St} {R : AV → St → Prop} (h : natural_Mul_W a b Q) (hQ : ∀ r1, Q r1 → R (eL (AV.int .u32) r1) S) :
    Ctr Try.prog 108 [eL (AV.int .u32) a, eL (AV.int .u32) b] S R := by
  unfold natural_Mul_W at h
  refine enterT Try.func108 rfl Try.ntmps108 Try.results108 (by kernel_rfl) (fun rg hrg => ?_)
  refine qZ (rZ (asZ .nil rfl (nZ (qZ (rZ (mvZ (eL (AV.int .u32) a) rfl (wZ rg (o_len td25 rfl (mvZ (eL (AV.int .u32) b) rfl (wZ rg (o_len td25 rfl (wZ rg (o_addG rfl rfl h.1 ?_)))))))))))))
  replace h := h.2
  refine wZ rg (o_make td25 bts173 ok173 (enc := AV.int .u32) (z' := 0) zav173 (kk := 1) rfl rfl rfl h.1 (fun g1 => ?_))
  replace h := h.2
  refine asZ (.sl 1 rg 16 g1 0 (Int.toNat ((a.length : Int) + (b.length : Int)))) rfl (nZ (qZ (qZ (rZ (mvZ (eL (AV.int .u32) a) rfl (wZ rg (o_len td25 rfl (mvZ (.int .i64 0) rfl (nZ ?_)))))))))
  refine Vc.blk ?_
  obtain ⟨I, μ, h0, hI⟩ := h
  refine Vc.loop' (σ := (Int × (List Int))) (fun y => I y) (fun y => μ y) (fun y => envOf [(1, eL (AV.int .u32) b), (5, .sl 1 rg 16 g1 0 y.2.length), (17, eL (AV.int .u32) a), (18, .int .i64 (a.length : Int)), (19, .int .i64 y.1)]) (fun y => stL S rg [(16, .arr 1 (List.map (AV.int .u32) y.2), g1)]) (0, (rep' ((a.length : Int) + (b.length : Int)) 0)) (canon (fc vr (fc (VW.slen (by first | rfl | omega | (simp only [go_sem] <;> omega))) (fc vr (fc vr (fc vr (fn)))))) (sc rfl (sn))) h0 (fun y h => ?_)
  obtain ⟨x, out⟩ := y
  replace h := hI (x, out) h
  show Vc _ _ _ _ (envOf [(1, eL (AV.int .u32) b), (5, .sl 1 rg 16 g1 0 out.length), (17, eL (AV.int .u32) a), (18, .int .i64 (a.length : Int)), (19, .int .i64 x)]) (stL S rg [(16, .arr 1 (List.map (AV.int .u32) out), g1)])
  refine qZ (rZ (wZ rg (o_lss rfl rfl (nZ (qZ ?_)))))
  refine Vc.cond' rfl (fun hb => ?_) (fun hb => ?_)
  · replace h := h.1 hb
    refine Vc.skip' ?_
    refine qZ ?_
    refine Vc.blk ?_
    refine qZ (rZ (mvZ (.int .i64 x) rfl (wZ rg (o_idxL td25 sz173 (by decide) (fun _ => rfl) rfl rfl h.1 ?_))))
    replace h := h.2
    refine wZ rg (o_loadI1 sz173 ag173 rfl rfl (v := .int .u32 (at' a x)) rfl (asZ (.int .i64 x) rfl (asZ (.int .u32 (at' a x)) rfl (nZ (qZ (rZ (asZ (.int .u64 0) rfl (nZ (qZ (qZ (rZ (mvZ (eL (AV.int .u32) b) rfl (wZ rg (o_len td25 rfl (mvZ (.int .i64 0) rfl (nZ ?_))))))))))))))))
    refine Vc.blk ?_
    obtain ⟨I, μ, h0, hI⟩ := h
    refine Vc.loop' (σ := (Int × Int × (List Int))) (fun y => I y) (fun y => μ y) (fun y => envOf [(1, eL (AV.int .u32) b), (5, .sl 1 rg 16 g1 0 y.2.2.length), (6, .int .i64 x), (7, .int .u32 (at' a x)), (8, .int .u64 y.1), (17, eL (AV.int .u32) a), (18, .int .i64 (a.length : Int)), (19, .int .i64 x), (24, eL (AV.int .u32) b), (25, .int .i64 (b.length : Int)), (26, .int .i64 y.2.1)]) (fun y => stL S rg [(16, .arr 1 (List.map (AV.int .u32) y.2.2), g1)]) (0, 0, out) (canon (fc vr (fc vr (fc vr (fc vr (fc vr (fc vr (fc vr (fc vr (fc vr (fc vr (fc vr (fn)))))))))))) (sc rfl (sn))) h0 (fun y h => ?_)
    obtain ⟨carry, x1, out1⟩ := y
    replace h := hI (carry, x1, out1) h
    show Vc _ _ _ _ (envOf [(1, eL (AV.int .u32) b), (5, .sl 1 rg 16 g1 0 out1.length), (6, .int .i64 x), (7, .int .u32 (at' a x)), (8, .int .u64 carry), (17, eL (AV.int .u32) a), (18, .int .i64 (a.length : Int)), (19, .int .i64 x), (24, eL (AV.int .u32) b), (25, .int .i64 (b.length : Int)), (26, .int .i64 x1)]) (stL S rg [(16, .arr 1 (List.map (AV.int .u32) out1), g1)])
    refine qZ (rZ (wZ rg (o_lss rfl rfl (nZ (qZ ?_)))))
    refine Vc.cond' rfl (fun hb1 => ?_) (fun hb1 => ?_)
    · replace h := h.1 hb1
      refine Vc.skip' ?_
      refine qZ ?_
      refine Vc.blk ?_
      refine qZ (rZ (mvZ (.int .i64 x1) rfl (wZ rg (o_idxL td25 sz173 (by decide) (fun _ => rfl) rfl rfl h.1 ?_))))
      replace h := h.2
      refine wZ rg (o_loadI1 sz173 ag173 rfl rfl (v := .int .u32 (at' b x1)) rfl (asZ (.int .i64 x1) rfl (asZ (.int .u32 (at' b x1)) rfl (nZ (qZ (rZ (mvZ (.int .u64 carry) rfl (mvZ (.int .u32 (at' a x)) rfl (wZ rg (o_conv td173 td179 rfl (mvZ (.int .u32 (at' b x1)) rfl (wZ rg (o_conv td173 td179 rfl (wZ rg (o_mul rfl rfl (mvZ (.sl 1 rg 16 g1 0 out1.length) rfl (mvZ (.int .i64 x) rfl ?_)))))))))))))))))
      refine mvZ (.int .i64 x1) rfl (wZ rg (o_addG rfl rfl h.1 ?_))
      replace h := h.2
      refine wZ rg (o_idxR0 td25 sz173 (by decide) rfl rfl h.1 ?_)
      have hi := h.1
      replace h := h.2
      refine wZ rg (o_loadR1 (atL (k := 16) rfl) sz173 ag173 rfl (lt_of hi (by first | rfl | omega | (simp only [go_sem] <;> omega))) rfl (v := .int .u32 (at' out1 (x + x1))) rfl (wZ rg (o_conv td173 td179 rfl (wZ rg (o_add rfl rfl (wZ rg (o_add rfl rfl ?_)))))))
      obtain ⟨carry1, hs⟩ : ∃ qz, qz = (IntKind.wrap .u64 (carry + (IntKind.wrap .u64 ((IntKind.wrap .u64 ((IntKind.wrap .u64 (at' a x)) * (IntKind.wrap .u64 (at' b x1)))) + (IntKind.wrap .u64 (at' out1 (x + x1))))))) := ⟨_, rfl⟩
      replace h := h carry1 hs
      refine wZ rg (o_assign (v := .int .u64 carry1) (by subst hs; rfl) (nZ (qZ (rZ (mvZ (.sl 1 rg 16 g1 0 out1.length) rfl (mvZ (.int .i64 x) rfl (mvZ (.int .i64 x1) rfl (wZ rg (o_addG rfl rfl h.1 ?_)))))))))
      replace h := h.2
      refine mvZ (.int .u64 carry1) rfl (wZ rg (o_conv td179 td173 rfl (wZ rg (o_idxR0 td25 sz173 (by decide) rfl rfl h.1 ?_))))
      have hi1 := h.1
      replace h := h.2
      refine wZ rg (o_storeR1 (atL (k := 16) rfl) sz173 (by decide) (x' := (IntKind.wrap .u32 carry1)) (fun _ => rfl) rfl rfl (lt_of hi1 (by first | rfl | omega | (simp only [go_sem] <;> omega))) rfl rfl setL (nZ (rZ (mvZ (.int .u64 carry1) rfl (wZ rg (o_shr rfl rfl (by decide) (asZ (.int .u64 (carry1 / 2 ^ (Int.toNat 32))) rfl (nZ (rZ (wZ rg (o_addG rfl rfl h.1 ?_)))))))))))
      replace h := h.2
      refine mvZ (.int .i64 (x1 + 1)) rfl (nZ ?_)
      exact ⟨((carry1 / 2 ^ (Int.toNat 32)), (x1 + 1), (set' out1 (x + x1) (IntKind.wrap .u32 carry1))), (canon (fc vr (fc (VW.slen (by first | rfl | omega | (simp only [go_sem] <;> omega))) (fc vr (fc vr (fc vr (fc vr (fc vr (fc vr (fc vr (fc vr (fc vr (fn)))))))))))) (sc rfl (sn))), h⟩
    replace h := h.2 hb1
    refine Vc.exit' (exB_self ?_)
    refine rZ ?_
    refine mvZ (.sl 1 rg 16 g1 0 out1.length) rfl (mvZ (.int .i64 x) rfl (mvZ (eL (AV.int .u32) b) rfl (wZ rg (o_len td25 rfl (wZ rg (o_addG rfl rfl h.1 ?_))))))
    replace h := h.2
    refine mvZ (.int .u64 carry) rfl (wZ rg (o_conv td179 td173 rfl (wZ rg (o_idxR0 td25 sz173 (by decide) rfl rfl h.1 ?_))))
    have hi2 := h.1
    replace h := h.2
    refine wZ rg (o_storeR1 (atL (k := 16) rfl) sz173 (by decide) (x' := (IntKind.wrap .u32 carry)) (fun _ => rfl) rfl rfl (lt_of hi2 (by first | rfl | omega | (simp only [go_sem] <;> omega))) rfl rfl setL (nZ (rZ (wZ rg (o_addG rfl rfl h.1 ?_)))))
    replace h := h.2
    refine mvZ (.int .i64 (x + 1)) rfl (nZ ?_)
    exact ⟨((x + 1), (set' out1 (x + (b.length : Int)) (IntKind.wrap .u32 carry))), (canon (fc vr (fc (VW.slen (by first | rfl | omega | (simp only [go_sem] <;> omega))) (fc vr (fc vr (fc vr (fn)))))) (sc rfl (sn))), h⟩
  replace h := h.2 hb
  refine Vc.exit' (exB_self ?_)
  refine qZ (rZ (mvZ (.sl 1 rg 16 g1 0 out.length) rfl ?_))
  refine Wl.wk (canon_freeze (k := 16) (xs := List.map (AV.int .u32) out) rfl (es := [(65, eL (AV.int .u32) out)]) (fc (frz_full rfl) (fn)) (m := []) (sn)) ?_
  refine wZ rg (o_call (us := [eL (AV.int .u32) out]) rfl (vl' vr (vn)) (natural_trim_ctr h fun r h => (asZ (eL (AV.int .u32) r) rfl (nZ ?_))))
  refine Vc.ret' ?_
  refine res_tmp (v := eL (AV.int .u32) r) rfl (res_nil ?_)
  show Gives _ (eL (AV.int .u32) r) _
  exact gives_out hrg (VW.refl _) (hQ _ h)
theorem natural_Add_ctr {a : List Int} {b : List Int} {Q : List Int → Prop} {S : St} {R : AV → St → Prop} (h : natural_Add_W a b Q) (hQ : ∀ r1, Q r1 → R (eL (AV.int .u32) r1) S) :
    Ctr Try.prog 111 [eL (AV.int .u32) a, eL (AV.int .u32) b] S R := by
  unfold natural_Add_W at h
  refine enterT Try.func111 rfl Try.ntmps111 Try.results111 (by kernel_rfl) (fun rg hrg => ?_)
  refine qZ (rZ (asZ .nil rfl (nZ (qZ (rZ (mvZ (eL (AV.int .u32) a) rfl (wZ rg (o_len td25 rfl (mvZ (eL (AV.int .u32) b) rfl (wZ rg (o_len td25 rfl (wZ rg (o_max rfl rfl (wZ rg (o_addG rfl rfl h.1 ?_)))))))))))))))
  replace h := h.2
  refine wZ rg (o_make td25 bts173 ok173 (enc := AV.int .u32) (z' := 0) zav173 (kk := 1) rfl rfl rfl h.1 (fun g1 => ?_))
  replace h := h.2
  refine asZ (.sl 1 rg 14 g1 0 (Int.toNat ((max (a.length : Int) (b.length : Int)) + 1))) rfl (nZ (qZ (rZ (asZ (.int .u64 0) rfl (nZ (qZ (qZ (rZ (mvZ (.sl 1 rg 14 g1 0 (Int.toNat ((max (a.length : Int) (b.length : Int)) + 1))) rfl (wZ rg (o_lenR td25 rfl (mvZ (.int .i64 0) rfl (nZ ?_)))))))))))))
  refine Vc.blk ?_
  obtain ⟨I, μ, h0, hI⟩ := h
  refine Vc.loop' (σ := (Int × Int × (List Int))) (fun y => I y) (fun y => μ y) (fun y => envOf [(0, eL (AV.int .u32) a), (1, eL (AV.int .u32) b), (5, .sl 1 rg 14 g1 0 y.2.2.length), (6, .int .u64 y.1), (16, .int .i64 ((Int.toNat ((max (a.length : Int) (b.length : Int)) + 1)) : Int)), (17, .int .i64 y.2.1)]) (fun y => stL S rg [(14, .arr 1 (List.map (AV.int .u32) y.2.2), g1)]) (0, 0, (rep' ((max (a.length : Int) (b.length : Int)) + 1) 0)) (canon (fc vr (fc vr (fc (VW.slen (by first | rfl | omega | (simp only [go_sem] <;> omega))) (fc vr (fc vr (fc vr (fn))))))) (sc rfl (sn))) h0 (fun y h => ?_)
  obtain ⟨carry, x, out⟩ := y
  replace h := hI (carry, x, out) h
  show Vc _ _ _ _ (envOf [(0, eL (AV.int .u32) a), (1, eL (AV.int .u32) b), (5, .sl 1 rg 14 g1 0 out.length), (6, .int .u64 carry), (16, .int .i64 ((Int.toNat ((max (a.length : Int) (b.length : Int)) + 1)) : Int)), (17, .int .i64 x)]) (stL S rg [(14, .arr 1 (List.map (AV.int .u32) out), g1)])
  refine qZ (rZ (wZ rg (o_lss rfl rfl (nZ (qZ ?_)))))
  refine Vc.cond' rfl (fun hb => ?_) (fun hb => ?_)
  · replace h := h.1 hb
    refine Vc.skip' ?_
    refine qZ ?_
    refine Vc.blk ?_
    refine qZ (rZ (mvZ (.int .i64 x) rfl (asZ (.int .i64 x) rfl (nZ (qZ (rZ (mvZ (.int .u64 carry) rfl (mvZ (eL (AV.int .u32) a) rfl (mvZ (.int .i64 x) rfl (wZ rg (o_call (us := [eL (AV.int .u32) a, AV.int .i64 x]) rfl (vl' vr (vl' vr (vn))) (natural_word_ctr h fun r h => (mvZ (eL (AV.int .u32) b) rfl (mvZ (.int .i64 x) rfl ?_))))))))))))))
    refine wZ rg (o_call (us := [eL (AV.int .u32) b, AV.int .i64 x]) rfl (vl' vr (vl' vr (vn))) (natural_word_ctr h fun r1 h => (wZ rg (o_add rfl rfl (wZ rg (o_add rfl rfl ?_))))))
    obtain ⟨carry1, hs⟩ : ∃ qz, qz = (IntKind.wrap .u64 (carry + (IntKind.wrap .u64 (r + r1)))) := ⟨_, rfl⟩
    replace h := h carry1 hs
    refine wZ rg (o_assign (v := .int .u64 carry1) (by subst hs; rfl) (nZ (qZ (rZ (mvZ (.sl 1 rg 14 g1 0 out.length) rfl (mvZ (.int .i64 x) rfl (mvZ (.int .u64 carry1) rfl (wZ rg (o_conv td179 td173 rfl (wZ rg (o_idxR0 td25 sz173 (by decide) rfl rfl h.1 ?_)))))))))))
    have hi := h.1
    replace h := h.2
    refine wZ rg (o_storeR1 (atL (k := 14) rfl) sz173 (by decide) (x' := (IntKind.wrap .u32 carry1)) (fun _ => rfl) rfl rfl (lt_of hi (by first | rfl | omega | (simp only [go_sem] <;> omega))) rfl rfl setL (nZ (rZ (mvZ (.int .u64 carry1) rfl (wZ rg (o_shr rfl rfl (by decide) (asZ (.int .u64 (carry1 / 2 ^ (Int.toNat 32))) rfl (nZ (rZ (wZ rg (o_addG rfl rfl h.1 ?_)))))))))))
    replace h := h.2
    refine mvZ (.int .i64 (x + 1)) rfl (nZ ?_)
    exact ⟨((carry1 / 2 ^ (Int.toNat 32)), (x + 1), (set' out x (IntKind.wrap .u32 carry1))), (canon (fc vr (fc vr (fc (VW.slen (by first | rfl | omega | (simp only [go_sem] <;> omega))) (fc vr (fc vr (fc vr (fn))))))) (sc rfl (sn))), h⟩
  replace h := h.2 hb
  refine Vc.exit' (exB_self ?_)
  refine qZ (rZ (mvZ (.sl 1 rg 14 g1 0 out.length) rfl ?_))
  refine Wl.wk (canon_freeze (k := 14) (xs := List.map (AV.int .u32) out) rfl (es := [(37, eL (AV.int .u32) out)]) (fc (frz_full rfl) (fn)) (m := []) (sn)) ?_
  refine wZ rg (o_call (us := [eL (AV.int .u32) out]) rfl (vl' vr (vn)) (natural_trim_ctr h fun r2 h => (asZ (eL (AV.int .u32) r2) rfl (nZ ?_))))
  refine Vc.ret' ?_
  refine res_tmp (v := eL (AV.int .u32) r2) rfl (res_nil ?_)
  show Gives _ (eL (AV.int .u32) r2) _
  exact gives_out hrg (VW.refl _) (hQ _ h)
theorem natural_Sub_ctr {a : List Int} {b : List Int} {Q : List Int → Option Int → Prop} {S : St} {R : AV → St → Prop} (h : natural_Sub_W a b Q) (hQ : ∀ r1 r2, Q r1 r2 → R (.tuple [eL (AV.int .u32) r1, eErr 107 r2]) S) :
    Ctr Try.prog 112 [eL (AV.int .u32) a, eL (AV.int .u32) b] S R := by
  unfold natural_Sub_W at h
  refine enterT Try.func112 rfl Try.ntmps112 Try.results112 (by kernel_rfl) (fun rg hrg => ?_)
  refine qZ (rZ (asZ .nil rfl (asZ .niface rfl (nZ (qZ (qZ (rZ (mvZ (eL (AV.int .u32) a) rfl (mvZ (eL (AV.int .u32) b) rfl (wZ rg (o_call (us := [eL (AV.int .u32) a, eL (AV.int .u32) b]) rfl (vl' vr (vl' vr (vn))) (natural_Cmp_ctr h fun r h => (wZ rg (o_lss rfl rfl (nZ ?_)))))))))))))))
  refine Vc.cond' rfl (fun hb => ?_) (fun hb => ?_)
  · replace h := h.1 hb
    refine qZ (rZ (wZ rg (o_iface (by rw [td107]; trivial) (v := .int .i64 3) rfl (asZ .nil rfl (asZ (.iface 107 (.int .i64 3)) rfl (nZ ?_))))))
    refine Vc.ret' ?_
    refine res_tmp (v := .nil) rfl (res_tmp (v := .iface 107 (.int .i64 3)) rfl (res_nil ?_))
    show Gives _ (.tuple [.nil, .iface 107 (.int .i64 3)]) _
    exact gives_out hrg (VW.tupL (vl' (VW.nilL) (vl' vr (vn)))) (hQ _ _ h)
  replace h := h.2 hb
  refine Vc.skip' ?_
  refine qZ (rZ (mvZ (eL (AV.int .u32) a) rfl (wZ rg (o_len td25 rfl (wZ rg (o_make td25 bts173 ok173 (enc := AV.int .u32) (z' := 0) zav173 (kk := 1) rfl rfl rfl h.1 (fun g1 => ?_)))))))
  replace h := h.2
  refine asZ (.sl 1 rg 17 g1 0 (Int.toNat (a.length : Int))) rfl (nZ (qZ (rZ (asZ (.int .u64 0) rfl (nZ (qZ (qZ (rZ (mvZ (.sl 1 rg 17 g1 0 (Int.toNat (a.length : Int))) rfl (wZ rg (o_lenR td25 rfl (mvZ (.int .i64 0) rfl (nZ ?_)))))))))))))
  refine Vc.blk ?_
  obtain ⟨I, μ, h0, hI⟩ := h
  refine Vc.loop' (σ := (Int × Int × (List Int))) (fun y => I y) (fun y => μ y) (fun y => envOf [(0, eL (AV.int .u32) a), (1, eL (AV.int .u32) b), (6, .sl 1 rg 17 g1 0 y.2.2.length), (7, .int .u64 y.1), (19, .int .i64 ((Int.toNat (a.length : Int)) : Int)), (20, .int .i64 y.2.1)]) (fun y => stL S rg [(17, .arr 1 (List.map (AV.int .u32) y.2.2), g1)]) (0, 0, (rep' (a.length : Int) 0)) (canon (fc vr (fc vr (fc (VW.slen (by first | rfl | omega | (simp only [go_sem] <;> omega))) (fc vr (fc vr (fc vr (fn))))))) (sc rfl (sn))) h0 (fun y h => ?_)
  obtain ⟨borrow, x, out⟩ := y
  replace h := hI (borrow, x, out) h
  show Vc _ _ _ _ (envOf [(0, eL (AV.int .u32) a), (1, eL (AV.int .u32) b), (6, .sl 1 rg 17 g1 0 out.length), (7, .int .u64 borrow), (19, .int .i64 ((Int.toNat (a.length : Int)) : Int)), (20, .int .i64 x)]) (stL S rg [(17, .arr 1 (List.map (AV.int .u32) out), g1)])
  refine qZ (rZ (wZ rg (o_lss rfl rfl (nZ (qZ ?_)))))
  refine Vc.cond' rfl (fun hb1 => ?_) (fun hb1 => ?_)
  · replace h := h.1 hb1
    refine Vc.skip' ?_
    refine qZ ?_
    refine Vc.blk ?_
    refine qZ (rZ (mvZ (.int .i64 x) rfl (asZ (.int .i64 x) rfl (nZ (qZ (rZ (mvZ (eL (AV.int .u32) a) rfl (mvZ (.int .i64 x) rfl (wZ rg (o_call (us := [eL (AV.int .u32) a, AV.int .i64 x]) rfl (vl' vr (vl' vr (vn))) (natural_word_ctr h fun r1 h => (mvZ (eL (AV.int .u32) b) rfl (mvZ (.int .i64 x) rfl ?_)))))))))))))
    refine wZ rg (o_call (us := [eL (AV.int .u32) b, AV.int .i64 x]) rfl (vl' vr (vl' vr (vn))) (natural_word_ctr h fun r2 h => (wZ rg (o_sub rfl rfl (mvZ (.int .u64 borrow) rfl (wZ rg (o_sub rfl rfl ?_)))))))
    obtain ⟨d, hs⟩ : ∃ qz, qz = (IntKind.wrap .u64 ((IntKind.wrap .u64 (r1 - r2)) - borrow)) := ⟨_, rfl⟩
    replace h := h d hs
    refine wZ rg (o_assign (v := .int .u64 d) (by subst hs; rfl) (nZ (qZ (rZ (mvZ (.sl 1 rg 17 g1 0 out.length) rfl (mvZ (.int .i64 x) rfl (mvZ (.int .u64 d) rfl (wZ rg (o_conv td179 td173 rfl (wZ rg (o_idxR0 td25 sz173 (by decide) rfl rfl h.1 ?_)))))))))))
    have hi := h.1
    replace h := h.2
    refine wZ rg (o_storeR1 (atL (k := 17) rfl) sz173 (by decide) (x' := (IntKind.wrap .u32 d)) (fun _ => rfl) rfl rfl (lt_of hi (by first | rfl | omega | (simp only [go_sem] <;> omega))) rfl rfl setL (nZ (rZ (mvZ (.int .u64 d) rfl (wZ rg (o_shr rfl rfl (by decide) (asZ (.int .u64 (d / 2 ^ (Int.toNat 63))) rfl (nZ (rZ (wZ rg (o_addG rfl rfl h.1 ?_)))))))))))
    replace h := h.2
    refine mvZ (.int .i64 (x + 1)) rfl (nZ ?_)
    exact ⟨((d / 2 ^ (Int.toNat 63)), (x + 1), (set' out x (IntKind.wrap .u32 d))), (canon (fc vr (fc vr (fc (VW.slen (by first | rfl | omega | (simp only [go_sem] <;> omega))) (fc vr (fc vr (fc vr (fn))))))) (sc rfl (sn))), h⟩
  replace h := h.2 hb1
  refine Vc.exit' (exB_self ?_)
  refine qZ (rZ (mvZ (.sl 1 rg 17 g1 0 out.length) rfl ?_))
  refine Wl.wk (canon_freeze (k := 17) (xs := List.map (AV.int .u32) out) rfl (es := [(40, eL (AV.int .u32) out)]) (fc (frz_full rfl) (fn)) (m := []) (sn)) ?_
  refine wZ rg (o_call (us := [eL (AV.int .u32) out]) rfl (vl' vr (vn)) (natural_trim_ctr h fun r3 h => (asZ (eL (AV.int .u32) r3) rfl (asZ .niface rfl (nZ ?_)))))
  refine Vc.ret' ?_
  refine res_tmp (v := eL (AV.int .u32) r3) rfl (res_tmp (v := .niface) rfl (res_nil ?_))
  show Gives _ (.tuple [eL (AV.int .u32) r3, .niface]) _
  exact gives_out hrg (VW.tupL (vl' vr (vl' vr (vn)))) (hQ _ _ h)
theorem ref01_Bits_ctr {a : List Int} {Q : Int → Prop} {S : St} {R : AV → St → Prop} (h : ref01_Bits_W a Q) (hQ : ∀ r1, Q r1 → R (AV.int .i64 r1) S) :
    Ctr Try.prog 164 [eL (AV.int .u32) a] S R := by
  unfold ref01_Bits_W at h
  refine enterT Try.func164 rfl Try.ntmps164 Try.results164 (by kernel_rfl) (fun rg hrg => ?_)
  refine qZ (rZ (asZ (.int .i64 0) rfl (nZ (qZ (rZ (asZ (.int .i64 0) rfl (nZ (qZ (qZ (rZ (mvZ (eL (AV.int .u32) a) rfl (wZ rg (o_len td25 rfl (mvZ (.int .i64 0) rfl (nZ ?_)))))))))))))))
  refine Vc.blk ?_
  obtain ⟨I, μ, h0, hI⟩ := h
  refine Vc.loop' (σ := (Int × Int)) (fun y => I y) (fun y => μ y) (fun y => envOf [(3, .int .i64 y.1), (7, eL (AV.int .u32) a), (8, .int .i64 (a.length : Int)), (9, .int .i64 y.2)]) (fun y => stL S rg []) (0, 0) (canon (fc vr (fc vr (fc vr (fc vr (fn))))) (sn)) h0 (fun y h => ?_)
  obtain ⟨n, x⟩ := y
  replace h := hI (n, x) h
  show Vc _ _ _ _ (envOf [(3, .int .i64 n), (7, eL (AV.int .u32) a), (8, .int .i64 (a.length : Int)), (9, .int .i64 x)]) (stL S rg [])
  refine qZ (rZ (wZ rg (o_lss rfl rfl (nZ (qZ ?_)))))
  refine Vc.cond' rfl (fun hb => ?_) (fun hb => ?_)
  · replace h := h.1 hb
    refine Vc.skip' ?_
    refine qZ ?_
    refine Vc.blk ?_
    refine qZ (rZ (mvZ (.int .i64 x) rfl (wZ rg (o_idxL td25 sz173 (by decide) (fun _ => rfl) rfl rfl h.1 ?_))))
    replace h := h.2
    refine wZ rg (o_loadI1 sz173 ag173 rfl rfl (v := .int .u32 (at' a x)) rfl (asZ (.int .i64 x) rfl (asZ (.int .u32 (at' a x)) rfl (nZ (qZ (rZ (mvZ (.int .i64 0) rfl (nZ ?_))))))))
    refine Vc.blk ?_
    obtain ⟨I, μ, h0, hI⟩ := h
    refine Vc.loop' (σ := (Int × Int)) (fun y => I y) (fun y => μ y) (fun y => envOf [(3, .int .i64 y.1), (4, .int .i64 x), (5, .int .u32 (at' a x)), (7, eL (AV.int .u32) a), (8, .int .i64 (a.length : Int)), (9, .int .i64 x), (14, .int .i64 y.2)]) (fun y => stL S rg []) (n, 0) (canon (fc vr (fc vr (fc vr (fc vr (fc vr (fc vr (fc vr (fn)))))))) (sn)) h0 (fun y h => ?_)
    obtain ⟨n1, x1⟩ := y
    replace h := hI (n1, x1) h
    show Vc _ _ _ _ (envOf [(3, .int .i64 n1), (4, .int .i64 x), (5, .int .u32 (at' a x)), (7, eL (AV.int .u32) a), (8, .int .i64 (a.length : Int)), (9, .int .i64 x), (14, .int .i64 x1)]) (stL S rg [])
    refine qZ (rZ (wZ rg (o_lss rfl rfl (nZ (qZ ?_)))))
    refine Vc.cond' rfl (fun hb1 => ?_) (fun hb1 => ?_)
    · replace h := h.1 hb1
      refine Vc.skip' ?_
      refine qZ ?_
      refine Vc.blk ?_
      refine qZ (rZ (mvZ (.int .i64 x1) rfl (asZ (.int .i64 x1) rfl (nZ (qZ (rZ (mvZ (.int .u32 (at' a x)) rfl (mvZ (.int .i64 x1) rfl (wZ rg (o_shr rfl rfl h.1 ?_))))))))))
      replace h := h.2
      refine wZ rg (o_and rfl rfl (wZ rg (o_eql rfl rfl (nZ ?_))))
      refine Vc.cond' rfl (fun hb2 => ?_) (fun hb2 => ?_)
      · replace h := h.1 hb2
        refine rZ ?_
        refine mvZ (.int .i64 x) rfl (wZ rg (o_mulG rfl rfl h.1 ?_))
        replace h := h.2
        refine mvZ (.int .i64 x1) rfl (wZ rg (o_addG rfl rfl h.1 ?_))
        replace h := h.2
        refine wZ rg (o_addG rfl rfl h.1 ?_)
        replace h := h.2
        refine asZ (.int .i64 (((32 * x) + x1) + 1)) rfl (nZ (rZ (wZ rg (o_addG rfl rfl h.1 ?_))))
        replace h := h.2
        refine mvZ (.int .i64 (x1 + 1)) rfl (nZ ?_)
        exact ⟨((((32 * x) + x1) + 1), (x1 + 1)), (canon (fc vr (fc vr (fc vr (fc vr (fc vr (fc vr (fc vr (fn)))))))) (sn)), h⟩
      replace h := h.2 hb2
      refine Vc.skip' ?_
      refine rZ ?_
      refine wZ rg (o_addG rfl rfl h.1 ?_)
      replace h := h.2
      refine mvZ (.int .i64 (x1 + 1)) rfl (nZ ?_)
      exact ⟨(n1, (x1 + 1)), (canon (fc vr (fc vr (fc vr (fc vr (fc vr (fc vr (fc vr (fn)))))))) (sn)), h⟩
    replace h := h.2 hb1
    refine Vc.exit' (exB_self ?_)
    refine rZ ?_
    refine wZ rg (o_addG rfl rfl h.1 ?_)
    replace h := h.2
    refine mvZ (.int .i64 (x + 1)) rfl (nZ ?_)
    exact ⟨(n1, (x + 1)), (canon (fc vr (fc vr (fc vr (fc vr (fn))))) (sn)), h⟩
  replace h := h.2 hb
  refine Vc.exit' (exB_self ?_)
  refine qZ (rZ (mvZ (.int .i64 n) rfl (asZ (.int .i64 n) rfl (nZ ?_))))
  refine Vc.ret' ?_
  refine res_tmp (v := .int .i64 n) rfl (res_nil ?_)
  show Gives _ (.int .i64 n) _
  exact gives_out hrg (VW.refl _) (hQ _ h)
theorem ref01_Trim_ctr {a : List Int} {Q : List Int → Prop} {S : St} {R : AV → St → Prop} (h : ref01_Trim_W a Q) (hQ : ∀ r1, Q r1 → R (eL (AV.int .u32) r1) S) :
    Ctr Try.prog 163 [eL (AV.int .u32) a] S R := by
  unfold ref01_Trim_W at h
  refine enterT Try.func163 rfl Try.ntmps163 Try.results163 (by kernel_rfl) (fun rg hrg => ?_)
  refine qZ (rZ (asZ .nil rfl (nZ (qZ (rZ (mvZ (eL (AV.int .u32) a) rfl (wZ rg (o_len td25 rfl (asZ (.int .i64 (a.length : Int)) rfl (nZ ?_))))))))))
  obtain ⟨J, h, hJ⟩ := h
  refine Vc.join' (σ := (Int)) (fun y => J y) (fun y => envOf [(0, eL (AV.int .u32) a), (3, .int .i64 y)]) (fun y => stL S rg []) (fun n h => ?_) ?_
  · replace h := hJ n h
    show Vc _ _ _ _ (envOf [(0, eL (AV.int .u32) a), (3, .int .i64 n)]) (stL S rg [])
    refine qZ (rZ (wZ rg (o_bslice td25 ok173 zav173 (es := []) rfl (kk := 1) rfl rfl rfl rfl rfl rfl (fun g1 => (mvZ (eL (AV.int .u32) a) rfl (mvZ (.int .i64 n) rfl (wZ rg (o_sliceL td25 sz173 (by decide) (fun _ => rfl) rfl (l := 0) (h := n) rfl rfl h.1 ?_))))))))
    replace h := h.2
    refine wZ rg (o_appR td25 bts173 ok173 zav173 (es := []) (xs := (sub' a 0 n)) (enc := AV.int .u32) (atL (k := 18) rfl) (by first | rfl | omega | (simp only [go_sem] <;> omega)) (rfl) (kk := 1) rfl rfl (fun _ => rfl) (fun _ => rfl) h.1 rfl (fun _ => setL) (fun g2 => ?_))
    replace h := h.2
    refine asZ (.sl 1 rg 18 g2 0 (([] ++ (sub' a 0 n)).length)) rfl (nZ ?_)
    refine Vc.ret' ?_
    refine res_tmp (v := .sl 1 rg 18 g2 0 (([] ++ (sub' a 0 n)).length)) rfl (res_nil ?_)
    show Gives _ (.sl 1 rg 18 g2 0 (([] ++ (sub' a 0 n)).length)) _
    refine gives_freeze (k := 18) (xs := List.map (AV.int .u32) ([] ++ (sub' a 0 n))) rfl (v' := eL (AV.int .u32) ([] ++ (sub' a 0 n))) (frz_full rfl) ?_
    exact gives_out hrg (VW.refl _) (hQ _ h)
  refine Vc.blk ?_
  obtain ⟨I, μ, h0, hI⟩ := h
  refine Vc.loop' (σ := (Int)) (fun y => I y) (fun y => μ y) (fun y => envOf [(0, eL (AV.int .u32) a), (3, .int .i64 y)]) (fun y => stL S rg []) (a.length : Int) (canon (fc vr (fc vr (fn))) (sn)) h0 (fun n1 h => ?_)
  replace h := hI n1 h
  show Vc _ _ _ _ (envOf [(0, eL (AV.int .u32) a), (3, .int .i64 n1)]) (stL S rg [])
  refine qZ (qZ (rZ (mvZ (.int .i64 n1) rfl (wZ rg (o_gtr rfl rfl (mvZ (.bool (decide (0 < n1))) rfl ?_))))))
  refine Wl.guard rfl rfl (fun hb => ?_) (fun hb => ?_)
  · replace h := h.1 hb
    refine mvZ (eL (AV.int .u32) a) rfl ?_
    refine Wl.guardT rfl rfl hb ?_
    refine mvZ (.int .i64 n1) rfl ?_
    refine Wl.guardT rfl rfl hb ?_
    refine wZ rg (o_subG rfl rfl h.1 ?_)
    replace h := h.2
    refine Wl.guardT rfl rfl hb ?_
    refine wZ rg (o_idxL td25 sz173 (by decide) (fun _ => rfl) rfl rfl h.1 ?_)
    replace h := h.2
    refine Wl.guardT rfl rfl hb ?_
    refine wZ rg (o_loadI1 sz173 ag173 rfl rfl (v := .int .u32 (at' a (n1 - 1))) rfl ?_)
    refine Wl.guardT rfl rfl hb ?_
    refine wZ rg (o_eql rfl rfl (wZ rg (o_pickT rfl hb (v := .bool ((at' a (n1 - 1)) == 0)) rfl (nZ ?_))))
    refine Vc.cond' rfl (fun hb1 => ?_) (fun hb1 => ?_)
    · replace h := h.1 hb1
      refine Vc.skip' ?_
      refine Vc.blk ?_
      refine rZ ?_
      refine mvZ (.int .i64 n1) rfl (wZ rg (o_subG rfl rfl h.1 ?_))
      replace h := h.2
      refine asZ (.int .i64 (n1 - 1)) rfl (nZ ?_)
      exact ⟨(n1 - 1), (canon (fc vr (fc vr (fn))) (sn)), h⟩
    replace h := h.2 hb1
    refine Vc.exit' (exB_self ?_)
    exact ⟨n1, (canon (fc vr (fc vr (fn))) (sn)), h⟩
  replace h := h.2 hb
  refine Wl.guardF rfl rfl hb rfl ?_
  refine Wl.guardF rfl rfl hb rfl ?_
  refine Wl.guardF rfl rfl hb rfl ?_
  refine Wl.guardF rfl rfl hb rfl ?_
  refine Wl.guardF rfl rfl hb rfl ?_
  refine wZ rg (o_pickF rfl hb (v := .bool false) rfl (nZ ?_))
  refine Vc.cond' rfl (fun hb => Bool.noConfusion hb) (fun _ => ?_)
  refine Vc.exit' (exB_self ?_)
  exact ⟨n1, (canon (fc vr (fc vr (fn))) (sn)), h⟩
theorem ref01_word_ctr {a : List Int} {i : Int} {Q : Int → Prop} {S : St} {R : AV → St → Prop} (h : ref01_word_W a i Q) (hQ : ∀ r1, Q r1 → R (AV.int .u64 r1) S) :
    Ctr Try.prog 162 [eL (AV.int .u32) a, AV.int .i64 i] S R := by
  unfold ref01_word_W at h
  refine enterT Try.func162 rfl Try.ntmps162 Try.results162 (by kernel_rfl) (fun rg hrg => ?_)
  refine qZ (rZ (asZ (.int .u64 0) rfl (nZ (qZ (qZ (rZ (mvZ (.int .i64 i) rfl (mvZ (eL (AV.int .u32) a) rfl (wZ rg (o_len td25 rfl (wZ rg (o_lss rfl rfl (nZ ?_)))))))))))))
  refine Vc.cond' rfl (fun hb => ?_) (fun hb => ?_)
  · replace h := h.1 hb
    refine qZ (rZ (mvZ (eL (AV.int .u32) a) rfl (mvZ (.int .i64 i) rfl (wZ rg (o_idxL td25 sz173 (by decide) (fun _ => rfl) rfl rfl h.1 ?_)))))
    replace h := h.2
    refine wZ rg (o_loadI1 sz173 ag173 rfl rfl (v := .int .u32 (at' a i)) rfl (wZ rg (o_conv td173 td179 rfl (asZ (.int .u64 (IntKind.wrap .u64 (at' a i))) rfl (nZ ?_)))))
    refine Vc.ret' ?_
    refine res_tmp (v := .int .u64 (IntKind.wrap .u64 (at' a i))) rfl (res_nil ?_)
    show Gives _ (.int .u64 (IntKind.wrap .u64 (at' a i))) _
    exact gives_out hrg (VW.refl _) (hQ _ h)
  replace h := h.2 hb
  refine Vc.skip' ?_
  refine qZ (rZ (asZ (.int .u64 0) rfl (nZ ?_)))
  refine Vc.ret' ?_
  refine res_tmp (v := .int .u64 0) rfl (res_nil ?_)
  show Gives _ (.int .u64 0) _
  exact gives_out hrg (VW.refl _) (hQ _ h)
theorem ref01_Mul_ctr {a : List Int} {b : List Int} {Q : List Int → Prop} {S : St} {R : AV → St → Prop} (h : ref01_Mul_W a b Q) (hQ : ∀ r1, Q r1 → R (eL (AV.int .u32) r1) S) :
    Ctr Try.prog 136 [eL (AV.int .u32) a, eL (AV.int .u32) b] S R := by
  unfold ref01_Mul_W at h
  refine enterT Try.func136 rfl Try.ntmps136 Try.results136 (by kernel_rfl) (fun rg hrg => ?_)
  refine qZ (rZ (asZ .nil rfl (nZ (qZ (rZ (mvZ (eL (AV.int .u32) a) rfl (wZ rg (o_len td25 rfl (mvZ (eL (AV.int .u32) b) rfl (wZ rg (o_len td25 rfl (wZ rg (o_addG rfl rfl h.1 ?_)))))))))))))
  replace h := h.2
  refine wZ rg (o_addG rfl rfl h.1 ?_)
  replace h := h.2
  refine wZ rg (o_make td25 bts173 ok173 (enc := AV.int .u32) (z' := 0) zav173 (kk := 1) rfl rfl rfl h.1 (fun g1 => ?_))
  replace h := h.2
  refine asZ (.sl 1 rg 17 g1 0 (Int.toNat (((a.length : Int) + (b.length : Int)) + 1))) rfl (nZ (qZ (qZ (rZ (mvZ (eL (AV.int .u32) a) rfl (wZ rg (o_len td25 rfl (mvZ (.int .i64 0) rfl (nZ ?_)))))))))
  refine Vc.blk ?_
  obtain ⟨I, μ, h0, hI⟩ := h
  refine Vc.loop' (σ := (Int × (List Int))) (fun y => I y) (fun y => μ y) (fun y => envOf [(1, eL (AV.int .u32) b), (5, .sl 1 rg 17 g1 0 y.2.length), (18, eL (AV.int .u32) a), (19, .int .i64 (a.length : Int)), (20, .int .i64 y.1)]) (fun y => stL S rg [(17, .arr 1 (List.map (AV.int .u32) y.2), g1)]) (0, (rep' (((a.length : Int) + (b.length : Int)) + 1) 0)) (canon (fc vr (fc (VW.slen (by first | rfl | omega | (simp only [go_sem] <;> omega))) (fc vr (fc vr (fc vr (fn)))))) (sc rfl (sn))) h0 (fun y h => ?_)
  obtain ⟨x, out⟩ := y
  replace h := hI (x, out) h
  show Vc _ _ _ _ (envOf [(1, eL (AV.int .u32) b), (5, .sl 1 rg 17 g1 0 out.length), (18, eL (AV.int .u32) a), (19, .int .i64 (a.length : Int)), (20, .int .i64 x)]) (stL S rg [(17, .arr 1 (List.map (AV.int .u32) out), g1)])
  refine qZ (rZ (wZ rg (o_lss rfl rfl (nZ (qZ ?_)))))
  refine Vc.cond' rfl (fun hb => ?_) (fun hb => ?_)
  · replace h := h.1 hb
    refine Vc.skip' ?_
    refine qZ ?_
    refine Vc.blk ?_
    refine qZ (rZ (mvZ (.int .i64 x) rfl (wZ rg (o_idxL td25 sz173 (by decide) (fun _ => rfl) rfl rfl h.1 ?_))))
    replace h := h.2
    refine wZ rg (o_loadI1 sz173 ag173 rfl rfl (v := .int .u32 (at' a x)) rfl (asZ (.int .i64 x) rfl (asZ (.int .u32 (at' a x)) rfl (nZ (qZ (rZ (asZ (.int .u64 0) rfl (nZ (qZ (rZ (mvZ (eL (AV.int .u32) b) rfl (wZ rg (o_len td25 rfl (wZ rg (o_addG rfl rfl h.1 ?_)))))))))))))))
    replace h := h.2
    refine mvZ (.int .i64 0) rfl (nZ ?_)
    refine Vc.blk ?_
    obtain ⟨I, μ, h0, hI⟩ := h
    refine Vc.loop' (σ := (Int × Int × (List Int))) (fun y => I y) (fun y => μ y) (fun y => envOf [(1, eL (AV.int .u32) b), (5, .sl 1 rg 17 g1 0 y.2.2.length), (6, .int .i64 x), (7, .int .u32 (at' a x)), (8, .int .u64 y.1), (18, eL (AV.int .u32) a), (19, .int .i64 (a.length : Int)), (20, .int .i64 x), (27, .int .i64 ((b.length : Int) + 1)), (28, .int .i64 y.2.1)]) (fun y => stL S rg [(17, .arr 1 (List.map (AV.int .u32) y.2.2), g1)]) (0, 0, out) (canon (fc vr (fc vr (fc vr (fc vr (fc vr (fc vr (fc vr (fc vr (fc vr (fc vr (fn))))))))))) (sc rfl (sn))) h0 (fun y h => ?_)
    obtain ⟨carry, x1, out1⟩ := y
    replace h := hI (carry, x1, out1) h
    show Vc _ _ _ _ (envOf [(1, eL (AV.int .u32) b), (5, .sl 1 rg 17 g1 0 out1.length), (6, .int .i64 x), (7, .int .u32 (at' a x)), (8, .int .u64 carry), (18, eL (AV.int .u32) a), (19, .int .i64 (a.length : Int)), (20, .int .i64 x), (27, .int .i64 ((b.length : Int) + 1)), (28, .int .i64 x1)]) (stL S rg [(17, .arr 1 (List.map (AV.int .u32) out1), g1)])
    refine qZ (rZ (wZ rg (o_lss rfl rfl (nZ (qZ ?_)))))
    refine Vc.cond' rfl (fun hb1 => ?_) (fun hb1 => ?_)
    · replace h := h.1 hb1
      refine Vc.skip' ?_
      refine qZ ?_
      refine Vc.blk ?_
      refine qZ (rZ (mvZ (.int .i64 x1) rfl (asZ (.int .i64 x1) rfl (nZ (qZ ?_)))))
      obtain ⟨r, hc, h⟩ := h
      have hg := h.1
      replace h := h.2
      have hi := h.1
      replace h := h.2
      refine Vc.drawn' mixed rg (usOf [(4, pc (.int .u64 r))]) (by kernel_rfl) ?_
      refine dP rfl rfl (o_move (v := .int .u32 (at' a x)) rfl (dP rfl rfl (o_conv td173 td179 rfl (dP rfl rfl (o_move (v := eL (AV.int .u32) b) rfl (dP rfl rfl (o_move (v := .int .i64 x1) rfl ?_)))))))
      refine dC (vs := [eL (AV.int .u32) b, AV.int .i64 x1]) rfl (vl' vr (vl' vr (vn))) (fun _ => ref01_word_ctr hc (fun _ hr => ⟨by rw [hr], rfl⟩)) rfl ?_
      refine dP rfl rfl (o_mul rfl rfl (dP rfl rfl (o_move (v := .sl 1 rg 17 g1 0 out1.length) rfl (dP rfl rfl (o_move (v := .int .i64 x) rfl (dP rfl rfl (o_move (v := .int .i64 x1) rfl (dP rfl rfl (o_addG rfl rfl hg (dP rfl rfl (o_idxR0 td25 sz173 (by decide) rfl rfl hi ?_)))))))))))
      refine dL (E := ([(rg, 17)], [])) rfl rfl (by simp) (cfn) (o_loadR1 (atL (k := 17) rfl) sz173 ag173 rfl (lt_of hi (by first | rfl | omega | (simp only [go_sem] <;> omega))) rfl (v := .int .u32 (at' out1 (x + x1))) rfl (dP rfl rfl (o_conv td173 td179 rfl (dP rfl rfl (o_add rfl rfl (dP rfl rfl (o_move (v := .int .u64 carry) rfl (dP rfl rfl (o_add rfl rfl ?_)))))))))
      refine dP rfl rfl (o_assign (v := .int .u64 (IntKind.wrap .u64 ((IntKind.wrap .u64 ((IntKind.wrap .u64 ((IntKind.wrap .u64 (at' a x)) * r)) + (IntKind.wrap .u64 (at' out1 (x + x1))))) + carry))) rfl (dN (qZ (rZ (mvZ (.sl 1 rg 17 g1 0 out1.length) rfl (mvZ (.int .i64 x) rfl (mvZ (.int .i64 x1) rfl (wZ rg (o_addG rfl rfl h.1 ?_)))))))))
      replace h := h.2
      refine mvZ (.int .u64 (IntKind.wrap .u64 ((IntKind.wrap .u64 ((IntKind.wrap .u64 ((IntKind.wrap .u64 (at' a x)) * r)) + (IntKind.wrap .u64 (at' out1 (x + x1))))) + carry))) rfl (wZ rg (o_conv td179 td173 rfl (wZ rg (o_idxR0 td25 sz173 (by decide) rfl rfl h.1 ?_))))
      have hi1 := h.1
      replace h := h.2
      refine wZ rg (o_storeR1 (atL (k := 17) rfl) sz173 (by decide) (x' := (IntKind.wrap .u32 (IntKind.wrap .u64 ((IntKind.wrap .u64 ((IntKind.wrap .u64 ((IntKind.wrap .u64 (at' a x)) * r)) + (IntKind.wrap .u64 (at' out1 (x + x1))))) + carry)))) (fun _ => rfl) rfl rfl (lt_of hi1 (by first | rfl | omega | (simp only [go_sem] <;> omega))) rfl rfl setL (nZ (rZ ?_)))
      refine mvZ (.int .u64 (IntKind.wrap .u64 ((IntKind.wrap .u64 ((IntKind.wrap .u64 ((IntKind.wrap .u64 (at' a x)) * r)) + (IntKind.wrap .u64 (at' out1 (x + x1))))) + carry))) rfl (wZ rg (o_shr rfl rfl (by decide) ?_))
      obtain ⟨carry1, hs⟩ : ∃ qz, qz = ((IntKind.wrap .u64 ((IntKind.wrap .u64 ((IntKind.wrap .u64 ((IntKind.wrap .u64 (at' a x)) * r)) + (IntKind.wrap .u64 (at' out1 (x + x1))))) + carry)) / 2 ^ (Int.toNat 32)) := ⟨_, rfl⟩
      replace h := h carry1 hs
      refine wZ rg (o_assign (v := .int .u64 carry1) (by subst hs; rfl) (nZ (rZ (wZ rg (o_addG rfl rfl h.1 ?_)))))
      replace h := h.2
      refine mvZ (.int .i64 (x1 + 1)) rfl (nZ ?_)
      exact ⟨(carry1, (x1 + 1), (set' out1 (x + x1) (IntKind.wrap .u32 (IntKind.wrap .u64 ((IntKind.wrap .u64 ((IntKind.wrap .u64 ((IntKind.wrap .u64 (at' a x)) * r)) + (IntKind.wrap .u64 (at' out1 (x + x1))))) + carry))))), (canon (fc vr (fc (VW.slen (by first | rfl | omega | (simp only [go_sem] <;> omega))) (fc vr (fc vr (fc vr (fc vr (fc vr (fc vr (fc vr (fc vr (fn))))))))))) (sc rfl (sn))), h⟩
    replace h := h.2 hb1
    refine Vc.exit' (exB_self ?_)
    refine rZ ?_
    refine wZ rg (o_addG rfl rfl h.1 ?_)
    replace h := h.2
    refine mvZ (.int .i64 (x + 1)) rfl (nZ ?_)
    exact ⟨((x + 1), out1), (canon (fc vr (fc vr (fc vr (fc vr (fc vr (fn)))))) (sc rfl (sn))), h⟩
  replace h := h.2 hb
  refine Vc.exit' (exB_self ?_)
  refine qZ (rZ (mvZ (.sl 1 rg 17 g1 0 out.length) rfl ?_))
  refine Wl.wk (canon_freeze (k := 17) (xs := List.map (AV.int .u32) out) rfl (es := [(58, eL (AV.int .u32) out)]) (fc (frz_full rfl) (fn)) (m := []) (sn)) ?_
  refine wZ rg (o_call (us := [eL (AV.int .u32) out]) rfl (vl' vr (vn)) (ref01_Trim_ctr h fun r1 h => (asZ (eL (AV.int .u32) r1) rfl (nZ ?_))))
  refine Vc.ret' ?_
  refine res_tmp (v := eL (AV.int .u32) r1) rfl (res_nil ?_)
  show Gives _ (eL (AV.int .u32) r1) _
  exact gives_out hrg (VW.refl _) (hQ _ h)
theorem ref01_Cmp_ctr {a : List Int} {b : List Int} {Q : Int → Prop} {S : St} {R : AV → St → Prop} (h : ref01_Cmp_W a b Q) (hQ : ∀ r1, Q r1 → R (AV.int .i64 r1) S) :
    Ctr Try.prog 139 [eL (AV.int .u32) a, eL (AV.int .u32) b] S R := by
  unfold ref01_Cmp_W at h
  refine enterT Try.func139 rfl Try.ntmps139 Try.results139 (by kernel_rfl) (fun rg hrg => ?_)
  refine qZ (rZ (asZ (.int .i64 0) rfl (nZ (qZ (qZ (rZ (mvZ (eL (AV.int .u32) a) rfl (wZ rg (o_len td25 rfl (mvZ (eL (AV.int .u32) b) rfl (wZ rg (o_len td25 rfl (wZ rg (o_max rfl rfl (wZ rg (o_subG rfl rfl h.1 ?_))))))))))))))))
  replace h := h.2
  obtain ⟨i, hs⟩ : ∃ qz, qz = ((max (a.length : Int) (b.length : Int)) - 1) := ⟨_, rfl⟩
  replace h := h i hs
  refine wZ rg (o_assign (v := .int .i64 i) (by subst hs; rfl) (nZ ?_))
  refine Vc.blk ?_
  obtain ⟨I, μ, h0, hI⟩ := h
  refine Vc.loop' (σ := (Int)) (fun y => I y) (fun y => μ y) (fun y => envOf [(0, eL (AV.int .u32) a), (1, eL (AV.int .u32) b), (5, .int .i64 y)]) (fun y => stL S rg []) i (canon (fc vr (fc vr (fc vr (fn)))) (sn)) h0 (fun i1 h => ?_)
  replace h := hI i1 h
  show Vc _ _ _ _ (envOf [(0, eL (AV.int .u32) a), (1, eL (AV.int .u32) b), (5, .int .i64 i1)]) (stL S rg [])
  refine qZ (qZ (rZ (mvZ (.int .i64 i1) rfl (wZ rg (o_geq rfl rfl (nZ ?_))))))
  refine Vc.cond' rfl (fun hb => ?_) (fun hb => ?_)
  · replace h := h.1 hb
    refine Vc.skip' ?_
    refine qZ ?_
    refine Vc.blk ?_
    refine qZ (qZ (rZ (mvZ (eL (AV.int .u32) a) rfl (mvZ (.int .i64 i1) rfl (wZ rg (o_call (us := [eL (AV.int .u32) a, AV.int .i64 i1]) rfl (vl' vr (vl' vr (vn))) (ref01_word_ctr h fun r h => (mvZ (eL (AV.int .u32) b) rfl (mvZ (.int .i64 i1) rfl (wZ rg (o_call (us := [eL (AV.int .u32) b, AV.int .i64 i1]) rfl (vl' vr (vl' vr (vn))) (ref01_word_ctr h fun r1 h => (wZ rg (o_lss rfl rfl (nZ ?_)))))))))))))))
    refine Vc.cond' rfl (fun hb1 => ?_) (fun hb1 => ?_)
    · replace h := h.1 hb1
      refine qZ (rZ (asZ (.int .i64 (-1)) rfl (nZ ?_)))
      refine Vc.ret' ?_
      refine res_tmp (v := .int .i64 (-1)) rfl (res_nil ?_)
      show Gives _ (.int .i64 (-1)) _
      exact gives_out hrg (VW.refl _) (hQ _ h)
    replace h := h.2 hb1
    refine Vc.skip' ?_
    refine qZ (rZ (mvZ (eL (AV.int .u32) a) rfl (mvZ (.int .i64 i1) rfl (wZ rg (o_call (us := [eL (AV.int .u32) a, AV.int .i64 i1]) rfl (vl' vr (vl' vr (vn))) (ref01_word_ctr h fun r2 h => (mvZ (eL (AV.int .u32) b) rfl (mvZ (.int .i64 i1) rfl (wZ rg (o_call (us := [eL (AV.int .u32) b, AV.int .i64 i1]) rfl (vl' vr (vl' vr (vn))) (ref01_word_ctr h fun r3 h => (wZ rg (o_gtr rfl rfl (nZ ?_))))))))))))))
    refine Vc.cond' rfl (fun hb2 => ?_) (fun hb2 => ?_)
    · replace h := h.1 hb2
      refine qZ (rZ (asZ (.int .i64 1) rfl (nZ ?_)))
      refine Vc.ret' ?_
      refine res_tmp (v := .int .i64 1) rfl (res_nil ?_)
      show Gives _ (.int .i64 1) _
      exact gives_out hrg (VW.refl _) (hQ _ h)
    replace h := h.2 hb2
    refine Vc.skip' ?_
    refine rZ ?_
    refine mvZ (.int .i64 i1) rfl (wZ rg (o_subG rfl rfl h.1 ?_))
    replace h := h.2
    refine asZ (.int .i64 (i1 - 1)) rfl (nZ ?_)
    exact ⟨(i1 - 1), (canon (fc vr (fc vr (fc vr (fn)))) (sn)), h⟩
  replace h := h.2 hb
  refine Vc.exit' (exB_self ?_)
  refine qZ (rZ (asZ (.int .i64 0) rfl (nZ ?_)))
  refine Vc.ret' ?_
  refine res_tmp (v := .int .i64 0) rfl (res_nil ?_)
  show Gives _ (.int .i64 0) _
  exact gives_out hrg (VW.refl _) (hQ _ h)
theorem ref01_Sub_ctr {a : List Int} {b : List Int} {Q : List Int → Int → Prop} {S : St} {R : AV → St → Prop} (h : ref01_Sub_W a b Q) (hQ : ∀ r1 r2, Q r1 r2 → R (.tuple [eL (AV.int .u32) r1, AV.int .i64 r2]) S) :
    Ctr Try.prog 140 [eL (AV.int .u32) a, eL (AV.int .u32) b] S R := by
  unfold ref01_Sub_W at h
  refine enterT Try.func140 rfl Try.ntmps140 Try.results140 (by kernel_rfl) (fun rg hrg => ?_)
  refine qZ (rZ (asZ .nil rfl (asZ (.int .i64 0) rfl (nZ (qZ (qZ (rZ (mvZ (eL (AV.int .u32) a) rfl (mvZ (eL (AV.int .u32) b) rfl (wZ rg (o_call (us := [eL (AV.int .u32) a, eL (AV.int .u32) b]) rfl (vl' vr (vl' vr (vn))) (ref01_Cmp_ctr h fun r h => (wZ rg (o_lss rfl rfl (nZ ?_)))))))))))))))
  refine Vc.cond' rfl (fun hb => ?_) (fun hb => ?_)
  · replace h := h.1 hb
    refine qZ (rZ (asZ .nil rfl (asZ (.int .i64 3) rfl (nZ ?_))))
    refine Vc.ret' ?_
    refine res_tmp (v := .nil) rfl (res_tmp (v := .int .i64 3) rfl (res_nil ?_))
    show Gives _ (.tuple [.nil, .int .i64 3]) _
    exact gives_out hrg (VW.tupL (vl' (VW.nilL) (vl' vr (vn)))) (hQ _ _ h)
  replace h := h.2 hb
  refine Vc.skip' ?_
  refine qZ (rZ (asZ .nil rfl (nZ (qZ (rZ (asZ (.int .u64 0) rfl (nZ (qZ (qZ (rZ (mvZ (eL (AV.int .u32) a) rfl (wZ rg (o_len td25 rfl (mvZ (.int .i64 0) rfl (nZ ?_)))))))))))))))
  refine Vc.blk ?_
  refine Vc.mat 6 32 1 rfl (by decide) (fun g1 => ?_)
  obtain ⟨I, μ, h0, hI⟩ := h
  refine Vc.loop' (σ := ((Int × Int × (List Int)) × (Nat))) (fun y => I y.1) (fun y => μ y.1) (fun y => envOf [(0, eL (AV.int .u32) a), (1, eL (AV.int .u32) b), (6, .sl 1 rg 32 y.2 0 y.1.2.2.length), (7, .int .u64 y.1.1), (15, .int .i64 (a.length : Int)), (16, .int .i64 y.1.2.1)]) (fun y => stL S rg [(32, .arr 1 (List.map (AV.int .u32) y.1.2.2), y.2)]) ((0, 0, []), g1) (canon (fc vr (fc vr (fc (VW.slen (by first | rfl | omega | (simp only [go_sem] <;> omega))) (fc vr (fc vr (fc vr (fn))))))) (sc rfl (sn))) h0 (fun y h => ?_)
  obtain ⟨⟨borrow, x, out⟩, g2⟩ := y
  replace h := hI (borrow, x, out) h
  show Vc _ _ _ _ (envOf [(0, eL (AV.int .u32) a), (1, eL (AV.int .u32) b), (6, .sl 1 rg 32 g2 0 out.length), (7, .int .u64 borrow), (15, .int .i64 (a.length : Int)), (16, .int .i64 x)]) (stL S rg [(32, .arr 1 (List.map (AV.int .u32) out), g2)])
  refine qZ (rZ (wZ rg (o_lss rfl rfl (nZ (qZ ?_)))))
  refine Vc.cond' rfl (fun hb1 => ?_) (fun hb1 => ?_)
  · replace h := h.1 hb1
    refine Vc.skip' ?_
    refine qZ ?_
    refine Vc.blk ?_
    refine qZ (rZ (mvZ (.int .i64 x) rfl (asZ (.int .i64 x) rfl (nZ (qZ (rZ (mvZ (eL (AV.int .u32) a) rfl (mvZ (.int .i64 x) rfl (wZ rg (o_call (us := [eL (AV.int .u32) a, AV.int .i64 x]) rfl (vl' vr (vl' vr (vn))) (ref01_word_ctr h fun r1 h => (mvZ (eL (AV.int .u32) b) rfl (mvZ (.int .i64 x) rfl ?_)))))))))))))
    refine wZ rg (o_call (us := [eL (AV.int .u32) b, AV.int .i64 x]) rfl (vl' vr (vl' vr (vn))) (ref01_word_ctr h fun r2 h => (wZ rg (o_sub rfl rfl (mvZ (.int .u64 borrow) rfl (wZ rg (o_sub rfl rfl ?_)))))))
    obtain ⟨s, hs⟩ : ∃ qz, qz = (IntKind.wrap .u64 ((IntKind.wrap .u64 (r1 - r2)) - borrow)) := ⟨_, rfl⟩
    replace h := h s hs
    refine wZ rg (o_assign (v := .int .u64 s) (by subst hs; rfl) (nZ (qZ (rZ (mvZ (.sl 1 rg 32 g2 0 out.length) rfl (mvZ (.int .u64 s) rfl (wZ rg (o_conv td179 td173 rfl (wZ rg (o_bslice td25 ok173 zav173 (es := [.int .u32 (IntKind.wrap .u32 s)]) rfl (kk := 1) rfl rfl rfl rfl rfl rfl (fun g3 => ?_)))))))))))
    refine wZ rg (o_appR td25 bts173 ok173 zav173 (es := out) (xs := [(IntKind.wrap .u32 s)]) (enc := AV.int .u32) (atL (k := 32) rfl) (by first | rfl | omega | (simp only [go_sem] <;> omega)) (view_rowE (atL (k := 31) rfl) (by first | rfl | omega | (simp only [go_sem] <;> omega))) (kk := 1) rfl rfl (fun _ => rfl) (fun _ => rfl) h.1 rfl (fun _ => setL) (fun g4 => ?_))
    replace h := h.2
    refine asZ (.sl 1 rg 32 g4 0 ((out ++ [(IntKind.wrap .u32 s)]).length)) rfl (nZ (rZ (mvZ (.int .u64 s) rfl (wZ rg (o_shr rfl rfl (by decide) (asZ (.int .u64 (s / 2 ^ (Int.toNat 63))) rfl (nZ (rZ (wZ rg (o_addG rfl rfl h.1 ?_))))))))))
    replace h := h.2
    refine mvZ (.int .i64 (x + 1)) rfl (nZ ?_)
    exact ⟨(((s / 2 ^ (Int.toNat 63)), (x + 1), (out ++ [(IntKind.wrap .u32 s)])), g4), (canon (fc vr (fc vr (fc vr (fc vr (fc vr (fc vr (fn))))))) (sc rfl (sn))), h⟩
  replace h := h.2 hb1
  refine Vc.exit' (exB_self ?_)
  refine qZ (rZ (mvZ (.sl 1 rg 32 g2 0 out.length) rfl ?_))
  refine Wl.wk (canon_freeze (k := 32) (xs := List.map (AV.int .u32) out) rfl (es := [(36, eL (AV.int .u32) out)]) (fc (frz_full rfl) (fn)) (m := []) (sn)) ?_
  refine wZ rg (o_call (us := [eL (AV.int .u32) out]) rfl (vl' vr (vn)) (ref01_Trim_ctr h fun r3 h => (asZ (eL (AV.int .u32) r3) rfl (asZ (.int .i64 0) rfl (nZ ?_)))))
  refine Vc.ret' ?_
  refine res_tmp (v := eL (AV.int .u32) r3) rfl (res_tmp (v := .int .i64 0) rfl (res_nil ?_))
  show Gives _ (.tuple [eL (AV.int .u32) r3, .int .i64 0]) _
  exact gives_out hrg (VW.tupL (vl' vr (vl' vr (vn)))) (hQ _ _ h)
theorem ref01_up_ctr {a : List Int} {s : Int} {Q : List Int → Prop} {S : St} {R : AV → St → Prop} (h : ref01_up_W a s Q) (hQ : ∀ r1, Q r1 → R (eL (AV.int .u32) r1) S) :
    Ctr Try.prog 177 [eL (AV.int .u32) a, AV.int .i64 s] S R := by
  unfold ref01_up_W at h
  refine enterT Try.func177 rfl Try.ntmps177 Try.results177 (by kernel_rfl) (fun rg hrg => ?_)
  refine qZ (rZ (asZ .nil rfl (nZ (qZ (rZ (asZ .nil rfl (nZ (qZ (rZ (asZ (.int .u64 0) rfl (nZ (qZ (qZ (rZ (mvZ (eL (AV.int .u32) a) rfl (wZ rg (o_len td25 rfl (mvZ (.int .i64 0) rfl (nZ ?_)))))))))))))))))))
  refine Vc.blk ?_
  refine Vc.mat 5 25 1 rfl (by decide) (fun g1 => ?_)
  obtain ⟨I, μ, h0, hI⟩ := h
  refine Vc.loop' (σ := ((Int × Int × (List Int)) × (Nat))) (fun y => I y.1) (fun y => μ y.1) (fun y => envOf [(1, .int .i64 s), (5, .sl 1 rg 25 y.2 0 y.1.2.2.length), (6, .int .u64 y.1.1), (9, eL (AV.int .u32) a), (10, .int .i64 (a.length : Int)), (11, .int .i64 y.1.2.1)]) (fun y => stL S rg [(25, .arr 1 (List.map (AV.int .u32) y.1.2.2), y.2)]) ((0, 0, []), g1) (canon (fc vr (fc (VW.slen (by first | rfl | omega | (simp only [go_sem] <;> omega))) (fc vr (fc vr (fc vr (fc vr (fn))))))) (sc rfl (sn))) h0 (fun y h => ?_)
  obtain ⟨⟨carry, x, out⟩, g2⟩ := y
  replace h := hI (carry, x, out) h
  show Vc _ _ _ _ (envOf [(1, .int .i64 s), (5, .sl 1 rg 25 g2 0 out.length), (6, .int .u64 carry), (9, eL (AV.int .u32) a), (10, .int .i64 (a.length : Int)), (11, .int .i64 x)]) (stL S rg [(25, .arr 1 (List.map (AV.int .u32) out), g2)])
  refine qZ (rZ (wZ rg (o_lss rfl rfl (nZ (qZ ?_)))))
  refine Vc.cond' rfl (fun hb => ?_) (fun hb => ?_)
  · replace h := h.1 hb
    refine Vc.skip' ?_
    refine qZ ?_
    refine Vc.blk ?_
    refine qZ (rZ (wZ rg (o_idxL td25 sz173 (by decide) (fun _ => rfl) rfl rfl h.1 ?_)))
    replace h := h.2
    refine wZ rg (o_loadI1 sz173 ag173 rfl rfl (v := .int .u32 (at' a x)) rfl (asZ (.int .u32 (at' a x)) rfl (nZ (qZ (rZ (mvZ (.int .u64 carry) rfl (mvZ (.int .u32 (at' a x)) rfl (wZ rg (o_conv td173 td179 rfl (mvZ (.int .i64 s) rfl (wZ rg (o_shl rfl rfl h.1 ?_))))))))))))
    replace h := h.2
    refine wZ rg (o_or rfl rfl ?_)
    obtain ⟨carry1, hs⟩ : ∃ qz, qz = (bits .or .u64 carry (IntKind.wrap .u64 ((IntKind.wrap .u64 (at' a x)) * 2 ^ (Int.toNat s)))) := ⟨_, rfl⟩
    replace h := h carry1 hs
    refine wZ rg (o_assign (v := .int .u64 carry1) (by subst hs; rfl) (nZ (qZ (rZ (mvZ (.sl 1 rg 25 g2 0 out.length) rfl (mvZ (.int .u64 carry1) rfl (wZ rg (o_conv td179 td173 rfl (wZ rg (o_bslice td25 ok173 zav173 (es := [.int .u32 (IntKind.wrap .u32 carry1)]) rfl (kk := 1) rfl rfl rfl rfl rfl rfl (fun g3 => ?_)))))))))))
    refine wZ rg (o_appR td25 bts173 ok173 zav173 (es := out) (xs := [(IntKind.wrap .u32 carry1)]) (enc := AV.int .u32) (atL (k := 25) rfl) (by first | rfl | omega | (simp only [go_sem] <;> omega)) (view_rowE (atL (k := 24) rfl) (by first | rfl | omega | (simp only [go_sem] <;> omega))) (kk := 1) rfl rfl (fun _ => rfl) (fun _ => rfl) h.1 rfl (fun _ => setL) (fun g4 => ?_))
    replace h := h.2
    refine asZ (.sl 1 rg 25 g4 0 ((out ++ [(IntKind.wrap .u32 carry1)]).length)) rfl (nZ (rZ (mvZ (.int .u64 carry1) rfl (wZ rg (o_shr rfl rfl (by decide) (asZ (.int .u64 (carry1 / 2 ^ (Int.toNat 32))) rfl (nZ (rZ (wZ rg (o_addG rfl rfl h.1 ?_))))))))))
    replace h := h.2
    refine mvZ (.int .i64 (x + 1)) rfl (nZ ?_)
    exact ⟨(((carry1 / 2 ^ (Int.toNat 32)), (x + 1), (out ++ [(IntKind.wrap .u32 carry1)])), g4), (canon (fc vr (fc vr (fc vr (fc vr (fc vr (fc vr (fn))))))) (sc rfl (sn))), h⟩
  replace h := h.2 hb
  refine Vc.exit' (exB_self ?_)
  refine qZ (rZ (mvZ (.sl 1 rg 25 g2 0 out.length) rfl (mvZ (.int .u64 carry) rfl (wZ rg (o_conv td179 td173 rfl (wZ rg (o_bslice td25 ok173 zav173 (es := [.int .u32 (IntKind.wrap .u32 carry)]) rfl (kk := 1) rfl rfl rfl rfl rfl rfl (fun g5 => ?_))))))))
  refine wZ rg (o_appR td25 bts173 ok173 zav173 (es := out) (xs := [(IntKind.wrap .u32 carry)]) (enc := AV.int .u32) (atL (k := 25) rfl) (by first | rfl | omega | (simp only [go_sem] <;> omega)) (view_rowE (atL (k := 32) rfl) (by first | rfl | omega | (simp only [go_sem] <;> omega))) (kk := 1) rfl rfl (fun _ => rfl) (fun _ => rfl) h.1 rfl (fun _ => setL) (fun g6 => ?_))
  replace h := h.2
  refine Wl.wk (canon_freeze (k := 25) (xs := List.map (AV.int .u32) (out ++ [(IntKind.wrap .u32 carry)])) rfl (es := [(33, eL (AV.int .u32) (out ++ [(IntKind.wrap .u32 carry)]))]) (fc (frz_full rfl) (fn)) (m := []) (sn)) ?_
  refine wZ rg (o_call (us := [eL (AV.int .u32) (out ++ [(IntKind.wrap .u32 carry)])]) rfl (vl' vr (vn)) (ref01_Trim_ctr h fun r h => (asZ (eL (AV.int .u32) r) rfl (nZ ?_))))
  refine Vc.ret' ?_
  refine res_tmp (v := eL (AV.int .u32) r) rfl (res_nil ?_)
  show Gives _ (eL (AV.int .u32) r) _
  exact gives_out hrg (VW.refl _) (hQ _ h)
theorem ref01_down_ctr {a : List Int} {s : Int} {Q : List Int → Prop} {S : St} {R : AV → St → Prop} (h : ref01_down_W a s Q) (hQ : ∀ r1, Q r1 → R (eL (AV.int .u32) r1) S) :
    Ctr Try.prog 178 [eL (AV.int .u32) a, AV.int .i64 s] S R := by
  unfold ref01_down_W at h
  refine enterT Try.func178 rfl Try.ntmps178 Try.results178 (by kernel_rfl) (fun rg hrg => ?_)
  refine qZ (rZ (asZ .nil rfl (nZ (qZ (rZ (asZ .nil rfl (nZ (qZ (qZ (rZ (mvZ (eL (AV.int .u32) a) rfl (wZ rg (o_len td25 rfl (mvZ (.int .i64 0) rfl (nZ ?_)))))))))))))))
  refine Vc.blk ?_
  refine Vc.mat 5 26 1 rfl (by decide) (fun g1 => ?_)
  obtain ⟨I, μ, h0, hI⟩ := h
  refine Vc.loop' (σ := ((Int × (List Int)) × (Nat))) (fun y => I y.1) (fun y => μ y.1) (fun y => envOf [(0, eL (AV.int .u32) a), (1, .int .i64 s), (5, .sl 1 rg 26 y.2 0 y.1.2.length), (8, .int .i64 (a.length : Int)), (9, .int .i64 y.1.1)]) (fun y => stL S rg [(26, .arr 1 (List.map (AV.int .u32) y.1.2), y.2)]) ((0, []), g1) (canon (fc vr (fc vr (fc (VW.slen (by first | rfl | omega | (simp only [go_sem] <;> omega))) (fc vr (fc vr (fn)))))) (sc rfl (sn))) h0 (fun y h => ?_)
  obtain ⟨⟨x, out⟩, g2⟩ := y
  replace h := hI (x, out) h
  show Vc _ _ _ _ (envOf [(0, eL (AV.int .u32) a), (1, .int .i64 s), (5, .sl 1 rg 26 g2 0 out.length), (8, .int .i64 (a.length : Int)), (9, .int .i64 x)]) (stL S rg [(26, .arr 1 (List.map (AV.int .u32) out), g2)])
  refine qZ (rZ (wZ rg (o_lss rfl rfl (nZ (qZ ?_)))))
  refine Vc.cond' rfl (fun hb => ?_) (fun hb => ?_)
  · replace h := h.1 hb
    refine Vc.skip' ?_
    refine qZ ?_
    refine Vc.blk ?_
    refine qZ (rZ (mvZ (.int .i64 x) rfl (asZ (.int .i64 x) rfl (nZ (rZ (mvZ (.sl 1 rg 26 g2 0 out.length) rfl (mvZ (eL (AV.int .u32) a) rfl (mvZ (.int .i64 x) rfl (wZ rg (o_call (us := [eL (AV.int .u32) a, AV.int .i64 x]) rfl (vl' vr (vl' vr (vn))) (ref01_word_ctr h fun r h => (mvZ (eL (AV.int .u32) a) rfl (mvZ (.int .i64 x) rfl (wZ rg (o_addG rfl rfl h.1 ?_)))))))))))))))
    replace h := h.2
    refine wZ rg (o_call (us := [eL (AV.int .u32) a, AV.int .i64 (x + 1)]) rfl (vl' vr (vl' vr (vn))) (ref01_word_ctr h fun r1 h => (wZ rg (o_shl rfl rfl (by decide) (wZ rg (o_or rfl rfl (mvZ (.int .i64 s) rfl (wZ rg (o_shr rfl rfl h.1 ?_)))))))))
    replace h := h.2
    refine wZ rg (o_conv td179 td173 rfl (wZ rg (o_bslice td25 ok173 zav173 (es := [.int .u32 (IntKind.wrap .u32 ((bits .or .u64 r (IntKind.wrap .u64 (r1 * 2 ^ (Int.toNat 32)))) / 2 ^ (Int.toNat s)))]) rfl (kk := 1) rfl rfl rfl rfl rfl rfl (fun g3 => ?_))))
    refine wZ rg (o_appR td25 bts173 ok173 zav173 (es := out) (xs := [(IntKind.wrap .u32 ((bits .or .u64 r (IntKind.wrap .u64 (r1 * 2 ^ (Int.toNat 32)))) / 2 ^ (Int.toNat s)))]) (enc := AV.int .u32) (atL (k := 26) rfl) (by first | rfl | omega | (simp only [go_sem] <;> omega)) (view_rowE (atL (k := 25) rfl) (by first | rfl | omega | (simp only [go_sem] <;> omega))) (kk := 1) rfl rfl (fun _ => rfl) (fun _ => rfl) h.1 rfl (fun _ => setL) (fun g4 => ?_))
    replace h := h.2
    refine asZ (.sl 1 rg 26 g4 0 ((out ++ [(IntKind.wrap .u32 ((bits .or .u64 r (IntKind.wrap .u64 (r1 * 2 ^ (Int.toNat 32)))) / 2 ^ (Int.toNat s)))]).length)) rfl (nZ (rZ (wZ rg (o_addG rfl rfl h.1 ?_))))
    replace h := h.2
    refine mvZ (.int .i64 (x + 1)) rfl (nZ ?_)
    exact ⟨(((x + 1), (out ++ [(IntKind.wrap .u32 ((bits .or .u64 r (IntKind.wrap .u64 (r1 * 2 ^ (Int.toNat 32)))) / 2 ^ (Int.toNat s)))])), g4), (canon (fc vr (fc vr (fc vr (fc vr (fc vr (fn)))))) (sc rfl (sn))), h⟩
  replace h := h.2 hb
  refine Vc.exit' (exB_self ?_)
  refine qZ (rZ (mvZ (.sl 1 rg 26 g2 0 out.length) rfl ?_))
  refine Wl.wk (canon_freeze (k := 26) (xs := List.map (AV.int .u32) out) rfl (es := [(28, eL (AV.int .u32) out)]) (fc (frz_full rfl) (fn)) (m := []) (sn)) ?_
  refine wZ rg (o_call (us := [eL (AV.int .u32) out]) rfl (vl' vr (vn)) (ref01_Trim_ctr h fun r2 h => (asZ (eL (AV.int .u32) r2) rfl (nZ ?_))))
  refine Vc.ret' ?_
  refine res_tmp (v := eL (AV.int .u32) r2) rfl (res_nil ?_)
  show Gives _ (eL (AV.int .u32) r2) _
  exact gives_out hrg (VW.refl _) (hQ _ h)
theorem ref01_Div_ctr {a : List Int} {b : List Int} {Q : List Int → List Int → Int → Prop} {S : St} {R : AV → St → Prop} (h : ref01_Div_W a b Q) (hQ : ∀ r1 r2 r3, Q r1 r2 r3 → R (.tuple [eL (AV.int .u32) r1, eL (AV.int .u32) r2, AV.int .i64 r3]) S) :
    Ctr Try.prog 166 [eL (AV.int .u32) a, eL (AV.int .u32) b] S R := by
  unfold ref01_Div_W at h
  refine enterT Try.func166 rfl Try.ntmps166 Try.results166 (by kernel_rfl) (fun rg hrg => ?_)
  refine qZ (rZ (asZ .nil rfl (asZ .nil rfl (asZ (.int .i64 0) rfl (nZ (qZ (rZ (mvZ (eL (AV.int .u32) b) rfl (wZ rg (o_call (us := [eL (AV.int .u32) b]) rfl (vl' vr (vn)) (ref01_Trim_ctr h fun b1 h => (asZ (eL (AV.int .u32) b1) rfl (nZ (qZ (rZ (mvZ (eL (AV.int .u32) b1) rfl (wZ rg (o_len td25 rfl (asZ (.int .i64 (b1.length : Int)) rfl (nZ (qZ (qZ (rZ ?_)))))))))))))))))))))))
  refine mvZ (.int .i64 (b1.length : Int)) rfl (wZ rg (o_eql rfl rfl (nZ ?_)))
  refine Vc.cond' rfl (fun hb => ?_) (fun hb => ?_)
  · replace h := h.1 hb
    refine qZ (rZ (asZ .nil rfl (asZ .nil rfl (asZ (.int .i64 8) rfl (nZ ?_)))))
    refine Vc.ret' ?_
    refine res_tmp (v := .nil) rfl (res_tmp (v := .nil) rfl (res_tmp (v := .int .i64 8) rfl (res_nil ?_)))
    show Gives _ (.tuple [.nil, .nil, .int .i64 8]) _
    exact gives_out hrg (VW.tupL (vl' (VW.nilL) (vl' (VW.nilL) (vl' vr (vn))))) (hQ _ _ _ h)
  replace h := h.2 hb
  refine Vc.skip' ?_
  refine qZ (rZ (asZ (.int .i64 0) rfl (nZ (qZ ?_))))
  refine Vc.blk ?_
  obtain ⟨I, μ, h0, hI⟩ := h
  refine Vc.loop' (σ := (Int)) (fun y => I y) (fun y => μ y) (fun y => envOf [(0, eL (AV.int .u32) a), (1, eL (AV.int .u32) b1), (7, .int .i64 (b1.length : Int)), (8, .int .i64 y)]) (fun y => stL S rg []) 0 (canon (fc vr (fc vr (fc vr (fc vr (fn))))) (sn)) h0 (fun s h => ?_)
  replace h := hI s h
  show Vc _ _ _ _ (envOf [(0, eL (AV.int .u32) a), (1, eL (AV.int .u32) b1), (7, .int .i64 (b1.length : Int)), (8, .int .i64 s)]) (stL S rg [])
  refine qZ (qZ (rZ (mvZ (eL (AV.int .u32) b1) rfl (mvZ (.int .i64 (b1.length : Int)) rfl (wZ rg (o_subG rfl rfl h.1 ?_))))))
  replace h := h.2
  refine wZ rg (o_idxL td25 sz173 (by decide) (fun _ => rfl) rfl rfl h.1 ?_)
  replace h := h.2
  refine wZ rg (o_loadI1 sz173 ag173 rfl rfl (v := .int .u32 (at' b1 ((b1.length : Int) - 1))) rfl (mvZ (.int .i64 s) rfl (wZ rg (o_shl rfl rfl h.1 ?_))))
  replace h := h.2
  refine wZ rg (o_and rfl rfl (wZ rg (o_eql rfl rfl (nZ ?_))))
  refine Vc.cond' rfl (fun hb1 => ?_) (fun hb1 => ?_)
  · replace h := h.1 hb1
    refine Vc.skip' ?_
    refine Vc.blk ?_
    refine rZ ?_
    refine mvZ (.int .i64 s) rfl (wZ rg (o_addG rfl rfl h.1 ?_))
    replace h := h.2
    refine asZ (.int .i64 (s + 1)) rfl (nZ ?_)
    exact ⟨(s + 1), (canon (fc vr (fc vr (fc vr (fc vr (fn))))) (sn)), h⟩
  replace h := h.2 hb1
  refine Vc.exit' (exB_self ?_)
  refine qZ (rZ (mvZ (eL (AV.int .u32) a) rfl (mvZ (.int .i64 s) rfl (wZ rg (o_call (us := [eL (AV.int .u32) a, AV.int .i64 s]) rfl (vl' vr (vl' vr (vn))) (ref01_up_ctr h fun a1 h => (mvZ (eL (AV.int .u32) b1) rfl (mvZ (.int .i64 s) rfl (wZ rg (o_call (us := [eL (AV.int .u32) b1, AV.int .i64 s]) rfl (vl' vr (vl' vr (vn))) (ref01_up_ctr h fun b2 h => (asZ (eL (AV.int .u32) a1) rfl ?_))))))))))))
  refine asZ (eL (AV.int .u32) b2) rfl (nZ (qZ ?_))
  have hg := h.1
  replace h := h.2
  have hg1 := h.1
  replace h := h.2
  have hg2 := h.1
  replace h := h.2
  have hg3 := h.1
  replace h := h.2
  have hg4 := h.1
  replace h := h.2
  refine Vc.drawn' mixed rg (fun _ => jcr2) (by kernel_rfl) ?_
  refine dP rfl rfl (o_move (v := eL (AV.int .u32) a1) rfl (dP rfl rfl (o_len td25 rfl (dL (E := ([], [(rg, 39)])) rfl rfl (by simp) (cfn) (o_make td25 bts173 ok173 (enc := AV.int .u32) (z' := 0) zav173 (kk := 1) rfl rfl rfl hg (fun g1 => ?_))))))
  refine dL (E := ([], [(rg, 40)])) rfl rfl (by simp) (cfa (by simp [apartE]) (cfn)) (o_bslice td25 ok173 zav173 (es := []) rfl (kk := 1) rfl rfl rfl rfl rfl rfl (fun g2 => (dP rfl rfl (o_move (v := eL (AV.int .u32) a1) rfl (dP rfl rfl (o_move (v := eL (AV.int .u32) a1) rfl (dP rfl rfl (o_len td25 rfl (dP rfl rfl (o_move (v := .int .i64 (b1.length : Int)) rfl (dP rfl rfl (o_subG rfl rfl hg1 ?_))))))))))))
  refine dP rfl rfl (o_addG rfl rfl hg2 (dP rfl rfl (o_max rfl rfl (dP rfl rfl (o_sliceL td25 sz173 (by decide) (fun _ => rfl) rfl (l := (max 0 (((a1.length : Int) - (b1.length : Int)) + 1))) (h := (a1.length : Int)) rfl rfl hg3 ?_)))))
  refine dL (E := ([], [(rg, 40)])) rfl rfl (by simp) (cfo (by kernel_rfl) (cfa (by simp [apartE]) (cfn))) (o_appR td25 bts173 ok173 zav173 (es := []) (xs := (sub' a1 (max 0 (((a1.length : Int) - (b1.length : Int)) + 1)) (a1.length : Int))) (enc := AV.int .u32) (atL (k := 40) rfl) (by first | rfl | omega | (simp only [go_sem] <;> omega)) (rfl) (kk := 1) rfl rfl (fun _ => rfl) (fun _ => rfl) hg4 rfl (fun _ => setL) (fun g3 => ?_))
  refine dP rfl rfl (o_assign (v := .sl 1 rg 39 g1 0 (Int.toNat (a1.length : Int))) rfl (dP rfl rfl (o_assign (v := .sl 1 rg 40 g3 0 (([] ++ (sub' a1 (max 0 (((a1.length : Int) - (b1.length : Int)) + 1)) (a1.length : Int))).length)) rfl (dN (qZ (qZ (rZ (mvZ (eL (AV.int .u32) a1) rfl (wZ rg (o_len td25 rfl (mvZ (.int .i64 (b1.length : Int)) rfl (wZ rg (o_subG rfl rfl h.1 ?_)))))))))))))
  replace h := h.2
  refine asZ (.int .i64 ((a1.length : Int) - (b1.length : Int))) rfl (nZ ?_)
  refine Vc.blk ?_
  refine Vc.wk (canon_freeze (k := 40) (xs := List.map (AV.int .u32) ([] ++ (sub' a1 (max 0 (((a1.length : Int) - (b1.length : Int)) + 1)) (a1.length : Int)))) rfl (es := [(0, eL (AV.int .u32) a1), (1, eL (AV.int .u32) b2), (7, .int .i64 (b1.length : Int)), (8, .int .i64 s), (9, .sl 1 rg 39 g1 0 (Int.toNat (a1.length : Int))), (10, eL (AV.int .u32) ([] ++ (sub' a1 (max 0 (((a1.length : Int) - (b1.length : Int)) + 1)) (a1.length : Int)))), (11, .int .i64 ((a1.length : Int) - (b1.length : Int)))]) (fc vr (fc vr (fc vr (fc vr (fc (frz_ne rfl) (fc (frz_full rfl) (fc vr (fn)))))))) (m := [(39, .arr 1 (List.map (AV.int .u32) (rep' (a1.length : Int) 0)), g1)]) (sc rfl (sn))) ?_
  obtain ⟨I, μ, h0, hI⟩ := h
  refine Vc.loop' (σ := ((List Int) × Int × (List Int))) (fun y => I y) (fun y => μ y) (fun y => envOf [(0, eL (AV.int .u32) a1), (1, eL (AV.int .u32) b2), (7, .int .i64 (b1.length : Int)), (8, .int .i64 s), (9, .sl 1 rg 39 g1 0 y.2.2.length), (10, eL (AV.int .u32) y.1), (11, .int .i64 y.2.1)]) (fun y => stL S rg [(39, .arr 1 (List.map (AV.int .u32) y.2.2), g1)]) (([] ++ (sub' a1 (max 0 (((a1.length : Int) - (b1.length : Int)) + 1)) (a1.length : Int))), ((a1.length : Int) - (b1.length : Int)), (rep' (a1.length : Int) 0)) (canon (fc vr (fc vr (fc vr (fc vr (fc (VW.slen (by first | rfl | omega | (simp only [go_sem] <;> omega))) (fc vr (fc vr (fn)))))))) (sc rfl (sn))) h0 (fun y h => ?_)
  obtain ⟨r, i, q⟩ := y
  replace h := hI (r, i, q) h
  show Vc _ _ _ _ (envOf [(0, eL (AV.int .u32) a1), (1, eL (AV.int .u32) b2), (7, .int .i64 (b1.length : Int)), (8, .int .i64 s), (9, .sl 1 rg 39 g1 0 q.length), (10, eL (AV.int .u32) r), (11, .int .i64 i)]) (stL S rg [(39, .arr 1 (List.map (AV.int .u32) q), g1)])
  refine qZ (qZ (rZ (mvZ (.int .i64 i) rfl (wZ rg (o_geq rfl rfl (nZ ?_))))))
  refine Vc.cond' rfl (fun hb2 => ?_) (fun hb2 => ?_)
  · replace h := h.1 hb2
    refine Vc.skip' ?_
    refine qZ ?_
    refine Vc.blk ?_
    refine qZ (rZ (mvZ (eL (AV.int .u32) a1) rfl (mvZ (.int .i64 i) rfl (wZ rg (o_idxL td25 sz173 (by decide) (fun _ => rfl) rfl rfl h.1 ?_)))))
    replace h := h.2
    refine wZ rg (o_loadI1 sz173 ag173 rfl rfl (v := .int .u32 (at' a1 i)) rfl (wZ rg (o_bslice td25 ok173 zav173 (es := [.int .u32 (at' a1 i)]) rfl (kk := 1) rfl rfl rfl rfl rfl rfl (fun g4 => (mvZ (eL (AV.int .u32) r) rfl ?_)))))
    refine wZ rg (o_appR td25 bts173 ok173 zav173 (es := [(at' a1 i)]) (xs := r) (enc := AV.int .u32) (atL (k := 62) rfl) (by first | rfl | omega | (simp only [go_sem] <;> omega)) (rfl) (kk := 1) rfl rfl (fun _ => rfl) (fun _ => rfl) h.1 rfl (fun _ => setL) (fun g5 => ?_))
    replace h := h.2
    refine Wl.wk (canon_freeze (k := 62) (xs := List.map (AV.int .u32) ([(at' a1 i)] ++ r)) rfl (es := [(0, eL (AV.int .u32) a1), (1, eL (AV.int .u32) b2), (7, .int .i64 (b1.length : Int)), (8, .int .i64 s), (9, .sl 1 rg 39 g1 0 q.length), (11, .int .i64 i), (64, eL (AV.int .u32) ([(at' a1 i)] ++ r))]) (fc vr (fc vr (fc vr (fc vr (fc (frz_ne rfl) (fc vr (fc (frz_full rfl) (fn)))))))) (m := [(39, .arr 1 (List.map (AV.int .u32) q), g1)]) (sc rfl (sn))) ?_
    refine wZ rg (o_call (us := [eL (AV.int .u32) ([(at' a1 i)] ++ r)]) rfl (vl' vr (vn)) (ref01_Trim_ctr h fun r1 h => (asZ (eL (AV.int .u32) r1) rfl (nZ (qZ (rZ (mvZ (eL (AV.int .u32) r1) rfl (mvZ (.int .i64 (b1.length : Int)) rfl (wZ rg (o_call (us := [eL (AV.int .u32) r1, AV.int .i64 (b1.length : Int)]) rfl (vl' vr (vl' vr (vn))) (ref01_word_ctr h fun r2 h => (wZ rg (o_shl rfl rfl (by decide) ?_)))))))))))))
    refine mvZ (eL (AV.int .u32) r1) rfl (mvZ (.int .i64 (b1.length : Int)) rfl (wZ rg (o_subG rfl rfl h.1 ?_)))
    replace h := h.2
    refine wZ rg (o_call (us := [eL (AV.int .u32) r1, AV.int .i64 ((b1.length : Int) - 1)]) rfl (vl' vr (vl' vr (vn))) (ref01_word_ctr h fun r3 h => (wZ rg (o_or rfl rfl (mvZ (eL (AV.int .u32) b2) rfl (mvZ (.int .i64 (b1.length : Int)) rfl (wZ rg (o_subG rfl rfl h.1 ?_))))))))
    replace h := h.2
    refine wZ rg (o_call (us := [eL (AV.int .u32) b2, AV.int .i64 ((b1.length : Int) - 1)]) rfl (vl' vr (vl' vr (vn))) (ref01_word_ctr h fun r4 h => (wZ rg (o_quo rfl rfl h.1 ?_))))
    replace h := h.2
    refine wZ rg (o_min rfl rfl ?_)
    obtain ⟨guess, hs⟩ : ∃ qz, qz = (min (IntKind.wrap .u64 (Int.tdiv (bits .or .u64 (IntKind.wrap .u64 (r2 * 2 ^ (Int.toNat 32))) r3) r4)) 4294967295) := ⟨_, rfl⟩
    replace h := h guess hs
    refine wZ rg (o_assign (v := .int .u64 guess) (by subst hs; rfl) (nZ (qZ (rZ (mvZ (eL (AV.int .u32) b2) rfl (mvZ (.int .u64 guess) rfl (wZ rg (o_conv td179 td173 rfl (wZ rg (o_bslice td25 ok173 zav173 (es := [.int .u32 (IntKind.wrap .u32 guess)]) rfl (kk := 1) rfl rfl rfl rfl rfl rfl (fun g6 => ?_)))))))))))
    refine Wl.wk (canon_freeze (k := 84) (xs := List.map (AV.int .u32) [(IntKind.wrap .u32 guess)]) rfl (es := [(0, eL (AV.int .u32) a1), (1, eL (AV.int .u32) b2), (7, .int .i64 (b1.length : Int)), (8, .int .i64 s), (9, .sl 1 rg 39 g1 0 q.length), (10, eL (AV.int .u32) r1), (11, .int .i64 i), (12, .int .u64 guess), (81, eL (AV.int .u32) b2), (84, eL (AV.int .u32) [(IntKind.wrap .u32 guess)])]) (fc vr (fc vr (fc vr (fc vr (fc (frz_ne rfl) (fc vr (fc vr (fc vr (fc vr (fc (frz_full rfl) (fn))))))))))) (m := [(39, .arr 1 (List.map (AV.int .u32) q), g1)]) (sc rfl (sn))) ?_
    refine wZ rg (o_call (us := [eL (AV.int .u32) b2, eL (AV.int .u32) [(IntKind.wrap .u32 guess)]]) rfl (vl' vr (vl' vr (vn))) (ref01_Mul_ctr h fun p h => (asZ (eL (AV.int .u32) p) rfl (nZ (qZ ?_)))))
    refine Vc.blk ?_
    obtain ⟨I, μ, h0, hI⟩ := h
    refine Vc.loop' (σ := (Int × (List Int))) (fun y => I y) (fun y => μ y) (fun y => envOf [(0, eL (AV.int .u32) a1), (1, eL (AV.int .u32) b2), (7, .int .i64 (b1.length : Int)), (8, .int .i64 s), (9, .sl 1 rg 39 g1 0 q.length), (10, eL (AV.int .u32) r1), (11, .int .i64 i), (12, .int .u64 y.1), (13, eL (AV.int .u32) y.2)]) (fun y => stL S rg [(39, .arr 1 (List.map (AV.int .u32) q), g1)]) (guess, p) (canon (fc vr (fc vr (fc vr (fc vr (fc vr (fc vr (fc vr (fc vr (fc vr (fn)))))))))) (sc rfl (sn))) h0 (fun y h => ?_)
    obtain ⟨guess1, p1⟩ := y
    replace h := hI (guess1, p1) h
    show Vc _ _ _ _ (envOf [(0, eL (AV.int .u32) a1), (1, eL (AV.int .u32) b2), (7, .int .i64 (b1.length : Int)), (8, .int .i64 s), (9, .sl 1 rg 39 g1 0 q.length), (10, eL (AV.int .u32) r1), (11, .int .i64 i), (12, .int .u64 guess1), (13, eL (AV.int .u32) p1)]) (stL S rg [(39, .arr 1 (List.map (AV.int .u32) q), g1)])
    refine qZ (qZ (rZ (mvZ (eL (AV.int .u32) p1) rfl (mvZ (eL (AV.int .u32) r1) rfl (wZ rg (o_call (us := [eL (AV.int .u32) p1, eL (AV.int .u32) r1]) rfl (vl' vr (vl' vr (vn))) (ref01_Cmp_ctr h fun r5 h => (wZ rg (o_gtr rfl rfl (nZ ?_))))))))))
    refine Vc.cond' rfl (fun hb3 => ?_) (fun hb3 => ?_)
    · replace h := h.1 hb3
      refine Vc.skip' ?_
      refine Vc.blk ?_
      refine qZ (rZ (mvZ (.int .u64 guess1) rfl (wZ rg (o_sub rfl rfl (asZ (.int .u64 (IntKind.wrap .u64 (guess1 - 1))) rfl (nZ (rZ (mvZ (eL (AV.int .u32) p1) rfl (mvZ (eL (AV.int .u32) b2) rfl (wZ rg (o_call (us := [eL (AV.int .u32) p1, eL (AV.int .u32) b2]) rfl (vl' vr (vl' vr (vn))) (ref01_Sub_ctr h fun r6 r7 h => (mvZ (.tuple [eL (AV.int .u32) r6, .int .i64 r7]) rfl ?_)))))))))))))
      refine wZ rg (o_extract (v := eL (AV.int .u32) r6) rfl rfl rfl (wZ rg (o_extract (v := .int .i64 r7) rfl rfl rfl (asZ (eL (AV.int .u32) r6) rfl (nZ ?_)))))
      exact ⟨((IntKind.wrap .u64 (guess1 - 1)), r6), (canon (fc vr (fc vr (fc vr (fc vr (fc vr (fc vr (fc vr (fc vr (fc vr (fn)))))))))) (sc rfl (sn))), h⟩
    replace h := h.2 hb3
    refine Vc.exit' (exB_self ?_)
    refine qZ (rZ (mvZ (eL (AV.int .u32) r1) rfl (mvZ (eL (AV.int .u32) p1) rfl (wZ rg (o_call (us := [eL (AV.int .u32) r1, eL (AV.int .u32) p1]) rfl (vl' vr (vl' vr (vn))) (ref01_Sub_ctr h fun r8 r9 h => (mvZ (.tuple [eL (AV.int .u32) r8, .int .i64 r9]) rfl (wZ rg (o_extract (v := eL (AV.int .u32) r8) rfl rfl rfl (wZ rg (o_extract (v := .int .i64 r9) rfl rfl rfl (asZ (eL (AV.int .u32) r8) rfl (nZ ?_)))))))))))))
    refine rZ ?_
    refine mvZ (.sl 1 rg 39 g1 0 q.length) rfl (mvZ (.int .i64 i) rfl (mvZ (.int .u64 guess1) rfl (wZ rg (o_conv td179 td173 rfl (wZ rg (o_idxR0 td25 sz173 (by decide) rfl rfl h.1 ?_))))))
    have hi := h.1
    replace h := h.2
    refine wZ rg (o_storeR1 (atL (k := 39) rfl) sz173 (by decide) (x' := (IntKind.wrap .u32 guess1)) (fun _ => rfl) rfl rfl (lt_of hi (by first | rfl | omega | (simp only [go_sem] <;> omega))) rfl rfl setL (nZ (rZ (mvZ (.int .i64 i) rfl (wZ rg (o_subG rfl rfl h.1 ?_))))))
    replace h := h.2
    refine asZ (.int .i64 (i - 1)) rfl (nZ ?_)
    exact ⟨(r8, (i - 1), (set' q i (IntKind.wrap .u32 guess1))), (canon (fc vr (fc vr (fc vr (fc vr (fc (VW.slen (by first | rfl | omega | (simp only [go_sem] <;> omega))) (fc vr (fc vr (fn)))))))) (sc rfl (sn))), h⟩
  replace h := h.2 hb2
  refine Vc.exit' (exB_self ?_)
  refine qZ (rZ (mvZ (.sl 1 rg 39 g1 0 q.length) rfl ?_))
  refine Wl.wk (canon_freeze (k := 39) (xs := List.map (AV.int .u32) q) rfl (es := [(8, .int .i64 s), (10, eL (AV.int .u32) r), (109, eL (AV.int .u32) q)]) (fc vr (fc vr (fc (frz_full rfl) (fn)))) (m := []) (sn)) ?_
  refine wZ rg (o_call (us := [eL (AV.int .u32) q]) rfl (vl' vr (vn)) (ref01_Trim_ctr h fun r10 h => (mvZ (eL (AV.int .u32) r) rfl (mvZ (.int .i64 s) rfl (wZ rg (o_call (us := [eL (AV.int .u32) r, AV.int .i64 s]) rfl (vl' vr (vl' vr (vn))) (ref01_down_ctr h fun r11 h => (asZ (eL (AV.int .u32) r10) rfl (asZ (eL (AV.int .u32) r11) rfl (asZ (.int .i64 0) rfl (nZ ?_)))))))))))
  refine Vc.ret' ?_
  refine res_tmp (v := eL (AV.int .u32) r10) rfl (res_tmp (v := eL (AV.int .u32) r11) rfl (res_tmp (v := .int .i64 0) rfl (res_nil ?_)))
  show Gives _ (.tuple [eL (AV.int .u32) r10, eL (AV.int .u32) r11, .int .i64 0]) _
  exact gives_out hrg (VW.tupL (vl' vr (vl' vr (vl' vr (vn))))) (hQ _ _ _ h)
theorem ref01_Gcd_ctr {a : List Int} {b : List Int} {Q : List Int → Prop} {S : St} {R : AV → St → Prop} (h : ref01_Gcd_W a b Q) (hQ : ∀ r1, Q r1 → R (eL (AV.int .u32) r1) S) :
    Ctr Try.prog 165 [eL (AV.int .u32) a, eL (AV.int .u32) b] S R := by
  unfold ref01_Gcd_W at h
  refine enterT Try.func165 rfl Try.ntmps165 Try.results165 (by kernel_rfl) (fun rg hrg => ?_)
  refine qZ (rZ (asZ .nil rfl (nZ (qZ (rZ (mvZ (eL (AV.int .u32) a) rfl (wZ rg (o_call (us := [eL (AV.int .u32) a]) rfl (vl' vr (vn)) (ref01_Trim_ctr h fun a1 h => (mvZ (eL (AV.int .u32) b) rfl (wZ rg (o_call (us := [eL (AV.int .u32) b]) rfl (vl' vr (vn)) (ref01_Trim_ctr h fun b1 h => (asZ (eL (AV.int .u32) a1) rfl (asZ (eL (AV.int .u32) b1) rfl (nZ (qZ ?_)))))))))))))))))
  refine Vc.blk ?_
  obtain ⟨I, μ, h0, hI⟩ := h
  refine Vc.loop' (σ := ((List Int) × (List Int))) (fun y => I y) (fun y => μ y) (fun y => envOf [(0, eL (AV.int .u32) y.1), (1, eL (AV.int .u32) y.2)]) (fun y => stL S rg []) (a1, b1) (canon (fc vr (fc vr (fn))) (sn)) h0 (fun y h => ?_)
  obtain ⟨a2, b2⟩ := y
  replace h := hI (a2, b2) h
  show Vc _ _ _ _ (envOf [(0, eL (AV.int .u32) a2), (1, eL (AV.int .u32) b2)]) (stL S rg [])
  refine qZ (qZ (rZ (mvZ (eL (AV.int .u32) b2) rfl (wZ rg (o_len td25 rfl (wZ rg (o_gtr rfl rfl (nZ ?_))))))))
  refine Vc.cond' rfl (fun hb => ?_) (fun hb => ?_)
  · replace h := h.1 hb
    refine Vc.skip' ?_
    refine Vc.blk ?_
    refine qZ (rZ (mvZ (eL (AV.int .u32) a2) rfl (mvZ (eL (AV.int .u32) b2) rfl (wZ rg (o_call (us := [eL (AV.int .u32) a2, eL (AV.int .u32) b2]) rfl (vl' vr (vl' vr (vn))) (ref01_Div_ctr h fun r r1 r2 h => (mvZ (.tuple [eL (AV.int .u32) r, eL (AV.int .u32) r1, .int .i64 r2]) rfl (wZ rg (o_extract (v := eL (AV.int .u32) r) rfl rfl rfl (wZ rg (o_extract (v := eL (AV.int .u32) r1) rfl rfl rfl ?_)))))))))))
    refine wZ rg (o_extract (v := .int .i64 r2) rfl rfl rfl (asZ (eL (AV.int .u32) r) rfl (asZ (eL (AV.int .u32) r1) rfl (asZ (.int .i64 r2) rfl (nZ (rZ (mvZ (eL (AV.int .u32) b2) rfl (mvZ (eL (AV.int .u32) r1) rfl (asZ (eL (AV.int .u32) b2) rfl (asZ (eL (AV.int .u32) r1) rfl (nZ ?_)))))))))))
    exact ⟨(b2, r1), (canon (fc vr (fc vr (fn))) (sn)), h⟩
  replace h := h.2 hb
  refine Vc.exit' (exB_self ?_)
  refine qZ (rZ (mvZ (eL (AV.int .u32) a2) rfl (asZ (eL (AV.int .u32) a2) rfl (nZ ?_))))
  refine Vc.ret' ?_
  refine res_tmp (v := eL (AV.int .u32) a2) rfl (res_nil ?_)
  show Gives _ (eL (AV.int .u32) a2) _
  exact gives_out hrg (VW.refl _) (hQ _ h)
end Go.Proofs.Ytonbnfgknijpoaa
