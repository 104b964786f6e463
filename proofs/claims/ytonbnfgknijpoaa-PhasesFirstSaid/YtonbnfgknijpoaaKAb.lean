/- Walks of functions. Conditions: none. -/
import Derived.Test.YtonbnfgknijpoaaWA
import Derived.Test.YtonbnfgknijpoaaGgTy
import Derived.Test.YtonbnfgknijpoaaKA
namespace Go.Proofs.Ytonbnfgknijpoaa
open Go.Gg
set_option maxRecDepth 100000
theorem ref01_Add_ctr {a : List Int} {b : List Int} {Q : List Int → Prop} {S : St} {R : AV → St → Prop} (h : ref01_Add_W a b Q) (hQ : ∀ r1, Q r1 → R (eL (AV.int .u32) r1) S) :
    Ctr Try.prog 138 [eL (AV.int .u32) a, eL (AV.int .u32) b] S R := by
  unfold ref01_Add_W at h
  refine enterT Try.func138 rfl Try.ntmps138 Try.results138 (by kernel_rfl) (fun rg hrg => ?_)
  refine qZ (rZ (asZ .nil rfl (nZ (qZ (rZ (asZ .nil rfl (nZ (qZ (rZ (asZ (.int .u64 0) rfl (nZ (qZ (qZ (rZ (mvZ (eL (AV.int .u32) a) rfl (wZ rg (o_len td25 rfl (mvZ (eL (AV.int .u32) b) rfl (wZ rg (o_len td25 rfl (wZ rg (o_max rfl rfl (wZ rg (o_addG rfl rfl h.1 ?_))))))))))))))))))))))))
  replace h := h.2
  refine mvZ (.int .i64 0) rfl (nZ ?_)
  refine Vc.blk ?_
  refine Vc.mat 5 31 1 rfl (by decide) (fun g1 => ?_)
  obtain ⟨I, μ, h0, hI⟩ := h
  refine Vc.loop' (σ := ((Int × Int × (List Int)) × (Nat))) (fun y => I y.1) (fun y => μ y.1) (fun y => envOf [(0, eL (AV.int .u32) a), (1, eL (AV.int .u32) b), (5, .sl 1 rg 31 y.2 0 y.1.2.2.length), (6, .int .u64 y.1.1), (14, .int .i64 ((max (a.length : Int) (b.length : Int)) + 1)), (15, .int .i64 y.1.2.1)]) (fun y => stL S rg [(31, .arr 1 (List.map (AV.int .u32) y.1.2.2), y.2)]) ((0, 0, []), g1) (canon (fc vr (fc vr (fc (VW.slen (by first | rfl | omega | (simp only [go_sem] <;> omega))) (fc vr (fc vr (fc vr (fn))))))) (sc rfl (sn))) h0 (fun y h => ?_)
  obtain ⟨⟨carry, x, out⟩, g2⟩ := y
  replace h := hI (carry, x, out) h
  show Vc _ _ _ _ (envOf [(0, eL (AV.int .u32) a), (1, eL (AV.int .u32) b), (5, .sl 1 rg 31 g2 0 out.length), (6, .int .u64 carry), (14, .int .i64 ((max (a.length : Int) (b.length : Int)) + 1)), (15, .int .i64 x)]) (stL S rg [(31, .arr 1 (List.map (AV.int .u32) out), g2)])
  refine qZ (rZ (wZ rg (o_lss rfl rfl (nZ (qZ ?_)))))
  refine Vc.cond' rfl (fun hb => ?_) (fun hb => ?_)
  · replace h := h.1 hb
    refine Vc.skip' ?_
    refine qZ ?_
    refine Vc.blk ?_
    refine qZ (rZ (mvZ (.int .i64 x) rfl (asZ (.int .i64 x) rfl (nZ (qZ (rZ (mvZ (eL (AV.int .u32) a) rfl (mvZ (.int .i64 x) rfl (wZ rg (o_call (us := [eL (AV.int .u32) a, AV.int .i64 x]) rfl (vl' vr (vl' vr (vn))) (ref01_word_ctr h fun r h => (mvZ (eL (AV.int .u32) b) rfl (mvZ (.int .i64 x) rfl ?_)))))))))))))
    refine wZ rg (o_call (us := [eL (AV.int .u32) b, AV.int .i64 x]) rfl (vl' vr (vl' vr (vn))) (ref01_word_ctr h fun r1 h => (wZ rg (o_add rfl rfl (mvZ (.int .u64 carry) rfl (wZ rg (o_add rfl rfl ?_)))))))
    obtain ⟨s, hs⟩ : ∃ qz, qz = (IntKind.wrap .u64 ((IntKind.wrap .u64 (r + r1)) + carry)) := ⟨_, rfl⟩
    replace h := h s hs
    refine wZ rg (o_assign (v := .int .u64 s) (by subst hs; rfl) (nZ (qZ (rZ (mvZ (.sl 1 rg 31 g2 0 out.length) rfl (mvZ (.int .u64 s) rfl (wZ rg (o_conv td179 td173 rfl (wZ rg (o_bslice td25 ok173 zav173 (es := [.int .u32 (IntKind.wrap .u32 s)]) rfl (kk := 1) rfl rfl rfl rfl rfl rfl (fun g3 => ?_)))))))))))
    refine wZ rg (o_appR td25 bts173 ok173 zav173 (es := out) (xs := [(IntKind.wrap .u32 s)]) (enc := AV.int .u32) (atL (k := 31) rfl) (by first | rfl | omega | (simp only [go_sem] <;> omega)) (view_rowE (atL (k := 30) rfl) (by first | rfl | omega | (simp only [go_sem] <;> omega))) (kk := 1) rfl rfl (fun _ => rfl) (fun _ => rfl) h.1 rfl (fun _ => setL) (fun g4 => ?_))
    replace h := h.2
    refine asZ (.sl 1 rg 31 g4 0 ((out ++ [(IntKind.wrap .u32 s)]).length)) rfl (nZ (rZ (mvZ (.int .u64 s) rfl (wZ rg (o_shr rfl rfl (by decide) (asZ (.int .u64 (s / 2 ^ (Int.toNat 32))) rfl (nZ (rZ (wZ rg (o_addG rfl rfl h.1 ?_))))))))))
    replace h := h.2
    refine mvZ (.int .i64 (x + 1)) rfl (nZ ?_)
    exact ⟨(((s / 2 ^ (Int.toNat 32)), (x + 1), (out ++ [(IntKind.wrap .u32 s)])), g4), (canon (fc vr (fc vr (fc vr (fc vr (fc vr (fc vr (fn))))))) (sc rfl (sn))), h⟩
  replace h := h.2 hb
  refine Vc.exit' (exB_self ?_)
  refine qZ (rZ (mvZ (.sl 1 rg 31 g2 0 out.length) rfl ?_))
  refine Wl.wk (canon_freeze (k := 31) (xs := List.map (AV.int .u32) out) rfl (es := [(35, eL (AV.int .u32) out)]) (fc (frz_full rfl) (fn)) (m := []) (sn)) ?_
  refine wZ rg (o_call (us := [eL (AV.int .u32) out]) rfl (vl' vr (vn)) (ref01_Trim_ctr h fun r2 h => (asZ (eL (AV.int .u32) r2) rfl (nZ ?_))))
  refine Vc.ret' ?_
  refine res_tmp (v := eL (AV.int .u32) r2) rfl (res_nil ?_)
  show Gives _ (eL (AV.int .u32) r2) _
  exact gives_out hrg (VW.refl _) (hQ _ h)
end Go.Proofs.Ytonbnfgknijpoaa
