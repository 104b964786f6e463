/- Walks of functions. Conditions: none. -/
import Derived.Test.YtonbnfgknijpoaaWH50
import Derived.Test.YtonbnfgknijpoaaGgTy
import Derived.Test.YtonbnfgknijpoaaKB
import Derived.Test.YtonbnfgknijpoaaKPproduct
import Derived.Test.YtonbnfgknijpoaaKS
namespace Go.Proofs.Ytonbnfgknijpoaa
open Go.Gg
set_option maxRecDepth 100000
theorem law50_part_ctr {n : Int} {d : Int} {Q : GRat → Prop} {S : St} {R : AV → St → Prop} (h : law50_part_W n d Q) (hQ : ∀ r1, Q r1 → R (eRat r1) S) :
    Ctr Try.prog 83 [AV.int .i64 n, AV.int .i64 d] S R := by
  unfold law50_part_W at h
  refine enterT Try.func83 rfl Try.ntmps83 Try.results83 (by kernel_rfl) (fun rg hrg => ?_)
  refine qZ (rZ ?_)
  refine wZ rg (o_alloc zav27 ok27 (kk := 3) rfl (fun g1 => ?_))
  refine nZ (qZ (rZ ?_))
  refine mvZ (.int .i64 n) rfl ?_
  refine mvZ (.int .i64 d) rfl ?_
  refine wZ rg (o_call (us := [AV.int .i64 n, AV.int .i64 d]) rfl (vl' vr (vl' vr (vn))) (ref02_Make_ctr h fun r r1 h => ?_))
  refine mvZ (.tuple [eRat r, .int .i64 r1]) rfl ?_
  refine wZ rg (o_extract (v := eRat r) rfl rfl rfl ?_)
  refine wZ rg (o_extract (v := .int .i64 r1) rfl rfl rfl ?_)
  refine wZ rg (o_alloc zav27 ok27 (kk := 3) rfl (fun g2 => ?_))
  refine wZ rg (o_storeB (atL (k := 5) rfl) sz27 (by decide) rfl (w := eRat r) rfl rfl rfl (v := eRat r) rfl setL ?_)
  refine asZ (.int .i64 r1) rfl ?_
  refine nZ (qZ (rZ ?_))
  refine wZ rg (o_loadBA (atL (k := 5) rfl) sz27 (by decide) ag27 rfl rfl (v := eRat r) rfl ?_)
  refine wZ rg (o_storeB (atL (k := 4) rfl) sz27 (by decide) rfl (w := eRat r) rfl rfl rfl (v := eRat r) rfl setL ?_)
  refine nZ ?_
  refine Vc.ret' ?_
  refine res_cellA (atL (k := 4) rfl) sz27 (by decide) ag27 rfl rfl (v := eRat r) rfl ?_
  refine res_nil ?_
  show Gives _ (eRat r) _
  exact gives_out hrg (VW.refl _) (hQ _ h)
theorem law50_awake_ctr {Q : Bool → Prop} {S : St} {R : AV → St → Prop} (h : law50_awake_W Q) (hQ : ∀ r1, Q r1 → R (AV.bool r1) S) :
    Ctr Try.prog 21 [] S R := by
  unfold law50_awake_W at h
  refine enterT Try.func21 rfl Try.ntmps21 Try.results21 (by kernel_rfl) (fun rg hrg => ?_)
  refine qZ (rZ ?_)
  refine asZ (.bool false) rfl ?_
  refine nZ (qZ (rZ ?_))
  refine wZ rg (o_call (us := [AV.int .i64 1, AV.int .i64 1]) rfl (vl' vr (vl' vr (vn))) (law50_part_ctr h fun r h => ?_))
  refine wZ rg (o_call (us := [AV.int .i64 1, AV.int .i64 1]) rfl (vl' vr (vl' vr (vn))) (law50_part_ctr h fun r1 h => ?_))
  refine wZ rg (o_bslice td22 ok27 zav27 (es := [eRat r, eRat r1]) rfl (kk := 3) rfl rfl rfl rfl rfl rfl (fun g1 => ?_))
  refine wZ rg (o_call (us := [AV.int .i64 3, AV.int .i64 1]) rfl (vl' vr (vl' vr (vn))) (law50_part_ctr h fun r2 h => ?_))
  refine wZ rg (o_call (us := [AV.int .i64 1, AV.int .i64 1]) rfl (vl' vr (vl' vr (vn))) (law50_part_ctr h fun r3 h => ?_))
  refine wZ rg (o_bslice td22 ok27 zav27 (es := [eRat r2, eRat r3]) rfl (kk := 3) rfl rfl rfl rfl rfl rfl (fun g2 => ?_))
  refine Wl.wk (canon_freeze (k := 6) (xs := List.map eRat [r, r1]) rfl (es := [(6, eL eRat [r, r1]), (9, .sl 3 rg 9 g2 0 ([r2, r3].length))]) (fc (frz_full rfl) (fc (frz_ne rfl) (fn))) (m := [(9, .arr 3 (List.map eRat [r2, r3]), g2)]) (sc rfl (sn))) ?_
  refine Wl.wk (canon_freeze (k := 9) (xs := List.map eRat [r2, r3]) rfl (es := [(6, eL eRat [r, r1]), (9, eL eRat [r2, r3])]) (fc vr (fc (frz_full rfl) (fn))) (m := []) (sn)) ?_
  refine wZ rg (o_call (us := [eL eRat [r, r1], eL eRat [r2, r3]]) rfl (vl' vr (vl' vr (vn))) (product_Stationary_ctr h fun r4 r5 h => ?_))
  refine mvZ (.tuple [eL eRat r4, eErr 107 r5]) rfl ?_
  refine wZ rg (o_extract (v := eL eRat r4) rfl rfl rfl ?_)
  refine wZ rg (o_extract (v := eErr 107 r5) rfl rfl rfl ?_)
  refine asZ (eL eRat r4) rfl ?_
  refine asZ (eErr 107 r5) rfl ?_
  refine nZ (qZ (rZ ?_))
  refine mvZ (eErr 107 r5) rfl ?_
  refine wZ rg (o_isnil td31 (E := 107) rfl rfl rfl ?_)
  refine mvZ (.bool (Option.isNone r5)) rfl ?_
  refine Wl.guard rfl rfl (fun hb => ?_) (fun hb => ?_)
  · replace h := h.1 hb
    refine mvZ (eL eRat r4) rfl ?_
    refine Wl.guardT rfl rfl hb ?_
    refine wZ rg (o_call (us := [AV.int .i64 3, AV.int .i64 8]) rfl (vl' vr (vl' vr (vn))) (law50_part_ctr h fun r6 h => ?_))
    refine Wl.guardT rfl rfl hb ?_
    refine wZ rg (o_call (us := [AV.int .i64 1, AV.int .i64 8]) rfl (vl' vr (vl' vr (vn))) (law50_part_ctr h fun r7 h => ?_))
    refine Wl.guardT rfl rfl hb ?_
    refine wZ rg (o_call (us := [AV.int .i64 3, AV.int .i64 8]) rfl (vl' vr (vl' vr (vn))) (law50_part_ctr h fun r8 h => ?_))
    refine Wl.guardT rfl rfl hb ?_
    refine wZ rg (o_call (us := [AV.int .i64 1, AV.int .i64 8]) rfl (vl' vr (vl' vr (vn))) (law50_part_ctr h fun r9 h => ?_))
    refine Wl.guardT rfl rfl hb ?_
    refine wZ rg (o_bslice td22 ok27 zav27 (es := [eRat r6, eRat r7, eRat r8, eRat r9]) rfl (kk := 3) rfl rfl rfl rfl rfl rfl (fun g3 => ?_))
    refine Wl.guardT rfl rfl hb ?_
    refine Wl.wk (canon_freeze (k := 21) (xs := List.map eRat [r6, r7, r8, r9]) rfl (es := [(15, .bool (Option.isNone r5)), (16, eL eRat r4), (21, eL eRat [r6, r7, r8, r9])]) (fc vr (fc vr (fc (frz_full rfl) (fn)))) (m := []) (sn)) ?_
    refine wZ rg (o_call (us := [eL eRat r4, eL eRat [r6, r7, r8, r9]]) rfl (vl' vr (vl' vr (vn))) (base_Rats_ctr h fun r10 h => ?_))
    refine wZ rg (o_pickT rfl hb (v := .bool r10) rfl ?_)
    refine asZ (.bool r10) rfl ?_
    refine nZ ?_
    refine Vc.ret' ?_
    refine res_tmp (v := .bool r10) rfl ?_
    refine res_nil ?_
    show Gives _ (.bool r10) _
    exact gives_out hrg (VW.refl _) (hQ _ h)
  replace h := h.2 hb
  refine Wl.guardF rfl rfl hb rfl ?_
  refine Wl.guardF rfl rfl hb rfl ?_
  refine Wl.guardF rfl rfl hb rfl ?_
  refine Wl.guardF rfl rfl hb rfl ?_
  refine Wl.guardF rfl rfl hb rfl ?_
  refine Wl.guardF rfl rfl hb rfl ?_
  refine wZ rg (o_pickF rfl hb (v := .bool false) rfl ?_)
  refine asZ (.bool false) rfl ?_
  refine nZ ?_
  refine Vc.ret' ?_
  refine res_tmp (v := .bool false) rfl ?_
  refine res_nil ?_
  show Gives _ (.bool false) _
  exact gives_out hrg (VW.refl _) (hQ _ h)
theorem law50_short_ctr {l : List GRat} {most : Int} {Q : Bool → Prop} {S : St} {R : AV → St → Prop} (h : law50_short_W l most Q) (hQ : ∀ r1, Q r1 → R (AV.bool r1) S) :
    Ctr Try.prog 22 [eL eRat l, AV.int .i64 most] S R := by
  unfold law50_short_W at h
  refine enterT Try.func22 rfl Try.ntmps22 Try.results22 (by kernel_rfl) (fun rg hrg => ?_)
  refine qZ (rZ ?_)
  refine asZ (.bool false) rfl ?_
  refine nZ (qZ (qZ (rZ ?_)))
  refine mvZ (eL eRat l) rfl ?_
  refine wZ rg (o_len td22 rfl ?_)
  refine mvZ (.int .i64 0) rfl ?_
  refine nZ ?_
  refine Vc.blk ?_
  obtain ⟨I, μ, h0, hI⟩ := h
  refine Vc.loop' (σ := (Int)) (fun y => I y) (fun y => μ y) (fun y => envOf [(0, eL eRat l), (1, .int .i64 most), (7, eL eRat l), (8, .int .i64 (l.length : Int)), (9, .int .i64 y)]) (fun y => stL S rg []) 0 (canon (fc vr (fc vr (fc vr (fc vr (fc vr (fn)))))) (sn)) h0 (fun x h => ?_)
  replace h := hI x h
  show Vc _ _ _ _ (envOf [(0, eL eRat l), (1, .int .i64 most), (7, eL eRat l), (8, .int .i64 (l.length : Int)), (9, .int .i64 x)]) (stL S rg [])
  refine qZ (rZ ?_)
  refine wZ rg (o_lss rfl rfl ?_)
  refine nZ (qZ ?_)
  refine Vc.cond' rfl (fun hb => ?_) (fun hb => ?_)
  · replace h := h.1 hb
    refine Vc.skip' ?_
    refine qZ ?_
    refine Vc.blk ?_
    refine qZ (rZ ?_)
    refine wZ rg (o_idxL td22 sz27 (by decide) (fun _ => rfl) rfl rfl h.1 ?_)
    replace h := h.2
    refine wZ rg (o_loadIA sz27 (by decide) ag27 rfl rfl (v := eRat (at' l x)) rfl ?_)
    refine wZ rg (o_alloc zav27 ok27 (kk := 3) rfl (fun g1 => ?_))
    refine wZ rg (o_storeB (atL (k := 6) rfl) sz27 (by decide) rfl (w := eRat (at' l x)) rfl rfl rfl (v := eRat (at' l x)) rfl setL ?_)
    refine nZ (qZ (rZ ?_))
    refine wZ rg (o_loadBA (atL (k := 6) rfl) sz27 (by decide) ag27 rfl rfl (v := eRat (at' l x)) rfl ?_)
    refine mvZ (eL eRat l) rfl ?_
    refine wZ rg (o_len td22 rfl ?_)
    refine wZ rg (o_call (us := [eRat (at' l x), AV.int .i64 (l.length : Int)]) rfl (vl' vr (vl' vr (vn))) (law49_Brief_ctr h fun r h => ?_))
    refine wZ rg (o_not rfl ?_)
    refine nZ ?_
    refine Vc.cond' rfl (fun hb1 => ?_) (fun hb1 => ?_)
    · replace h := h.1 hb1
      refine qZ (rZ ?_)
      refine asZ (.bool false) rfl ?_
      refine nZ ?_
      refine Vc.ret' ?_
      refine res_tmp (v := .bool false) rfl ?_
      refine res_nil ?_
      show Gives _ (.bool false) _
      exact gives_out hrg (VW.refl _) (hQ _ h)
    replace h := h.2 hb1
    refine Vc.skip' ?_
    refine rZ ?_
    refine wZ rg (o_addG rfl rfl h.1 ?_)
    replace h := h.2
    refine mvZ (.int .i64 (x + 1)) rfl ?_
    refine nZ ?_
    exact ⟨(x + 1), (canon (fc vr (fc vr (fc vr (fc vr (fc vr (fn)))))) (sn)), h⟩
  replace h := h.2 hb
  refine Vc.exit' (exB_self ?_)
  refine qZ (rZ ?_)
  refine mvZ (eL eRat l) rfl ?_
  refine wZ rg (o_len td22 rfl ?_)
  refine mvZ (.int .i64 most) rfl ?_
  refine wZ rg (o_leq rfl rfl ?_)
  refine asZ (.bool (decide ((l.length : Int) ≤ most))) rfl ?_
  refine nZ ?_
  refine Vc.ret' ?_
  refine res_tmp (v := .bool (decide ((l.length : Int) ≤ most))) rfl ?_
  refine res_nil ?_
  show Gives _ (.bool (decide ((l.length : Int) ≤ most))) _
  exact gives_out hrg (VW.refl _) (hQ _ h)
end Go.Proofs.Ytonbnfgknijpoaa
