/- Walks of functions. Conditions: none. -/
import Derived.Test.YtonbnfgknijpoaaWLCommonGreek
import Derived.Test.YtonbnfgknijpoaaGgTy
import Derived.Test.YtonbnfgknijpoaaKB
import Derived.Test.YtonbnfgknijpoaaKH45
import Derived.Test.YtonbnfgknijpoaaKPcommon
import Derived.Test.YtonbnfgknijpoaaKR45
namespace Go.Proofs.Ytonbnfgknijpoaa
open Go.Gg
set_option maxRecDepth 100000
theorem law45_CommonGreek_ctr {p : GRat} {factors : List GRat} {Q : Bool → Prop} {S : St} {R : AV → St → Prop} (h : law45_CommonGreek_W p factors Q) (hQ : ∀ r1, Q r1 → R (AV.bool r1) S) :
    Ctr Try.prog 4 [eRat p, eL eRat factors] S R := by
  unfold law45_CommonGreek_W at h
  refine enterT Try.func4 rfl Try.ntmps4 Try.results4 (by kernel_rfl) (fun rg hrg => ?_)
  refine Vc.seq' ?_
  refine Vc.region' ?_
  refine Wl.cons rg (o_box (v := eRat p) rfl rfl (kk := 3) rfl (by decide) (fun g1 => ?_))
  refine Wl.cons rg (o_assign (v := .bool false) rfl ?_)
  refine Wl.nil ?_
  refine Vc.seq' ?_
  obtain ⟨J, h, hJ⟩ := h
  refine Vc.join' (σ := ((Bool) × (Nat))) (fun y => J y.1) (fun y => envOf [(1, eL eRat factors), (2, .ptr rg 2 y.2 0 0), (21, .bool y.1)]) (fun y => stL S rg [(2, .arr 3 [eRat p], y.2)]) (fun y h => ?_) ?_
  · obtain ⟨x, g2⟩ := y
    replace h := hJ x h
    show Vc _ _ _ _ (envOf [(1, eL eRat factors), (2, .ptr rg 2 g2 0 0), (21, .bool x)]) (stL S rg [(2, .arr 3 [eRat p], g2)])
    refine Vc.cond' rfl (fun hb => ?_) (fun hb => ?_)
    · replace h := h.1 hb
      refine Vc.seq' ?_
      refine Vc.region' ?_
      refine Wl.cons rg (o_call (us := []) rfl (vn) (law45_awake_ctr h fun r h => ?_))
      refine Wl.cons rg (o_assign (v := .bool r) rfl ?_)
      refine Wl.nil ?_
      refine Vc.ret' ?_
      refine res_tmp (v := .bool r) rfl ?_
      refine res_nil ?_
      show Gives _ (.bool r) _
      exact gives_out hrg (VW.refl _) (hQ _ h)
    · replace h := h.2 hb
      refine Vc.skip' ?_
      refine Vc.seq' ?_
      refine Vc.region' ?_
      refine Wl.cons rg (o_loadBA (atL (k := 2) rfl) sz27 (by decide) ag27 rfl rfl (v := eRat p) rfl ?_)
      refine Wl.cons rg (o_move (v := eL eRat factors) rfl ?_)
      refine Wl.cons rg (o_call (us := [eRat p, eL eRat factors]) rfl (vl' vr (vl' vr (vn))) (common_Greek_ctr h fun r1 r2 h => ?_))
      refine Wl.cons rg (o_move (v := .tuple [eL eRat r1, eErr 107 r2]) rfl ?_)
      refine Wl.cons rg (o_extract (v := eL eRat r1) rfl rfl rfl ?_)
      refine Wl.cons rg (o_extract (v := eErr 107 r2) rfl rfl rfl ?_)
      refine Wl.cons rg (o_assign (v := eL eRat r1) rfl ?_)
      refine Wl.cons rg (o_assign (v := eErr 107 r2) rfl ?_)
      refine Wl.nil ?_
      refine Vc.seq' ?_
      refine Vc.region' ?_
      refine Wl.cons rg (o_loadBA (atL (k := 2) rfl) sz27 (by decide) ag27 rfl rfl (v := eRat p) rfl ?_)
      refine Wl.cons rg (o_move (v := eL eRat factors) rfl ?_)
      refine Wl.cons rg (o_call (us := [eRat p, eL eRat factors]) rfl (vl' vr (vl' vr (vn))) (ref45_Greek_ctr h fun r3 r4 h => ?_))
      refine Wl.cons rg (o_move (v := .tuple [eL eRat r3, .int .i64 r4]) rfl ?_)
      refine Wl.cons rg (o_extract (v := eL eRat r3) rfl rfl rfl ?_)
      refine Wl.cons rg (o_extract (v := .int .i64 r4) rfl rfl rfl ?_)
      refine Wl.cons rg (o_assign (v := eL eRat r3) rfl ?_)
      refine Wl.cons rg (o_assign (v := .int .i64 r4) rfl ?_)
      refine Wl.nil ?_
      refine Vc.seq' ?_
      refine Vc.region' ?_
      refine Wl.cons rg (o_move (v := eErr 107 r2) rfl ?_)
      refine Wl.cons rg (o_call (us := [eErr 107 r2]) rfl (vl' vr (vn)) (base_Num_ctr h fun r5 h => ?_))
      refine Wl.cons rg (o_move (v := .int .i64 r4) rfl ?_)
      refine Wl.cons rg (o_eql rfl rfl ?_)
      refine Wl.cons rg (o_move (v := .bool (r5 == r4)) rfl ?_)
      refine Wl.guard rfl rfl (fun hb1 => ?_) (fun hb1 => ?_)
      · replace h := h.1 hb1
        refine Wl.cons rg (o_move (v := eL eRat r1) rfl ?_)
        refine Wl.guardT rfl rfl hb1 ?_
        refine Wl.cons rg (o_move (v := eL eRat r3) rfl ?_)
        refine Wl.guardT rfl rfl hb1 ?_
        refine Wl.cons rg (o_call (us := [eL eRat r1, eL eRat r3]) rfl (vl' vr (vl' vr (vn))) (base_Rats_ctr h fun r6 h => ?_))
        refine Wl.cons rg (o_pickT rfl hb1 (v := .bool r6) rfl ?_)
        refine Wl.cons rg (o_assign (v := .bool r6) rfl ?_)
        refine Wl.nil ?_
        refine Vc.ret' ?_
        refine res_tmp (v := .bool r6) rfl ?_
        refine res_nil ?_
        show Gives _ (.bool r6) _
        exact gives_out hrg (VW.refl _) (hQ _ h)
      · replace h := h.2 hb1
        refine Wl.guardF rfl rfl hb1 rfl ?_
        refine Wl.guardF rfl rfl hb1 rfl ?_
        refine Wl.cons rg (o_pickF rfl hb1 (v := .bool false) rfl ?_)
        refine Wl.cons rg (o_assign (v := .bool false) rfl ?_)
        refine Wl.nil ?_
        refine Vc.ret' ?_
        refine res_tmp (v := .bool false) rfl ?_
        refine res_nil ?_
        show Gives _ (.bool false) _
        exact gives_out hrg (VW.refl _) (hQ _ h)
  · refine Vc.region' ?_
    refine Wl.cons rg (o_call (us := []) rfl (vn) (law45_awake_ctr h fun r7 h => ?_))
    refine Wl.cons rg (o_not rfl ?_)
    refine Wl.cons rg (o_move (v := .bool (!r7)) rfl ?_)
    refine Wl.guard rfl rfl (fun hb2 => ?_) (fun hb2 => ?_)
    · replace h := h.2 hb2
      refine Wl.cons rg (o_loadBA (atL (k := 2) rfl) sz27 (by decide) ag27 rfl rfl (v := eRat p) rfl ?_)
      refine Wl.guardT rfl rfl hb2 ?_
      refine Wl.cons rg (o_bslice td22 ok27 zav27 (es := [eRat p]) rfl (kk := 3) rfl rfl rfl rfl rfl rfl (fun g3 => ?_))
      refine Wl.guardT rfl rfl hb2 ?_
      refine Wl.wk (canon_freeze (k := 13) (xs := List.map eRat [p]) rfl (es := [(1, eL eRat factors), (2, .ptr rg 2 g1 0 0), (11, .bool (!r7)), (13, eL eRat [p])]) (fc vr (fc vr (fc vr (fc (frz_full rfl) (fn))))) (m := [(2, .arr 3 [eRat p], g1)]) (sc rfl (sn))) ?_
      refine Wl.cons rg (o_call (us := [eL eRat [p]]) rfl (vl' vr (vn)) (law45_short_ctr h fun r8 h => ?_))
      refine Wl.guardT rfl rfl hb2 ?_
      refine Wl.cons rg (o_not rfl ?_)
      refine Wl.cons rg (o_pickF rfl hb2 (v := .bool (!r8)) rfl ?_)
      refine Wl.cons rg (o_move (v := .bool (!r8)) rfl ?_)
      refine Wl.guard rfl rfl (fun hb3 => ?_) (fun hb3 => ?_)
      · replace h := h.2 hb3
        refine Wl.cons rg (o_move (v := eL eRat factors) rfl ?_)
        refine Wl.guardT rfl rfl hb3 ?_
        refine Wl.cons rg (o_call (us := [eL eRat factors]) rfl (vl' vr (vn)) (law45_short_ctr h fun r9 h => ?_))
        refine Wl.guardT rfl rfl hb3 ?_
        refine Wl.cons rg (o_not rfl ?_)
        refine Wl.cons rg (o_pickF rfl hb3 (v := .bool (!r9)) rfl ?_)
        refine Wl.nil ?_
        exact ⟨((!r9), g1), (canon (fc vr (fc vr (fc vr (fn)))) (sc rfl (sn))), h⟩
      · replace h := h.1 hb3
        refine Wl.guardF rfl rfl hb3 rfl ?_
        refine Wl.guardF rfl rfl hb3 rfl ?_
        refine Wl.cons rg (o_pickT rfl hb3 (v := .bool true) rfl ?_)
        refine Wl.nil ?_
        exact ⟨(true, g1), (canon (fc vr (fc vr (fc vr (fn)))) (sc rfl (sn))), h⟩
    · replace h := h.1 hb2
      refine Wl.guardF rfl rfl hb2 rfl ?_
      refine Wl.guardF rfl rfl hb2 rfl ?_
      refine Wl.guardF rfl rfl hb2 rfl ?_
      refine Wl.cons rg (o_pickT rfl hb2 (v := .bool true) rfl ?_)
      refine Wl.cons rg (o_move (v := .bool true) rfl ?_)
      refine Wl.guardF rfl rfl rfl rfl ?_
      refine Wl.guardF rfl rfl rfl rfl ?_
      refine Wl.guardF rfl rfl rfl rfl ?_
      refine Wl.cons rg (o_pickT rfl rfl (v := .bool true) rfl ?_)
      refine Wl.nil ?_
      exact ⟨(true, g1), (canon (fc vr (fc vr (fc vr (fn)))) (sc rfl (sn))), h⟩
end Go.Proofs.Ytonbnfgknijpoaa
