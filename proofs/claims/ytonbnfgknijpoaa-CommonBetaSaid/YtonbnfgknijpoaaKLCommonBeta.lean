/- Walks of functions. Conditions: none. -/
import Derived.Test.YtonbnfgknijpoaaWLCommonBeta
import Derived.Test.YtonbnfgknijpoaaGgTy
import Derived.Test.YtonbnfgknijpoaaKB
import Derived.Test.YtonbnfgknijpoaaKH45
import Derived.Test.YtonbnfgknijpoaaKPcommon
import Derived.Test.YtonbnfgknijpoaaKR45
namespace Go.Proofs.Ytonbnfgknijpoaa
open Go.Gg
set_option maxRecDepth 100000
theorem law45_CommonBeta_ctr {p : GRat} {beta : GRat} {q : List GRat} {Q : Bool → Prop} {S : St} {R : AV → St → Prop} (h : law45_CommonBeta_W p beta q Q) (hQ : ∀ r1, Q r1 → R (AV.bool r1) S) :
    Ctr Try.prog 6 [eRat p, eRat beta, eL eRat q] S R := by
  unfold law45_CommonBeta_W at h
  refine enterT Try.func6 rfl Try.ntmps6 Try.results6 (by kernel_rfl) (fun rg hrg => ?_)
  refine Vc.seq' ?_
  refine Vc.region' ?_
  refine Wl.cons rg (o_box (v := eRat p) rfl rfl (kk := 3) rfl (by decide) (fun g1 => ?_))
  refine Wl.cons rg (o_box (v := eRat beta) rfl rfl (kk := 3) rfl (by decide) (fun g2 => ?_))
  refine Wl.cons rg (o_assign (v := .bool false) rfl ?_)
  refine Wl.nil ?_
  refine Vc.seq' ?_
  obtain ⟨J, h, hJ⟩ := h
  refine Vc.join' (σ := ((Bool) × (Nat × Nat))) (fun y => J y.1) (fun y => envOf [(2, eL eRat q), (3, .ptr rg 3 y.2.1 0 0), (4, .ptr rg 4 y.2.2 0 0), (30, .bool y.1)]) (fun y => stL S rg [(3, .arr 3 [eRat p], y.2.1), (4, .arr 3 [eRat beta], y.2.2)]) (fun y h => ?_) ?_
  · obtain ⟨x, ⟨g3, g4⟩⟩ := y
    replace h := hJ x h
    show Vc _ _ _ _ (envOf [(2, eL eRat q), (3, .ptr rg 3 g3 0 0), (4, .ptr rg 4 g4 0 0), (30, .bool x)]) (stL S rg [(3, .arr 3 [eRat p], g3), (4, .arr 3 [eRat beta], g4)])
    refine Vc.cond' rfl (fun hb => ?_) (fun hb => ?_)
    · replace h := h.1 hb
      refine Vc.seq' ?_
      refine Vc.region' ?_
      refine Wl.cons rg (o_call (us := []) rfl (vn) (law45_awake_ctr h fun r h => ?_))
      refine Wl.cons rg (o_assign (v := .bool r) rfl ?_)
      refine Wl.nil ?_
      refine Vc.ret' ?_
      refine res_tmp (v := .bool r) rfl ?_
      refine res_nil ?_
      show Gives _ (.bool r) _
      exact gives_out hrg (VW.refl _) (hQ _ h)
    · replace h := h.2 hb
      refine Vc.skip' ?_
      refine Vc.seq' ?_
      refine Vc.region' ?_
      refine Wl.cons rg (o_loadBA (atL (k := 3) rfl) sz27 (by decide) ag27 rfl rfl (v := eRat p) rfl ?_)
      refine Wl.cons rg (o_loadBA (atL (k := 4) rfl) sz27 (by decide) ag27 rfl rfl (v := eRat beta) rfl ?_)
      refine Wl.cons rg (o_call (us := [eRat p, eRat beta]) rfl (vl' vr (vl' vr (vn))) (common_Beta_ctr h fun r1 r2 r3 h => ?_))
      refine Wl.cons rg (o_move (v := .tuple [eRat r1, eRat r2, eErr 107 r3]) rfl ?_)
      refine Wl.cons rg (o_extract (v := eRat r1) rfl rfl rfl ?_)
      refine Wl.cons rg (o_extract (v := eRat r2) rfl rfl rfl ?_)
      refine Wl.cons rg (o_extract (v := eErr 107 r3) rfl rfl rfl ?_)
      refine Wl.cons rg (o_alloc zav27 ok27 (kk := 3) rfl (fun g5 => ?_))
      refine Wl.cons rg (o_alloc zav27 ok27 (kk := 3) rfl (fun g6 => ?_))
      refine Wl.cons rg (o_storeB (atL (k := 7) rfl) sz27 (by decide) rfl (w := eRat r1) rfl rfl rfl (v := eRat r1) rfl setL ?_)
      refine Wl.cons rg (o_storeB (atL (k := 8) rfl) sz27 (by decide) rfl (w := eRat r2) rfl rfl rfl (v := eRat r2) rfl setL ?_)
      refine Wl.cons rg (o_assign (v := eErr 107 r3) rfl ?_)
      refine Wl.nil ?_
      refine Vc.seq' ?_
      refine Vc.region' ?_
      refine Wl.cons rg (o_loadBA (atL (k := 3) rfl) sz27 (by decide) ag27 rfl rfl (v := eRat p) rfl ?_)
      refine Wl.cons rg (o_loadBA (atL (k := 4) rfl) sz27 (by decide) ag27 rfl rfl (v := eRat beta) rfl ?_)
      refine Wl.cons rg (o_call (us := [eRat p, eRat beta]) rfl (vl' vr (vl' vr (vn))) (ref45_Beta_ctr h fun r4 r5 r6 h => ?_))
      refine Wl.cons rg (o_move (v := .tuple [eRat r4, eRat r5, .int .i64 r6]) rfl ?_)
      refine Wl.cons rg (o_extract (v := eRat r4) rfl rfl rfl ?_)
      refine Wl.cons rg (o_extract (v := eRat r5) rfl rfl rfl ?_)
      refine Wl.cons rg (o_extract (v := .int .i64 r6) rfl rfl rfl ?_)
      refine Wl.cons rg (o_alloc zav27 ok27 (kk := 3) rfl (fun g7 => ?_))
      refine Wl.cons rg (o_alloc zav27 ok27 (kk := 3) rfl (fun g8 => ?_))
      refine Wl.cons rg (o_storeB (atL (k := 10) rfl) sz27 (by decide) rfl (w := eRat r4) rfl rfl rfl (v := eRat r4) rfl setL ?_)
      refine Wl.cons rg (o_storeB (atL (k := 11) rfl) sz27 (by decide) rfl (w := eRat r5) rfl rfl rfl (v := eRat r5) rfl setL ?_)
      refine Wl.cons rg (o_assign (v := .int .i64 r6) rfl ?_)
      refine Wl.nil ?_
      refine Vc.seq' ?_
      refine Vc.region' ?_
      refine Wl.cons rg (o_move (v := eL eRat q) rfl ?_)
      refine Wl.cons rg (o_call (us := [eL eRat q]) rfl (vl' vr (vn)) (common_Total_ctr h fun r7 r8 h => ?_))
      refine Wl.cons rg (o_move (v := .tuple [eRat r7, eErr 107 r8]) rfl ?_)
      refine Wl.cons rg (o_extract (v := eRat r7) rfl rfl rfl ?_)
      refine Wl.cons rg (o_extract (v := eErr 107 r8) rfl rfl rfl ?_)
      refine Wl.cons rg (o_alloc zav27 ok27 (kk := 3) rfl (fun g9 => ?_))
      refine Wl.cons rg (o_storeB (atL (k := 13) rfl) sz27 (by decide) rfl (w := eRat r7) rfl rfl rfl (v := eRat r7) rfl setL ?_)
      refine Wl.cons rg (o_assign (v := eErr 107 r8) rfl ?_)
      refine Wl.nil ?_
      refine Vc.seq' ?_
      refine Vc.region' ?_
      refine Wl.cons rg (o_move (v := eL eRat q) rfl ?_)
      refine Wl.cons rg (o_call (us := [eL eRat q]) rfl (vl' vr (vn)) (ref45_Total_ctr h fun r9 r10 h => ?_))
      refine Wl.cons rg (o_move (v := .tuple [eRat r9, .int .i64 r10]) rfl ?_)
      refine Wl.cons rg (o_extract (v := eRat r9) rfl rfl rfl ?_)
      refine Wl.cons rg (o_extract (v := .int .i64 r10) rfl rfl rfl ?_)
      refine Wl.cons rg (o_alloc zav27 ok27 (kk := 3) rfl (fun g10 => ?_))
      refine Wl.cons rg (o_storeB (atL (k := 15) rfl) sz27 (by decide) rfl (w := eRat r9) rfl rfl rfl (v := eRat r9) rfl setL ?_)
      refine Wl.cons rg (o_assign (v := .int .i64 r10) rfl ?_)
      refine Wl.nil ?_
      refine Vc.seq' ?_
      refine Vc.region' ?_
      refine Wl.cons rg (o_move (v := eErr 107 r3) rfl ?_)
      refine Wl.cons rg (o_call (us := [eErr 107 r3]) rfl (vl' vr (vn)) (base_Num_ctr h fun r11 h => ?_))
      refine Wl.cons rg (o_move (v := .int .i64 r6) rfl ?_)
      refine Wl.cons rg (o_eql rfl rfl ?_)
      refine Wl.cons rg (o_move (v := .bool (r11 == r6)) rfl ?_)
      refine Wl.guard rfl rfl (fun hb1 => ?_) (fun hb1 => ?_)
      · replace h := h.1 hb1
        refine Wl.cons rg (o_loadBA (atL (k := 7) rfl) sz27 (by decide) ag27 rfl rfl (v := eRat r1) rfl ?_)
        refine Wl.guardT rfl rfl hb1 ?_
        refine Wl.cons rg (o_loadBA (atL (k := 10) rfl) sz27 (by decide) ag27 rfl rfl (v := eRat r4) rfl ?_)
        refine Wl.guardT rfl rfl hb1 ?_
        refine Wl.cons rg (o_call (us := [eRat r1, eRat r4]) rfl (vl' vr (vl' vr (vn))) (base_Rat_ctr h fun r12 h => ?_))
        refine Wl.cons rg (o_pickT rfl hb1 (v := .bool r12) rfl ?_)
        refine Wl.cons rg (o_move (v := .bool r12) rfl ?_)
        refine Wl.guard rfl rfl (fun hb2 => ?_) (fun hb2 => ?_)
        · replace h := h.1 hb2
          refine Wl.cons rg (o_loadBA (atL (k := 8) rfl) sz27 (by decide) ag27 rfl rfl (v := eRat r2) rfl ?_)
          refine Wl.guardT rfl rfl hb2 ?_
          refine Wl.cons rg (o_loadBA (atL (k := 11) rfl) sz27 (by decide) ag27 rfl rfl (v := eRat r5) rfl ?_)
          refine Wl.guardT rfl rfl hb2 ?_
          refine Wl.cons rg (o_call (us := [eRat r2, eRat r5]) rfl (vl' vr (vl' vr (vn))) (base_Rat_ctr h fun r13 h => ?_))
          refine Wl.cons rg (o_pickT rfl hb2 (v := .bool r13) rfl ?_)
          refine Wl.cons rg (o_move (v := .bool r13) rfl ?_)
          refine Wl.guard rfl rfl (fun hb3 => ?_) (fun hb3 => ?_)
          · replace h := h.1 hb3
            refine Wl.cons rg (o_move (v := eErr 107 r8) rfl ?_)
            refine Wl.guardT rfl rfl hb3 ?_
            refine Wl.cons rg (o_call (us := [eErr 107 r8]) rfl (vl' vr (vn)) (base_Num_ctr h fun r14 h => ?_))
            refine Wl.guardT rfl rfl hb3 ?_
            refine Wl.cons rg (o_move (v := .int .i64 r10) rfl ?_)
            refine Wl.guardT rfl rfl hb3 ?_
            refine Wl.cons rg (o_eql rfl rfl ?_)
            refine Wl.cons rg (o_pickT rfl hb3 (v := .bool (r14 == r10)) rfl ?_)
            refine Wl.cons rg (o_move (v := .bool (r14 == r10)) rfl ?_)
            refine Wl.guard rfl rfl (fun hb4 => ?_) (fun hb4 => ?_)
            · replace h := h.1 hb4
              refine Wl.cons rg (o_loadBA (atL (k := 13) rfl) sz27 (by decide) ag27 rfl rfl (v := eRat r7) rfl ?_)
              refine Wl.guardT rfl rfl hb4 ?_
              refine Wl.cons rg (o_loadBA (atL (k := 15) rfl) sz27 (by decide) ag27 rfl rfl (v := eRat r9) rfl ?_)
              refine Wl.guardT rfl rfl hb4 ?_
              refine Wl.cons rg (o_call (us := [eRat r7, eRat r9]) rfl (vl' vr (vl' vr (vn))) (base_Rat_ctr h fun r15 h => ?_))
              refine Wl.cons rg (o_pickT rfl hb4 (v := .bool r15) rfl ?_)
              refine Wl.cons rg (o_assign (v := .bool r15) rfl ?_)
              refine Wl.nil ?_
              refine Vc.ret' ?_
              refine res_tmp (v := .bool r15) rfl ?_
              refine res_nil ?_
              show Gives _ (.bool r15) _
              exact gives_out hrg (VW.refl _) (hQ _ h)
            · replace h := h.2 hb4
              refine Wl.guardF rfl rfl hb4 rfl ?_
              refine Wl.guardF rfl rfl hb4 rfl ?_
              refine Wl.cons rg (o_pickF rfl hb4 (v := .bool false) rfl ?_)
              refine Wl.cons rg (o_assign (v := .bool false) rfl ?_)
              refine Wl.nil ?_
              refine Vc.ret' ?_
              refine res_tmp (v := .bool false) rfl ?_
              refine res_nil ?_
              show Gives _ (.bool false) _
              exact gives_out hrg (VW.refl _) (hQ _ h)
          · replace h := h.2 hb3
            refine Wl.guardF rfl rfl hb3 rfl ?_
            refine Wl.guardF rfl rfl hb3 rfl ?_
            refine Wl.guardF rfl rfl hb3 rfl ?_
            refine Wl.cons rg (o_pickF rfl hb3 (v := .bool false) rfl ?_)
            refine Wl.cons rg (o_move (v := .bool false) rfl ?_)
            refine Wl.guardF rfl rfl rfl rfl ?_
            refine Wl.guardF rfl rfl rfl rfl ?_
            refine Wl.guardF rfl rfl rfl rfl ?_
            refine Wl.cons rg (o_pickF rfl rfl (v := .bool false) rfl ?_)
            refine Wl.cons rg (o_assign (v := .bool false) rfl ?_)
            refine Wl.nil ?_
            refine Vc.ret' ?_
            refine res_tmp (v := .bool false) rfl ?_
            refine res_nil ?_
            show Gives _ (.bool false) _
            exact gives_out hrg (VW.refl _) (hQ _ h)
        · replace h := h.2 hb2
          refine Wl.guardF rfl rfl hb2 rfl ?_
          refine Wl.guardF rfl rfl hb2 rfl ?_
          refine Wl.cons rg (o_pickF rfl hb2 (v := .bool false) rfl ?_)
          refine Wl.cons rg (o_move (v := .bool false) rfl ?_)
          refine Wl.guardF rfl rfl rfl rfl ?_
          refine Wl.guardF rfl rfl rfl rfl ?_
          refine Wl.guardF rfl rfl rfl rfl ?_
          refine Wl.guardF rfl rfl rfl rfl ?_
          refine Wl.cons rg (o_pickF rfl rfl (v := .bool false) rfl ?_)
          refine Wl.cons rg (o_move (v := .bool false) rfl ?_)
          refine Wl.guardF rfl rfl rfl rfl ?_
          refine Wl.guardF rfl rfl rfl rfl ?_
          refine Wl.guardF rfl rfl rfl rfl ?_
          refine Wl.cons rg (o_pickF rfl rfl (v := .bool false) rfl ?_)
          refine Wl.cons rg (o_assign (v := .bool false) rfl ?_)
          refine Wl.nil ?_
          refine Vc.ret' ?_
          refine res_tmp (v := .bool false) rfl ?_
          refine res_nil ?_
          show Gives _ (.bool false) _
          exact gives_out hrg (VW.refl _) (hQ _ h)
      · replace h := h.2 hb1
        refine Wl.guardF rfl rfl hb1 rfl ?_
        refine Wl.guardF rfl rfl hb1 rfl ?_
        refine Wl.cons rg (o_pickF rfl hb1 (v := .bool false) rfl ?_)
        refine Wl.cons rg (o_move (v := .bool false) rfl ?_)
        refine Wl.guardF rfl rfl rfl rfl ?_
        refine Wl.guardF rfl rfl rfl rfl ?_
        refine Wl.guardF rfl rfl rfl rfl ?_
        refine Wl.cons rg (o_pickF rfl rfl (v := .bool false) rfl ?_)
        refine Wl.cons rg (o_move (v := .bool false) rfl ?_)
        refine Wl.guardF rfl rfl rfl rfl ?_
        refine Wl.guardF rfl rfl rfl rfl ?_
        refine Wl.guardF rfl rfl rfl rfl ?_
        refine Wl.guardF rfl rfl rfl rfl ?_
        refine Wl.cons rg (o_pickF rfl rfl (v := .bool false) rfl ?_)
        refine Wl.cons rg (o_move (v := .bool false) rfl ?_)
        refine Wl.guardF rfl rfl rfl rfl ?_
        refine Wl.guardF rfl rfl rfl rfl ?_
        refine Wl.guardF rfl rfl rfl rfl ?_
        refine Wl.cons rg (o_pickF rfl rfl (v := .bool false) rfl ?_)
        refine Wl.cons rg (o_assign (v := .bool false) rfl ?_)
        refine Wl.nil ?_
        refine Vc.ret' ?_
        refine res_tmp (v := .bool false) rfl ?_
        refine res_nil ?_
        show Gives _ (.bool false) _
        exact gives_out hrg (VW.refl _) (hQ _ h)
  · refine Vc.region' ?_
    refine Wl.cons rg (o_call (us := []) rfl (vn) (law45_awake_ctr h fun r16 h => ?_))
    refine Wl.cons rg (o_not rfl ?_)
    refine Wl.cons rg (o_move (v := .bool (!r16)) rfl ?_)
    refine Wl.guard rfl rfl (fun hb5 => ?_) (fun hb5 => ?_)
    · replace h := h.2 hb5
      refine Wl.cons rg (o_loadBA (atL (k := 3) rfl) sz27 (by decide) ag27 rfl rfl (v := eRat p) rfl ?_)
      refine Wl.guardT rfl rfl hb5 ?_
      refine Wl.cons rg (o_loadBA (atL (k := 4) rfl) sz27 (by decide) ag27 rfl rfl (v := eRat beta) rfl ?_)
      refine Wl.guardT rfl rfl hb5 ?_
      refine Wl.cons rg (o_bslice td22 ok27 zav27 (es := [eRat p, eRat beta]) rfl (kk := 3) rfl rfl rfl rfl rfl rfl (fun g11 => ?_))
      refine Wl.guardT rfl rfl hb5 ?_
      refine Wl.wk (canon_freeze (k := 22) (xs := List.map eRat [p, beta]) rfl (es := [(2, eL eRat q), (3, .ptr rg 3 g1 0 0), (4, .ptr rg 4 g2 0 0), (19, .bool (!r16)), (22, eL eRat [p, beta])]) (fc vr (fc vr (fc vr (fc vr (fc (frz_full rfl) (fn)))))) (m := [(3, .arr 3 [eRat p], g1), (4, .arr 3 [eRat beta], g2)]) (sc rfl (sc rfl (sn)))) ?_
      refine Wl.cons rg (o_call (us := [eL eRat [p, beta]]) rfl (vl' vr (vn)) (law45_short_ctr h fun r17 h => ?_))
      refine Wl.guardT rfl rfl hb5 ?_
      refine Wl.cons rg (o_not rfl ?_)
      refine Wl.cons rg (o_pickF rfl hb5 (v := .bool (!r17)) rfl ?_)
      refine Wl.cons rg (o_move (v := .bool (!r17)) rfl ?_)
      refine Wl.guard rfl rfl (fun hb6 => ?_) (fun hb6 => ?_)
      · replace h := h.2 hb6
        refine Wl.cons rg (o_move (v := eL eRat q) rfl ?_)
        refine Wl.guardT rfl rfl hb6 ?_
        refine Wl.cons rg (o_call (us := [eL eRat q]) rfl (vl' vr (vn)) (law45_short_ctr h fun r18 h => ?_))
        refine Wl.guardT rfl rfl hb6 ?_
        refine Wl.cons rg (o_not rfl ?_)
        refine Wl.cons rg (o_pickF rfl hb6 (v := .bool (!r18)) rfl ?_)
        refine Wl.nil ?_
        exact ⟨((!r18), (g1, g2)), (canon (fc vr (fc vr (fc vr (fc vr (fn))))) (sc rfl (sc rfl (sn)))), h⟩
      · replace h := h.1 hb6
        refine Wl.guardF rfl rfl hb6 rfl ?_
        refine Wl.guardF rfl rfl hb6 rfl ?_
        refine Wl.cons rg (o_pickT rfl hb6 (v := .bool true) rfl ?_)
        refine Wl.nil ?_
        exact ⟨(true, (g1, g2)), (canon (fc vr (fc vr (fc vr (fc vr (fn))))) (sc rfl (sc rfl (sn)))), h⟩
    · replace h := h.1 hb5
      refine Wl.guardF rfl rfl hb5 rfl ?_
      refine Wl.guardF rfl rfl hb5 rfl ?_
      refine Wl.guardF rfl rfl hb5 rfl ?_
      refine Wl.guardF rfl rfl hb5 rfl ?_
      refine Wl.cons rg (o_pickT rfl hb5 (v := .bool true) rfl ?_)
      refine Wl.cons rg (o_move (v := .bool true) rfl ?_)
      refine Wl.guardF rfl rfl rfl rfl ?_
      refine Wl.guardF rfl rfl rfl rfl ?_
      refine Wl.guardF rfl rfl rfl rfl ?_
      refine Wl.cons rg (o_pickT rfl rfl (v := .bool true) rfl ?_)
      refine Wl.nil ?_
      exact ⟨(true, (g1, g2)), (canon (fc vr (fc vr (fc vr (fc vr (fn))))) (sc rfl (sc rfl (sn)))), h⟩
end Go.Proofs.Ytonbnfgknijpoaa
