/- Walks of functions. Conditions: none. -/
import Derived.Test.YtonbnfgknijpoaaWLProductChains
import Derived.Test.YtonbnfgknijpoaaGgTy
import Derived.Test.YtonbnfgknijpoaaKB
import Derived.Test.YtonbnfgknijpoaaKBn
import Derived.Test.YtonbnfgknijpoaaKH50
import Derived.Test.YtonbnfgknijpoaaKPchain
import Derived.Test.YtonbnfgknijpoaaKPproductd
import Derived.Test.YtonbnfgknijpoaaKR50d
import Derived.Test.YtonbnfgknijpoaaKS
namespace Go.Proofs.Ytonbnfgknijpoaa
open Go.Gg
set_option maxRecDepth 100000
theorem law50_ProductChains_ctr {x : GRates} {f : GFormula} {Q : Bool → Prop} {S : St} {R : AV → St → Prop} (h : law50_ProductChains_W x f Q) (hQ : ∀ r1, Q r1 → R (AV.bool r1) S) :
    Ctr Try.prog 12 [eRates x, eFormula f] S R := by
  unfold law50_ProductChains_W at h
  refine enterT Try.func12 rfl Try.ntmps12 Try.results12 (by kernel_rfl) (fun rg hrg => ?_)
  refine qZ (rZ ?_)
  refine wZ rg (o_box (v := eRates x) rfl rfl (kk := 2) rfl (by decide) (fun g1 => ?_))
  refine wZ rg (o_box (v := eFormula f) rfl rfl (kk := 3) rfl (by decide) (fun g2 => ?_))
  refine asZ (.bool false) rfl ?_
  refine nZ (qZ ?_)
  obtain ⟨J, h, hJ⟩ := h
  refine Vc.join' (σ := ((Bool) × (Nat × Nat))) (fun y => J y.1) (fun y => envOf [(2, .ptr rg 2 y.2.1 0 0), (3, .ptr rg 3 y.2.2 0 0), (27, .bool y.1)]) (fun y => stL S rg [(2, .arr 2 [eRates x], y.2.1), (3, .arr 3 [eFormula f], y.2.2)]) (fun y h => ?_) ?_
  · obtain ⟨x1, ⟨g3, g4⟩⟩ := y
    replace h := hJ x1 h
    show Vc _ _ _ _ (envOf [(2, .ptr rg 2 g3 0 0), (3, .ptr rg 3 g4 0 0), (27, .bool x1)]) (stL S rg [(2, .arr 2 [eRates x], g3), (3, .arr 3 [eFormula f], g4)])
    refine Vc.cond' rfl (fun hb => ?_) (fun hb => ?_)
    · replace h := h.1 hb
      refine qZ (rZ ?_)
      refine wZ rg (o_call (us := []) rfl (vn) (law50_awake_ctr h fun r h => ?_))
      refine asZ (.bool r) rfl ?_
      refine nZ ?_
      refine Vc.ret' ?_
      refine res_tmp (v := .bool r) rfl ?_
      refine res_nil ?_
      show Gives _ (.bool r) _
      exact gives_out hrg (VW.refl _) (hQ _ h)
    replace h := h.2 hb
    refine Vc.skip' ?_
    refine qZ (rZ ?_)
    refine wZ rg (o_faP td24 rfl rfl (by rw [sz22]; decide) rfl ?_)
    refine wZ rg (o_loadB1 (atL (k := 2) rfl) sz22 ag22 rfl rfl (v := eL eRat x.Fail) rfl ?_)
    refine wZ rg (o_faP td24 rfl rfl (by rw [sz22]; decide) rfl ?_)
    refine wZ rg (o_loadB1 (atL (k := 2) rfl) sz22 ag22 rfl rfl (v := eL eRat x.Repair) rfl ?_)
    refine wZ rg (o_loadBA (atL (k := 3) rfl) sz70 (by decide) ag70 rfl rfl (v := eFormula f) rfl ?_)
    refine wZ rg (o_call (us := [eL eRat x.Fail, eL eRat x.Repair, eFormula f]) rfl (vl' vr (vl' vr (vl' vr (vn)))) (product_Chain_ctr h fun r1 r2 h => ?_))
    refine mvZ (.tuple [eChain r1, eErr 107 r2]) rfl ?_
    refine wZ rg (o_extract (v := eChain r1) rfl rfl rfl ?_)
    refine wZ rg (o_extract (v := eErr 107 r2) rfl rfl rfl ?_)
    refine wZ rg (o_alloc zav65 ok65 (kk := 4) rfl (fun g5 => ?_))
    refine wZ rg (o_storeB (atL (k := 5) rfl) sz65 (by decide) rfl (w := eChain r1) rfl rfl rfl (v := eChain r1) rfl setL ?_)
    refine asZ (eErr 107 r2) rfl ?_
    refine nZ (qZ (rZ ?_))
    refine wZ rg (o_faP td24 rfl rfl (by rw [sz22]; decide) rfl ?_)
    refine wZ rg (o_loadB1 (atL (k := 2) rfl) sz22 ag22 rfl rfl (v := eL eRat x.Fail) rfl ?_)
    refine wZ rg (o_faP td24 rfl rfl (by rw [sz22]; decide) rfl ?_)
    refine wZ rg (o_loadB1 (atL (k := 2) rfl) sz22 ag22 rfl rfl (v := eL eRat x.Repair) rfl ?_)
    refine wZ rg (o_loadBA (atL (k := 3) rfl) sz70 (by decide) ag70 rfl rfl (v := eFormula f) rfl ?_)
    refine wZ rg (o_call (us := [eL eRat x.Fail, eL eRat x.Repair, eFormula f]) rfl (vl' vr (vl' vr (vl' vr (vn)))) (ref50_Chain_ctr h fun r3 r4 h => ?_))
    refine mvZ (.tuple [eChain r3, .int .i64 r4]) rfl ?_
    refine wZ rg (o_extract (v := eChain r3) rfl rfl rfl ?_)
    refine wZ rg (o_extract (v := .int .i64 r4) rfl rfl rfl ?_)
    refine wZ rg (o_alloc zav65 ok65 (kk := 4) rfl (fun g6 => ?_))
    refine wZ rg (o_storeB (atL (k := 7) rfl) sz65 (by decide) rfl (w := eChain r3) rfl rfl rfl (v := eChain r3) rfl setL ?_)
    refine asZ (.int .i64 r4) rfl ?_
    refine nZ (qZ (rZ ?_))
    refine mvZ (eErr 107 r2) rfl ?_
    refine wZ rg (o_call (us := [eErr 107 r2]) rfl (vl' vr (vn)) (base_Num_ctr h fun r5 h => ?_))
    refine mvZ (.int .i64 r4) rfl ?_
    refine wZ rg (o_eql rfl rfl ?_)
    refine mvZ (.bool (r5 == r4)) rfl ?_
    refine Wl.guard rfl rfl (fun hb1 => ?_) (fun hb1 => ?_)
    · replace h := h.1 hb1
      refine wZ rg (o_loadBA (atL (k := 5) rfl) sz65 (by decide) ag65 rfl rfl (v := eChain r1) rfl ?_)
      refine Wl.guardT rfl rfl hb1 ?_
      refine wZ rg (o_loadBA (atL (k := 7) rfl) sz65 (by decide) ag65 rfl rfl (v := eChain r3) rfl ?_)
      refine Wl.guardT rfl rfl hb1 ?_
      refine wZ rg (o_call (us := [eChain r1, eChain r3]) rfl (vl' vr (vl' vr (vn))) (base_Chain_ctr h fun r6 h => ?_))
      refine wZ rg (o_pickT rfl hb1 (v := .bool r6) rfl ?_)
      refine mvZ (.bool r6) rfl ?_
      refine Wl.guard rfl rfl (fun hb2 => ?_) (fun hb2 => ?_)
      · replace h := h.1 hb2
        refine mvZ (.int .i64 r4) rfl ?_
        refine Wl.guardT rfl rfl hb2 ?_
        refine wZ rg (o_neq rfl rfl ?_)
        refine Wl.guardT rfl rfl hb2 ?_
        refine mvZ (.bool (r4 != 0)) rfl ?_
        refine Wl.guard rfl rfl (fun hb3 => ?_) (fun hb3 => ?_)
        · replace h := h.2 hb3
          refine wZ rg (o_loadBA (atL (k := 5) rfl) sz65 (by decide) ag65 rfl rfl (v := eChain r1) rfl ?_)
          refine Wl.guardT rfl rfl hb3 ?_
          refine wZ rg (o_call (us := [eChain r1]) rfl (vl' vr (vn)) (chain_Check_ctr h fun r7 h => ?_))
          refine Wl.guardT rfl rfl hb3 ?_
          refine wZ rg (o_isnil td31 (E := 107) rfl rfl rfl ?_)
          refine Wl.guardT rfl rfl hb2 ?_
          refine wZ rg (o_pickF rfl hb3 (v := .bool (Option.isNone r7)) rfl ?_)
          refine wZ rg (o_pickT rfl hb2 (v := .bool (Option.isNone r7)) rfl ?_)
          refine asZ (.bool (Option.isNone r7)) rfl ?_
          refine nZ ?_
          refine Vc.ret' ?_
          refine res_tmp (v := .bool (Option.isNone r7)) rfl ?_
          refine res_nil ?_
          show Gives _ (.bool (Option.isNone r7)) _
          exact gives_out hrg (VW.refl _) (hQ _ h)
        replace h := h.1 hb3
        refine Wl.guardF rfl rfl hb3 rfl ?_
        refine Wl.guardF rfl rfl hb3 rfl ?_
        refine Wl.guardT rfl rfl hb2 ?_
        refine wZ rg (o_pickT rfl hb3 (v := .bool true) rfl ?_)
        refine wZ rg (o_pickT rfl hb2 (v := .bool true) rfl ?_)
        refine asZ (.bool true) rfl ?_
        refine nZ ?_
        refine Vc.ret' ?_
        refine res_tmp (v := .bool true) rfl ?_
        refine res_nil ?_
        show Gives _ (.bool true) _
        exact gives_out hrg (VW.refl _) (hQ _ h)
      replace h := h.2 hb2
      refine Wl.guardF rfl rfl hb2 rfl ?_
      refine Wl.guardF rfl rfl hb2 rfl ?_
      refine Wl.guardU rfl rfl ?_
      refine Wl.guardU rfl rfl ?_
      refine Wl.guardU rfl rfl ?_
      refine Wl.guardF rfl rfl hb2 rfl ?_
      refine wZ rg (o_pickF rfl hb2 (v := .bool false) rfl ?_)
      refine asZ (.bool false) rfl ?_
      refine nZ ?_
      refine Vc.ret' ?_
      refine res_tmp (v := .bool false) rfl ?_
      refine res_nil ?_
      show Gives _ (.bool false) _
      exact gives_out hrg (VW.refl _) (hQ _ h)
    replace h := h.2 hb1
    refine Wl.guardF rfl rfl hb1 rfl ?_
    refine Wl.guardF rfl rfl hb1 rfl ?_
    refine wZ rg (o_pickF rfl hb1 (v := .bool false) rfl ?_)
    refine mvZ (.bool false) rfl ?_
    refine Wl.guardF rfl rfl rfl rfl ?_
    refine Wl.guardF rfl rfl rfl rfl ?_
    refine Wl.guardF rfl rfl rfl rfl ?_
    refine Wl.guardU rfl rfl ?_
    refine Wl.guardU rfl rfl ?_
    refine Wl.guardU rfl rfl ?_
    refine Wl.guardF rfl rfl rfl rfl ?_
    refine wZ rg (o_pickF rfl rfl (v := .bool false) rfl ?_)
    refine asZ (.bool false) rfl ?_
    refine nZ ?_
    refine Vc.ret' ?_
    refine res_tmp (v := .bool false) rfl ?_
    refine res_nil ?_
    show Gives _ (.bool false) _
    exact gives_out hrg (VW.refl _) (hQ _ h)
  refine rZ ?_
  refine wZ rg (o_call (us := []) rfl (vn) (law50_awake_ctr h fun r8 h => ?_))
  refine wZ rg (o_not rfl ?_)
  refine mvZ (.bool (!r8)) rfl ?_
  refine Wl.guard rfl rfl (fun hb4 => ?_) (fun hb4 => ?_)
  · replace h := h.2 hb4
    refine wZ rg (o_faP td24 rfl rfl (by rw [sz22]; decide) rfl ?_)
    refine Wl.guardT rfl rfl hb4 ?_
    refine wZ rg (o_loadB1 (atL (k := 2) rfl) sz22 ag22 rfl rfl (v := eL eRat x.Fail) rfl ?_)
    refine Wl.guardT rfl rfl hb4 ?_
    refine wZ rg (o_call (us := [eL eRat x.Fail, AV.int .i64 20]) rfl (vl' vr (vl' vr (vn))) (law50_short_ctr h fun r9 h => ?_))
    refine Wl.guardT rfl rfl hb4 ?_
    refine wZ rg (o_not rfl ?_)
    refine wZ rg (o_pickF rfl hb4 (v := .bool (!r9)) rfl ?_)
    refine mvZ (.bool (!r9)) rfl ?_
    refine Wl.guard rfl rfl (fun hb5 => ?_) (fun hb5 => ?_)
    · replace h := h.2 hb5
      refine wZ rg (o_faP td24 rfl rfl (by rw [sz22]; decide) rfl ?_)
      refine Wl.guardT rfl rfl hb5 ?_
      refine wZ rg (o_loadB1 (atL (k := 2) rfl) sz22 ag22 rfl rfl (v := eL eRat x.Repair) rfl ?_)
      refine Wl.guardT rfl rfl hb5 ?_
      refine wZ rg (o_call (us := [eL eRat x.Repair, AV.int .i64 20]) rfl (vl' vr (vl' vr (vn))) (law50_short_ctr h fun r10 h => ?_))
      refine Wl.guardT rfl rfl hb5 ?_
      refine wZ rg (o_not rfl ?_)
      refine wZ rg (o_pickF rfl hb5 (v := .bool (!r10)) rfl ?_)
      refine mvZ (.bool (!r10)) rfl ?_
      refine Wl.guard rfl rfl (fun hb6 => ?_) (fun hb6 => ?_)
      · replace h := h.2 hb6
        refine wZ rg (o_loadBA (atL (k := 3) rfl) sz70 (by decide) ag70 rfl rfl (v := eFormula f) rfl ?_)
        refine Wl.guardT rfl rfl hb6 ?_
        refine wZ rg (o_call (us := [eFormula f]) rfl (vl' vr (vn)) (law08_Light_ctr h fun r11 h => ?_))
        refine Wl.guardT rfl rfl hb6 ?_
        refine wZ rg (o_not rfl ?_)
        refine wZ rg (o_pickF rfl hb6 (v := .bool (!r11)) rfl ?_)
        refine nZ ?_
        exact ⟨((!r11), (g1, g2)), (canon (fc vr (fc vr (fc vr (fn)))) (sc rfl (sc rfl (sn)))), h⟩
      replace h := h.1 hb6
      refine Wl.guardF rfl rfl hb6 rfl ?_
      refine Wl.guardF rfl rfl hb6 rfl ?_
      refine wZ rg (o_pickT rfl hb6 (v := .bool true) rfl ?_)
      refine nZ ?_
      exact ⟨(true, (g1, g2)), (canon (fc vr (fc vr (fc vr (fn)))) (sc rfl (sc rfl (sn)))), h⟩
    replace h := h.1 hb5
    refine Wl.guardF rfl rfl hb5 rfl ?_
    refine Wl.guardF rfl rfl hb5 rfl ?_
    refine Wl.guardF rfl rfl hb5 rfl ?_
    refine wZ rg (o_pickT rfl hb5 (v := .bool true) rfl ?_)
    refine mvZ (.bool true) rfl ?_
    refine Wl.guardF rfl rfl rfl rfl ?_
    refine Wl.guardF rfl rfl rfl rfl ?_
    refine Wl.guardF rfl rfl rfl rfl ?_
    refine wZ rg (o_pickT rfl rfl (v := .bool true) rfl ?_)
    refine nZ ?_
    exact ⟨(true, (g1, g2)), (canon (fc vr (fc vr (fc vr (fn)))) (sc rfl (sc rfl (sn)))), h⟩
  replace h := h.1 hb4
  refine Wl.guardF rfl rfl hb4 rfl ?_
  refine Wl.guardF rfl rfl hb4 rfl ?_
  refine Wl.guardF rfl rfl hb4 rfl ?_
  refine wZ rg (o_pickT rfl hb4 (v := .bool true) rfl ?_)
  refine mvZ (.bool true) rfl ?_
  refine Wl.guardF rfl rfl rfl rfl ?_
  refine Wl.guardF rfl rfl rfl rfl ?_
  refine Wl.guardF rfl rfl rfl rfl ?_
  refine Wl.guardF rfl rfl rfl rfl ?_
  refine wZ rg (o_pickT rfl rfl (v := .bool true) rfl ?_)
  refine mvZ (.bool true) rfl ?_
  refine Wl.guardF rfl rfl rfl rfl ?_
  refine Wl.guardF rfl rfl rfl rfl ?_
  refine Wl.guardF rfl rfl rfl rfl ?_
  refine wZ rg (o_pickT rfl rfl (v := .bool true) rfl ?_)
  refine nZ ?_
  exact ⟨(true, (g1, g2)), (canon (fc vr (fc vr (fc vr (fn)))) (sc rfl (sc rfl (sn)))), h⟩
end Go.Proofs.Ytonbnfgknijpoaa
