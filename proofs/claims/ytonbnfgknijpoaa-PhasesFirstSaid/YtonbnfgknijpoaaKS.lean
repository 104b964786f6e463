/- Walks of functions. Conditions: none. -/
import Derived.Test.YtonbnfgknijpoaaWS
import Derived.Test.YtonbnfgknijpoaaGgTy
namespace Go.Proofs.Ytonbnfgknijpoaa
open Go.Gg
set_option maxRecDepth 100000
theorem law49_Brief_ctr {x : GRat} {others : Int} {Q : Bool → Prop} {S : St} {R : AV → St → Prop} (h : law49_Brief_W x others Q) (hQ : ∀ r1, Q r1 → R (AV.bool r1) S) :
    Ctr Try.prog 84 [eRat x, AV.int .i64 others] S R := by
  unfold law49_Brief_W at h
  refine enterT Try.func84 rfl Try.ntmps84 Try.results84 (by kernel_rfl) (fun rg hrg => ?_)
  refine qZ (rZ (wZ rg (o_box (v := eRat x) rfl rfl (kk := 3) rfl (by decide) (fun g1 => (asZ (.bool false) rfl (nZ (qZ (qZ (rZ (mvZ (.int .i64 others) rfl (wZ rg (o_leq rfl rfl (nZ ?_)))))))))))))
  refine Vc.cond' rfl (fun hb => ?_) (fun hb => ?_)
  · replace h := h.1 hb
    refine qZ (rZ (wZ rg (o_faP td27 rfl rfl (by rw [sz25]; decide) rfl (wZ rg (o_loadB1 (atL (k := 2) rfl) sz25 ag25 rfl rfl (v := eL (AV.int .u32) x.Num) rfl (wZ rg (o_len td25 rfl (wZ rg (o_leq rfl rfl (mvZ (.bool (decide ((x.Num.length : Int) ≤ 2))) rfl ?_))))))))))
    refine Wl.guard rfl rfl (fun hb1 => ?_) (fun hb1 => ?_)
    · replace h := h.1 hb1
      refine wZ rg (o_faP td27 rfl rfl (by rw [sz25]; decide) rfl ?_)
      refine Wl.guardT rfl rfl hb1 ?_
      refine wZ rg (o_loadB1 (atL (k := 2) rfl) sz25 ag25 rfl rfl (v := eL (AV.int .u32) x.Den) rfl ?_)
      refine Wl.guardT rfl rfl hb1 ?_
      refine wZ rg (o_len td25 rfl ?_)
      refine Wl.guardT rfl rfl hb1 ?_
      refine wZ rg (o_leq rfl rfl (wZ rg (o_pickT rfl hb1 (v := .bool (decide ((x.Den.length : Int) ≤ 2))) rfl (asZ (.bool (decide ((x.Den.length : Int) ≤ 2))) rfl (nZ ?_)))))
      refine Vc.ret' ?_
      refine res_tmp (v := .bool (decide ((x.Den.length : Int) ≤ 2))) rfl (res_nil ?_)
      show Gives _ (.bool (decide ((x.Den.length : Int) ≤ 2))) _
      exact gives_out hrg (VW.refl _) (hQ _ h)
    replace h := h.2 hb1
    refine Wl.guardF rfl rfl hb1 rfl ?_
    refine Wl.guardF rfl rfl hb1 rfl ?_
    refine Wl.guardF rfl rfl hb1 rfl ?_
    refine wZ rg (o_pickF rfl hb1 (v := .bool false) rfl (asZ (.bool false) rfl (nZ ?_)))
    refine Vc.ret' ?_
    refine res_tmp (v := .bool false) rfl (res_nil ?_)
    show Gives _ (.bool false) _
    exact gives_out hrg (VW.refl _) (hQ _ h)
  replace h := h.2 hb
  refine Vc.skip' ?_
  refine qZ (rZ (wZ rg (o_faP td27 rfl rfl (by rw [sz25]; decide) rfl (wZ rg (o_loadB1 (atL (k := 2) rfl) sz25 ag25 rfl rfl (v := eL (AV.int .u32) x.Num) rfl (wZ rg (o_len td25 rfl (wZ rg (o_leq rfl rfl (mvZ (.bool (decide ((x.Num.length : Int) ≤ 1))) rfl ?_))))))))))
  refine Wl.guard rfl rfl (fun hb2 => ?_) (fun hb2 => ?_)
  · replace h := h.1 hb2
    refine wZ rg (o_faP td27 rfl rfl (by rw [sz25]; decide) rfl ?_)
    refine Wl.guardT rfl rfl hb2 ?_
    refine wZ rg (o_loadB1 (atL (k := 2) rfl) sz25 ag25 rfl rfl (v := eL (AV.int .u32) x.Den) rfl ?_)
    refine Wl.guardT rfl rfl hb2 ?_
    refine wZ rg (o_len td25 rfl ?_)
    refine Wl.guardT rfl rfl hb2 ?_
    refine wZ rg (o_eql rfl rfl ?_)
    refine Wl.guardT rfl rfl hb2 ?_
    refine mvZ (.bool ((x.Den.length : Int) == 0)) rfl ?_
    refine Wl.guard rfl rfl (fun hb3 => ?_) (fun hb3 => ?_)
    · replace h := h.2 hb3
      refine wZ rg (o_faP td27 rfl rfl (by rw [sz25]; decide) rfl ?_)
      refine Wl.guardT rfl rfl hb3 ?_
      refine wZ rg (o_loadB1 (atL (k := 2) rfl) sz25 ag25 rfl rfl (v := eL (AV.int .u32) x.Den) rfl ?_)
      refine Wl.guardT rfl rfl hb3 ?_
      refine wZ rg (o_len td25 rfl ?_)
      refine Wl.guardT rfl rfl hb3 ?_
      refine wZ rg (o_eql rfl rfl ?_)
      refine Wl.guardT rfl rfl hb3 ?_
      refine mvZ (.bool ((x.Den.length : Int) == 1)) rfl ?_
      refine Wl.guard rfl rfl (fun hb4 => ?_) (fun hb4 => ?_)
      · replace h := h.1 hb4
        refine wZ rg (o_faP td27 rfl rfl (by rw [sz25]; decide) rfl ?_)
        refine Wl.guardT rfl rfl hb4 ?_
        refine wZ rg (o_loadB1 (atL (k := 2) rfl) sz25 ag25 rfl rfl (v := eL (AV.int .u32) x.Den) rfl ?_)
        refine Wl.guardT rfl rfl hb4 ?_
        refine wZ rg (o_idxL td25 sz173 (by decide) (fun _ => rfl) rfl rfl h.1 ?_)
        replace h := h.2
        refine Wl.guardT rfl rfl hb4 ?_
        refine wZ rg (o_loadI1 sz173 ag173 rfl rfl (v := .int .u32 (at' x.Den 0)) rfl ?_)
        refine Wl.guardT rfl rfl hb4 ?_
        refine wZ rg (o_lss rfl rfl ?_)
        refine Wl.guardT rfl rfl hb3 ?_
        refine wZ rg (o_pickT rfl hb4 (v := .bool (decide ((at' x.Den 0) < 1024))) rfl ?_)
        refine Wl.guardT rfl rfl hb2 ?_
        refine wZ rg (o_pickF rfl hb3 (v := .bool (decide ((at' x.Den 0) < 1024))) rfl (wZ rg (o_pickT rfl hb2 (v := .bool (decide ((at' x.Den 0) < 1024))) rfl (asZ (.bool (decide ((at' x.Den 0) < 1024))) rfl (nZ ?_)))))
        refine Vc.ret' ?_
        refine res_tmp (v := .bool (decide ((at' x.Den 0) < 1024))) rfl (res_nil ?_)
        show Gives _ (.bool (decide ((at' x.Den 0) < 1024))) _
        exact gives_out hrg (VW.refl _) (hQ _ h)
      replace h := h.2 hb4
      refine Wl.guardF rfl rfl hb4 rfl ?_
      refine Wl.guardF rfl rfl hb4 rfl ?_
      refine Wl.guardF rfl rfl hb4 rfl ?_
      refine Wl.guardF rfl rfl hb4 rfl ?_
      refine Wl.guardT rfl rfl hb3 ?_
      refine wZ rg (o_pickF rfl hb4 (v := .bool false) rfl ?_)
      refine Wl.guardT rfl rfl hb2 ?_
      refine wZ rg (o_pickF rfl hb3 (v := .bool false) rfl (wZ rg (o_pickT rfl hb2 (v := .bool false) rfl (asZ (.bool false) rfl (nZ ?_)))))
      refine Vc.ret' ?_
      refine res_tmp (v := .bool false) rfl (res_nil ?_)
      show Gives _ (.bool false) _
      exact gives_out hrg (VW.refl _) (hQ _ h)
    replace h := h.1 hb3
    refine Wl.guardF rfl rfl hb3 rfl ?_
    refine Wl.guardF rfl rfl hb3 rfl ?_
    refine Wl.guardF rfl rfl hb3 rfl ?_
    refine Wl.guardF rfl rfl hb3 rfl ?_
    refine Wl.guardU rfl rfl ?_
    refine Wl.guardU rfl rfl ?_
    refine Wl.guardU rfl rfl ?_
    refine Wl.guardU rfl rfl ?_
    refine Wl.guardU rfl rfl ?_
    refine Wl.guardF rfl rfl hb3 rfl ?_
    refine Wl.guardT rfl rfl hb2 ?_
    refine wZ rg (o_pickT rfl hb3 (v := .bool true) rfl (wZ rg (o_pickT rfl hb2 (v := .bool true) rfl (asZ (.bool true) rfl (nZ ?_)))))
    refine Vc.ret' ?_
    refine res_tmp (v := .bool true) rfl (res_nil ?_)
    show Gives _ (.bool true) _
    exact gives_out hrg (VW.refl _) (hQ _ h)
  replace h := h.2 hb2
  refine Wl.guardF rfl rfl hb2 rfl ?_
  refine Wl.guardF rfl rfl hb2 rfl ?_
  refine Wl.guardF rfl rfl hb2 rfl ?_
  refine Wl.guardF rfl rfl hb2 rfl ?_
  refine Wl.guardU rfl rfl ?_
  refine Wl.guardU rfl rfl ?_
  refine Wl.guardU rfl rfl ?_
  refine Wl.guardU rfl rfl ?_
  refine Wl.guardU rfl rfl ?_
  refine Wl.guardU rfl rfl ?_
  refine Wl.guardU rfl rfl ?_
  refine Wl.guardU rfl rfl ?_
  refine Wl.guardU rfl rfl ?_
  refine Wl.guardU rfl rfl ?_
  refine Wl.guardU rfl rfl ?_
  refine Wl.guardF rfl rfl hb2 rfl ?_
  refine wZ rg (o_pickF rfl hb2 (v := .bool false) rfl (asZ (.bool false) rfl (nZ ?_)))
  refine Vc.ret' ?_
  refine res_tmp (v := .bool false) rfl (res_nil ?_)
  show Gives _ (.bool false) _
  exact gives_out hrg (VW.refl _) (hQ _ h)
theorem law22_Short_ctr {a : GRat} {Q : Bool → Prop} {S : St} {R : AV → St → Prop} (h : law22_Short_W a Q) (hQ : ∀ r1, Q r1 → R (AV.bool r1) S) :
    Ctr Try.prog 95 [eRat a] S R := by
  unfold law22_Short_W at h
  refine enterT Try.func95 rfl Try.ntmps95 Try.results95 (by kernel_rfl) (fun rg hrg => ?_)
  refine qZ (rZ (wZ rg (o_box (v := eRat a) rfl rfl (kk := 3) rfl (by decide) (fun g1 => (asZ (.bool false) rfl (nZ (qZ (rZ (wZ rg (o_faP td27 rfl rfl (by rw [sz25]; decide) rfl (wZ rg (o_loadB1 (atL (k := 1) rfl) sz25 ag25 rfl rfl (v := eL (AV.int .u32) a.Num) rfl (wZ rg (o_len td25 rfl (wZ rg (o_leq rfl rfl (mvZ (.bool (decide ((a.Num.length : Int) ≤ 40))) rfl ?_)))))))))))))))))
  refine Wl.guard rfl rfl (fun hb => ?_) (fun hb => ?_)
  · replace h := h.1 hb
    refine wZ rg (o_faP td27 rfl rfl (by rw [sz25]; decide) rfl ?_)
    refine Wl.guardT rfl rfl hb ?_
    refine wZ rg (o_loadB1 (atL (k := 1) rfl) sz25 ag25 rfl rfl (v := eL (AV.int .u32) a.Den) rfl ?_)
    refine Wl.guardT rfl rfl hb ?_
    refine wZ rg (o_len td25 rfl ?_)
    refine Wl.guardT rfl rfl hb ?_
    refine wZ rg (o_leq rfl rfl (wZ rg (o_pickT rfl hb (v := .bool (decide ((a.Den.length : Int) ≤ 40))) rfl (asZ (.bool (decide ((a.Den.length : Int) ≤ 40))) rfl (nZ ?_)))))
    refine Vc.ret' ?_
    refine res_tmp (v := .bool (decide ((a.Den.length : Int) ≤ 40))) rfl (res_nil ?_)
    show Gives _ (.bool (decide ((a.Den.length : Int) ≤ 40))) _
    exact gives_out hrg (VW.refl _) (hQ _ h)
  replace h := h.2 hb
  refine Wl.guardF rfl rfl hb rfl ?_
  refine Wl.guardF rfl rfl hb rfl ?_
  refine Wl.guardF rfl rfl hb rfl ?_
  refine wZ rg (o_pickF rfl hb (v := .bool false) rfl (asZ (.bool false) rfl (nZ ?_)))
  refine Vc.ret' ?_
  refine res_tmp (v := .bool false) rfl (res_nil ?_)
  show Gives _ (.bool false) _
  exact gives_out hrg (VW.refl _) (hQ _ h)
theorem slices_Clone___int_int_ctr {s : List Int} {Q : List Int → Prop} {S : St} {R : AV → St → Prop} (h : slices_Clone___int_int_W s Q) (hQ : ∀ r1, Q r1 → R (eL (AV.int .i64) r1) S) :
    Ctr Try.prog 129 [eL (AV.int .i64) s] S R := by
  unfold slices_Clone___int_int_W at h
  refine enterT Try.func129 rfl Try.ntmps129 Try.results129 (by kernel_rfl) (fun rg hrg => ?_)
  refine qZ (rZ (asZ .nil rfl (nZ (qZ (qZ (rZ (mvZ (eL (AV.int .i64) s) rfl ?_)))))))
  refine Wl.isnil td76 rfl rfl (fun isnil hn => ?_)
  replace h := h isnil hn
  refine nZ ?_
  refine Vc.cond' rfl (fun hb => ?_) (fun hb => ?_)
  · replace h := h.1 hb
    refine qZ (rZ (asZ .nil rfl (nZ ?_)))
    refine Vc.ret' ?_
    refine res_tmp (v := .nil) rfl (res_nil ?_)
    show Gives _ .nil _
    exact gives_out hrg (VW.nilL) (hQ _ h)
  replace h := h.2 hb
  refine Vc.skip' ?_
  refine qZ (rZ (wZ rg (o_bslice td76 ok3 zav3 (es := []) rfl (kk := 1) rfl rfl rfl rfl rfl rfl (fun g1 => (mvZ (eL (AV.int .i64) s) rfl (wZ rg (o_appR td76 bts3 ok3 zav3 (es := []) (xs := s) (enc := AV.int .i64) (atL (k := 5) rfl) (by first | rfl | omega | (simp only [go_sem] <;> omega)) (rfl) (kk := 1) rfl rfl (fun _ => rfl) (fun _ => rfl) h.1 rfl (fun _ => setL) (fun g2 => ?_))))))))
  replace h := h.2
  refine asZ (.sl 1 rg 5 g2 0 (([] ++ s).length)) rfl (nZ ?_)
  refine Vc.ret' ?_
  refine res_tmp (v := .sl 1 rg 5 g2 0 (([] ++ s).length)) rfl (res_nil ?_)
  show Gives _ (.sl 1 rg 5 g2 0 (([] ++ s).length)) _
  refine gives_freeze (k := 5) (xs := List.map (AV.int .i64) ([] ++ s)) rfl (v' := eL (AV.int .i64) ([] ++ s)) (frz_full rfl) ?_
  exact gives_out hrg (VW.refl _) (hQ _ h)
end Go.Proofs.Ytonbnfgknijpoaa
