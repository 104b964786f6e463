/- Walks of functions. Conditions: none. -/
import Derived.Test.YtonbnfgknijpoaaWPchain
import Derived.Test.YtonbnfgknijpoaaGgTy
import Derived.Test.YtonbnfgknijpoaaKB
namespace Go.Proofs.Ytonbnfgknijpoaa
open Go.Gg
set_option maxRecDepth 100000
theorem chain_state_ctr {c : GChain} {s : Int} {Q : Bool → Prop} {S : St} {R : AV → St → Prop} (h : chain_state_W c s Q) (hQ : ∀ r1, Q r1 → R (AV.bool r1) S) :
    Ctr Try.prog 121 [eChain c, AV.int .i64 s] S R := by
  unfold chain_state_W at h
  refine enterT Try.func121 rfl Try.ntmps121 Try.results121 (by kernel_rfl) (fun rg hrg => ?_)
  refine qZ (rZ ?_)
  refine wZ rg (o_box (v := eChain c) rfl rfl (kk := 4) rfl (by decide) (fun g1 => ?_))
  refine asZ (.bool false) rfl ?_
  refine nZ (qZ (rZ ?_))
  refine mvZ (.int .i64 s) rfl ?_
  refine wZ rg (o_geq rfl rfl ?_)
  refine mvZ (.bool (decide (0 ≤ s))) rfl ?_
  refine Wl.guard rfl rfl (fun hb => ?_) (fun hb => ?_)
  · replace h := h.1 hb
    refine mvZ (.int .i64 s) rfl ?_
    refine Wl.guardT rfl rfl hb ?_
    refine wZ rg (o_faP td65 rfl rfl (by rw [sz3]; decide) rfl ?_)
    refine Wl.guardT rfl rfl hb ?_
    refine wZ rg (o_loadB1 (atL (k := 2) rfl) sz3 ag3 rfl rfl (v := .int .i64 c.States) rfl ?_)
    refine Wl.guardT rfl rfl hb ?_
    refine wZ rg (o_lss rfl rfl ?_)
    refine wZ rg (o_pickT rfl hb (v := .bool (decide (s < c.States))) rfl ?_)
    refine asZ (.bool (decide (s < c.States))) rfl ?_
    refine nZ ?_
    refine Vc.ret' ?_
    refine res_tmp (v := .bool (decide (s < c.States))) rfl ?_
    refine res_nil ?_
    show Gives _ (.bool (decide (s < c.States))) _
    exact gives_out hrg (VW.refl _) (hQ _ h)
  replace h := h.2 hb
  refine Wl.guardF rfl rfl hb rfl ?_
  refine Wl.guardF rfl rfl hb rfl ?_
  refine Wl.guardF rfl rfl hb rfl ?_
  refine wZ rg (o_pickF rfl hb (v := .bool false) rfl ?_)
  refine asZ (.bool false) rfl ?_
  refine nZ ?_
  refine Vc.ret' ?_
  refine res_tmp (v := .bool false) rfl ?_
  refine res_nil ?_
  show Gives _ (.bool false) _
  exact gives_out hrg (VW.refl _) (hQ _ h)
theorem chain_before_ctr {a : GMove} {b : GMove} {Q : Bool → Prop} {S : St} {R : AV → St → Prop} (h : chain_before_W a b Q) (hQ : ∀ r1, Q r1 → R (AV.bool r1) S) :
    Ctr Try.prog 122 [eMove a, eMove b] S R := by
  unfold chain_before_W at h
  refine enterT Try.func122 rfl Try.ntmps122 Try.results122 (by kernel_rfl) (fun rg hrg => ?_)
  refine qZ (rZ ?_)
  refine wZ rg (o_box (v := eMove a) rfl rfl (kk := 5) rfl (by decide) (fun g1 => ?_))
  refine wZ rg (o_box (v := eMove b) rfl rfl (kk := 5) rfl (by decide) (fun g2 => ?_))
  refine asZ (.bool false) rfl ?_
  refine nZ (qZ (rZ ?_))
  refine wZ rg (o_faP td72 rfl rfl (by rw [sz3]; decide) rfl ?_)
  refine wZ rg (o_loadB1 (atL (k := 2) rfl) sz3 ag3 rfl rfl (v := .int .i64 a.From) rfl ?_)
  refine wZ rg (o_faP td72 rfl rfl (by rw [sz3]; decide) rfl ?_)
  refine wZ rg (o_loadB1 (atL (k := 3) rfl) sz3 ag3 rfl rfl (v := .int .i64 b.From) rfl ?_)
  refine wZ rg (o_lss rfl rfl ?_)
  refine mvZ (.bool (decide (a.From < b.From))) rfl ?_
  refine Wl.guard rfl rfl (fun hb => ?_) (fun hb => ?_)
  · replace h := h.2 hb
    refine wZ rg (o_faP td72 rfl rfl (by rw [sz3]; decide) rfl ?_)
    refine Wl.guardT rfl rfl hb ?_
    refine wZ rg (o_loadB1 (atL (k := 2) rfl) sz3 ag3 rfl rfl (v := .int .i64 a.From) rfl ?_)
    refine Wl.guardT rfl rfl hb ?_
    refine wZ rg (o_faP td72 rfl rfl (by rw [sz3]; decide) rfl ?_)
    refine Wl.guardT rfl rfl hb ?_
    refine wZ rg (o_loadB1 (atL (k := 3) rfl) sz3 ag3 rfl rfl (v := .int .i64 b.From) rfl ?_)
    refine Wl.guardT rfl rfl hb ?_
    refine wZ rg (o_eql rfl rfl ?_)
    refine Wl.guardT rfl rfl hb ?_
    refine mvZ (.bool (a.From == b.From)) rfl ?_
    refine Wl.guard rfl rfl (fun hb1 => ?_) (fun hb1 => ?_)
    · replace h := h.1 hb1
      refine wZ rg (o_faP td72 rfl rfl (by rw [sz3]; decide) rfl ?_)
      refine Wl.guardT rfl rfl hb1 ?_
      refine wZ rg (o_loadB1 (atL (k := 2) rfl) sz3 ag3 rfl rfl (v := .int .i64 a.To) rfl ?_)
      refine Wl.guardT rfl rfl hb1 ?_
      refine wZ rg (o_faP td72 rfl rfl (by rw [sz3]; decide) rfl ?_)
      refine Wl.guardT rfl rfl hb1 ?_
      refine wZ rg (o_loadB1 (atL (k := 3) rfl) sz3 ag3 rfl rfl (v := .int .i64 b.To) rfl ?_)
      refine Wl.guardT rfl rfl hb1 ?_
      refine wZ rg (o_lss rfl rfl ?_)
      refine Wl.guardT rfl rfl hb ?_
      refine wZ rg (o_pickT rfl hb1 (v := .bool (decide (a.To < b.To))) rfl ?_)
      refine wZ rg (o_pickF rfl hb (v := .bool (decide (a.To < b.To))) rfl ?_)
      refine asZ (.bool (decide (a.To < b.To))) rfl ?_
      refine nZ ?_
      refine Vc.ret' ?_
      refine res_tmp (v := .bool (decide (a.To < b.To))) rfl ?_
      refine res_nil ?_
      show Gives _ (.bool (decide (a.To < b.To))) _
      exact gives_out hrg (VW.refl _) (hQ _ h)
    replace h := h.2 hb1
    refine Wl.guardF rfl rfl hb1 rfl ?_
    refine Wl.guardF rfl rfl hb1 rfl ?_
    refine Wl.guardF rfl rfl hb1 rfl ?_
    refine Wl.guardF rfl rfl hb1 rfl ?_
    refine Wl.guardT rfl rfl hb ?_
    refine wZ rg (o_pickF rfl hb1 (v := .bool false) rfl ?_)
    refine wZ rg (o_pickF rfl hb (v := .bool false) rfl ?_)
    refine asZ (.bool false) rfl ?_
    refine nZ ?_
    refine Vc.ret' ?_
    refine res_tmp (v := .bool false) rfl ?_
    refine res_nil ?_
    show Gives _ (.bool false) _
    exact gives_out hrg (VW.refl _) (hQ _ h)
  replace h := h.1 hb
  refine Wl.guardF rfl rfl hb rfl ?_
  refine Wl.guardF rfl rfl hb rfl ?_
  refine Wl.guardF rfl rfl hb rfl ?_
  refine Wl.guardF rfl rfl hb rfl ?_
  refine Wl.guardF rfl rfl hb rfl ?_
  refine Wl.guardU rfl rfl ?_
  refine Wl.guardU rfl rfl ?_
  refine Wl.guardU rfl rfl ?_
  refine Wl.guardU rfl rfl ?_
  refine Wl.guardU rfl rfl ?_
  refine Wl.guardF rfl rfl hb rfl ?_
  refine wZ rg (o_pickT rfl hb (v := .bool true) rfl ?_)
  refine asZ (.bool true) rfl ?_
  refine nZ ?_
  refine Vc.ret' ?_
  refine res_tmp (v := .bool true) rfl ?_
  refine res_nil ?_
  show Gives _ (.bool true) _
  exact gives_out hrg (VW.refl _) (hQ _ h)
theorem chain_Check_ctr {c : GChain} {Q : Option Int → Prop} {S : St} {R : AV → St → Prop} (h : chain_Check_W c Q) (hQ : ∀ r1, Q r1 → R (eErr 107 r1) S) :
    Ctr Try.prog 55 [eChain c] S R := by
  unfold chain_Check_W at h
  refine enterT Try.func55 rfl Try.ntmps55 Try.results55 (by kernel_rfl) (fun rg hrg => ?_)
  refine qZ (rZ ?_)
  refine wZ rg (o_box (v := eChain c) rfl rfl (kk := 4) rfl (by decide) (fun g1 => ?_))
  refine asZ .niface rfl ?_
  refine nZ (qZ ?_)
  obtain ⟨J, h, hJ⟩ := h
  refine Vc.join' (σ := ((Bool) × (Nat))) (fun y => J y.1) (fun y => envOf [(1, .ptr rg 1 y.2 0 0), (12, .bool y.1)]) (fun y => stL S rg [(1, .arr 4 [eChain c], y.2)]) (fun y h => ?_) ?_
  · obtain ⟨x, g2⟩ := y
    replace h := hJ x h
    show Vc _ _ _ _ (envOf [(1, .ptr rg 1 g2 0 0), (12, .bool x)]) (stL S rg [(1, .arr 4 [eChain c], g2)])
    refine Vc.cond' rfl (fun hb => ?_) (fun hb => ?_)
    · replace h := h.1 hb
      refine qZ (rZ ?_)
      refine wZ rg (o_iface (by rw [td107]; trivial) (v := .int .i64 3) rfl ?_)
      refine asZ (.iface 107 (.int .i64 3)) rfl ?_
      refine nZ ?_
      refine Vc.ret' ?_
      refine res_tmp (v := .iface 107 (.int .i64 3)) rfl ?_
      refine res_nil ?_
      show Gives _ (.iface 107 (.int .i64 3)) _
      exact gives_out hrg (VW.refl _) (hQ _ h)
    replace h := h.2 hb
    refine Vc.skip' ?_
    refine qZ (qZ (rZ ?_))
    refine wZ rg (o_faP td65 rfl rfl (by rw [sz63]; decide) rfl ?_)
    refine wZ rg (o_loadB1 (atL (k := 1) rfl) sz63 ag63 rfl rfl (v := eL AV.bool c.Down) rfl ?_)
    refine wZ rg (o_len td63 rfl ?_)
    refine wZ rg (o_faP td65 rfl rfl (by rw [sz3]; decide) rfl ?_)
    refine wZ rg (o_loadB1 (atL (k := 1) rfl) sz3 ag3 rfl rfl (v := .int .i64 c.States) rfl ?_)
    refine wZ rg (o_neq rfl rfl ?_)
    refine nZ ?_
    refine Vc.cond' rfl (fun hb1 => ?_) (fun hb1 => ?_)
    · replace h := h.1 hb1
      refine qZ (rZ ?_)
      refine wZ rg (o_iface (by rw [td107]; trivial) (v := .int .i64 11) rfl ?_)
      refine asZ (.iface 107 (.int .i64 11)) rfl ?_
      refine nZ ?_
      refine Vc.ret' ?_
      refine res_tmp (v := .iface 107 (.int .i64 11)) rfl ?_
      refine res_nil ?_
      show Gives _ (.iface 107 (.int .i64 11)) _
      exact gives_out hrg (VW.refl _) (hQ _ h)
    replace h := h.2 hb1
    refine Vc.skip' ?_
    refine qZ (qZ (rZ ?_))
    refine wZ rg (o_loadBA (atL (k := 1) rfl) sz65 (by decide) ag65 rfl rfl (v := eChain c) rfl ?_)
    refine wZ rg (o_faP td65 rfl rfl (by rw [sz3]; decide) rfl ?_)
    refine wZ rg (o_loadB1 (atL (k := 1) rfl) sz3 ag3 rfl rfl (v := .int .i64 c.Start) rfl ?_)
    refine wZ rg (o_call (us := [eChain c, AV.int .i64 c.Start]) rfl (vl' vr (vl' vr (vn))) (chain_state_ctr h fun r h => ?_))
    refine wZ rg (o_not rfl ?_)
    refine nZ ?_
    refine Vc.cond' rfl (fun hb2 => ?_) (fun hb2 => ?_)
    · replace h := h.1 hb2
      refine qZ (rZ ?_)
      refine wZ rg (o_iface (by rw [td107]; trivial) (v := .int .i64 10) rfl ?_)
      refine asZ (.iface 107 (.int .i64 10)) rfl ?_
      refine nZ ?_
      refine Vc.ret' ?_
      refine res_tmp (v := .iface 107 (.int .i64 10)) rfl ?_
      refine res_nil ?_
      show Gives _ (.iface 107 (.int .i64 10)) _
      exact gives_out hrg (VW.refl _) (hQ _ h)
    replace h := h.2 hb2
    refine Vc.skip' ?_
    refine qZ (qZ (rZ ?_))
    refine wZ rg (o_faP td65 rfl rfl (by rw [sz62]; decide) rfl ?_)
    refine wZ rg (o_loadB1 (atL (k := 1) rfl) sz62 ag62 rfl rfl (v := eL eMove c.Moves) rfl ?_)
    refine wZ rg (o_len td62 rfl ?_)
    refine mvZ (.int .i64 0) rfl ?_
    refine nZ ?_
    refine Vc.blk ?_
    obtain ⟨I, μ, h0, hI⟩ := h
    refine Vc.loop' (σ := ((Int) × (Nat))) (fun y => I y.1) (fun y => μ y.1) (fun y => envOf [(1, .ptr rg 1 y.2 0 0), (28, eL eMove c.Moves), (29, .int .i64 (c.Moves.length : Int)), (30, .int .i64 y.1)]) (fun y => stL S rg [(1, .arr 4 [eChain c], y.2)]) (0, g2) (canon (fc vr (fc vr (fc vr (fc vr (fn))))) (sc rfl (sn))) h0 (fun y h => ?_)
    obtain ⟨x1, g3⟩ := y
    replace h := hI x1 h
    show Vc _ _ _ _ (envOf [(1, .ptr rg 1 g3 0 0), (28, eL eMove c.Moves), (29, .int .i64 (c.Moves.length : Int)), (30, .int .i64 x1)]) (stL S rg [(1, .arr 4 [eChain c], g3)])
    refine qZ (rZ ?_)
    refine wZ rg (o_lss rfl rfl ?_)
    refine nZ (qZ ?_)
    refine Vc.cond' rfl (fun hb3 => ?_) (fun hb3 => ?_)
    · replace h := h.1 hb3
      refine Vc.skip' ?_
      refine qZ ?_
      refine Vc.blk ?_
      refine qZ (rZ ?_)
      refine mvZ (.int .i64 x1) rfl ?_
      refine wZ rg (o_idxL td62 sz72 (by decide) (fun _ => rfl) rfl rfl h.1 ?_)
      replace h := h.2
      refine wZ rg (o_loadIA sz72 (by decide) ag72 rfl rfl (v := eMove (at' c.Moves x1)) rfl ?_)
      refine wZ rg (o_alloc zav72 ok72 (kk := 5) rfl (fun g4 => ?_))
      refine asZ (.int .i64 x1) rfl ?_
      refine wZ rg (o_storeB (atL (k := 4) rfl) sz72 (by decide) rfl (w := eMove (at' c.Moves x1)) rfl rfl rfl (v := eMove (at' c.Moves x1)) rfl setL ?_)
      refine nZ ?_
      refine Vc.blk ?_
      obtain ⟨J, h, hJ⟩ := h
      refine Vc.join' (σ := ((Bool) × (Nat × Nat))) (fun y => J y.1) (fun y => envOf [(1, .ptr rg 1 y.2.1 0 0), (3, .int .i64 x1), (4, .ptr rg 4 y.2.2 0 0), (28, eL eMove c.Moves), (29, .int .i64 (c.Moves.length : Int)), (30, .int .i64 x1), (35, .bool y.1)]) (fun y => stL S rg [(1, .arr 4 [eChain c], y.2.1), (4, .arr 5 [eMove (at' c.Moves x1)], y.2.2)]) (fun y h => ?_) ?_
      · obtain ⟨x2, ⟨g5, g6⟩⟩ := y
        replace h := hJ x2 h
        show Vc _ _ _ _ (envOf [(1, .ptr rg 1 g5 0 0), (3, .int .i64 x1), (4, .ptr rg 4 g6 0 0), (28, eL eMove c.Moves), (29, .int .i64 (c.Moves.length : Int)), (30, .int .i64 x1), (35, .bool x2)]) (stL S rg [(1, .arr 4 [eChain c], g5), (4, .arr 5 [eMove (at' c.Moves x1)], g6)])
        refine Vc.cond' rfl (fun hb4 => ?_) (fun hb4 => ?_)
        · replace h := h.1 hb4
          refine qZ (rZ ?_)
          refine wZ rg (o_iface (by rw [td107]; trivial) (v := .int .i64 10) rfl ?_)
          refine asZ (.iface 107 (.int .i64 10)) rfl ?_
          refine nZ ?_
          refine Vc.ret' ?_
          refine res_tmp (v := .iface 107 (.int .i64 10)) rfl ?_
          refine res_nil ?_
          show Gives _ (.iface 107 (.int .i64 10)) _
          exact gives_out hrg (VW.refl _) (hQ _ h)
        replace h := h.2 hb4
        refine qZ (rZ ?_)
        refine wZ rg (o_faP td72 rfl rfl (by rw [sz3]; decide) rfl ?_)
        refine wZ rg (o_loadB1 (atL (k := 4) rfl) sz3 ag3 rfl rfl (v := .int .i64 ((at' c.Moves x1).From)) rfl ?_)
        refine wZ rg (o_faP td72 rfl rfl (by rw [sz3]; decide) rfl ?_)
        refine wZ rg (o_loadB1 (atL (k := 4) rfl) sz3 ag3 rfl rfl (v := .int .i64 ((at' c.Moves x1).To)) rfl ?_)
        refine wZ rg (o_eql rfl rfl ?_)
        refine asZ (.bool ((at' c.Moves x1).From == (at' c.Moves x1).To)) rfl ?_
        refine nZ ?_
        refine Vc.cond' rfl (fun hb5 => ?_) (fun hb5 => ?_)
        · replace h := h.1 hb5
          refine qZ (rZ ?_)
          refine wZ rg (o_iface (by rw [td107]; trivial) (v := .int .i64 2) rfl ?_)
          refine asZ (.iface 107 (.int .i64 2)) rfl ?_
          refine nZ ?_
          refine Vc.ret' ?_
          refine res_tmp (v := .iface 107 (.int .i64 2)) rfl ?_
          refine res_nil ?_
          show Gives _ (.iface 107 (.int .i64 2)) _
          exact gives_out hrg (VW.refl _) (hQ _ h)
        replace h := h.2 hb5
        obtain ⟨J, h, hJ⟩ := h
        refine Vc.join' (σ := ((Bool) × (Nat × Nat))) (fun y => J y.1) (fun y => envOf [(1, .ptr rg 1 y.2.1 0 0), (3, .int .i64 x1), (4, .ptr rg 4 y.2.2 0 0), (28, eL eMove c.Moves), (29, .int .i64 (c.Moves.length : Int)), (30, .int .i64 x1), (56, .bool y.1)]) (fun y => stL S rg [(1, .arr 4 [eChain c], y.2.1), (4, .arr 5 [eMove (at' c.Moves x1)], y.2.2)]) (fun y h => ?_) ?_
        · obtain ⟨x3, ⟨g7, g8⟩⟩ := y
          replace h := hJ x3 h
          show Vc _ _ _ _ (envOf [(1, .ptr rg 1 g7 0 0), (3, .int .i64 x1), (4, .ptr rg 4 g8 0 0), (28, eL eMove c.Moves), (29, .int .i64 (c.Moves.length : Int)), (30, .int .i64 x1), (56, .bool x3)]) (stL S rg [(1, .arr 4 [eChain c], g7), (4, .arr 5 [eMove (at' c.Moves x1)], g8)])
          refine Vc.cond' rfl (fun hb6 => ?_) (fun hb6 => ?_)
          · replace h := h.1 hb6
            refine qZ (rZ ?_)
            refine wZ rg (o_iface (by rw [td107]; trivial) (v := .int .i64 3) rfl ?_)
            refine asZ (.iface 107 (.int .i64 3)) rfl ?_
            refine nZ ?_
            refine Vc.ret' ?_
            refine res_tmp (v := .iface 107 (.int .i64 3)) rfl ?_
            refine res_nil ?_
            show Gives _ (.iface 107 (.int .i64 3)) _
            exact gives_out hrg (VW.refl _) (hQ _ h)
          replace h := h.2 hb6
          obtain ⟨J, h, hJ⟩ := h
          refine Vc.join' (σ := ((Bool) × (Nat))) (fun y => J y.1) (fun y => envOf [(1, .ptr rg 1 y.2 0 0), (28, eL eMove c.Moves), (29, .int .i64 (c.Moves.length : Int)), (30, .int .i64 x1), (68, .bool y.1)]) (fun y => stL S rg [(1, .arr 4 [eChain c], y.2)]) (fun y h => ?_) ?_
          · obtain ⟨x4, g9⟩ := y
            replace h := hJ x4 h
            show Vc _ _ _ _ (envOf [(1, .ptr rg 1 g9 0 0), (28, eL eMove c.Moves), (29, .int .i64 (c.Moves.length : Int)), (30, .int .i64 x1), (68, .bool x4)]) (stL S rg [(1, .arr 4 [eChain c], g9)])
            refine Vc.cond' rfl (fun hb7 => ?_) (fun hb7 => ?_)
            · replace h := h.1 hb7
              refine qZ (rZ ?_)
              refine wZ rg (o_iface (by rw [td107]; trivial) (v := .int .i64 13) rfl ?_)
              refine asZ (.iface 107 (.int .i64 13)) rfl ?_
              refine nZ ?_
              refine Vc.ret' ?_
              refine res_tmp (v := .iface 107 (.int .i64 13)) rfl ?_
              refine res_nil ?_
              show Gives _ (.iface 107 (.int .i64 13)) _
              exact gives_out hrg (VW.refl _) (hQ _ h)
            replace h := h.2 hb7
            refine Vc.skip' ?_
            refine rZ ?_
            refine wZ rg (o_addG rfl rfl h.1 ?_)
            replace h := h.2
            refine mvZ (.int .i64 (x1 + 1)) rfl ?_
            refine nZ ?_
            exact ⟨((x1 + 1), g9), (canon (fc vr (fc vr (fc vr (fc vr (fn))))) (sc rfl (sn))), h⟩
          rcases Bool.eq_false_or_eq_true (decide (0 < x1)) with hb8 | hb8
          · replace h := h.1 hb8
            have hg := h.1
            replace h := h.2
            have hg1 := h.1
            replace h := h.2
            obtain ⟨r1, hc, h⟩ := h
            refine Vc.drawn' mixed rg (usOf [(10, pc (.bool r1))]) (by kernel_rfl) ?_
            refine dP rfl rfl (o_move (v := .int .i64 x1) rfl ?_)
            refine dP rfl rfl (o_gtr rfl rfl ?_)
            refine dP rfl rfl (o_move (v := .bool (decide (0 < x1))) rfl ?_)
            refine dGT rfl rfl hb8 ?_
            refine dP rfl rfl (o_faP td65 rfl rfl (by rw [sz62]; decide) rfl ?_)
            refine dGT rfl rfl rfl ?_
            refine dL (E := ([(rg, 1)], [])) rfl rfl (by simp) (cfn) (o_loadB1 (atL (k := 1) rfl) sz62 ag62 rfl rfl (v := eL eMove c.Moves) rfl ?_)
            refine dGT rfl rfl rfl ?_
            refine dP rfl rfl (o_move (v := .int .i64 x1) rfl ?_)
            refine dGT rfl rfl rfl ?_
            refine dP rfl rfl (o_subG rfl rfl hg ?_)
            refine dGT rfl rfl rfl ?_
            refine dP rfl rfl (o_idxL td62 sz72 (by decide) (fun _ => rfl) rfl rfl hg1 ?_)
            refine dGT rfl rfl rfl ?_
            refine dP rfl rfl (o_loadIA sz72 (by decide) ag72 rfl rfl (v := eMove (at' c.Moves (x1 - 1))) rfl ?_)
            refine dGT rfl rfl rfl ?_
            refine dL (E := ([(rg, 4)], [])) rfl rfl (by simp) (cfa (by simp [apartE]) (cfn)) (o_loadBA (atL (k := 4) rfl) sz72 (by decide) ag72 rfl rfl (v := eMove (at' c.Moves x1)) rfl ?_)
            refine dGT rfl rfl rfl ?_
            refine dC (vs := [eMove (at' c.Moves (x1 - 1)), eMove (at' c.Moves x1)]) rfl (vl' vr (vl' vr (vn))) (fun _ => chain_before_ctr hc (fun _ hr => ⟨by rw [hr], rfl⟩)) rfl ?_
            refine dGT rfl rfl rfl ?_
            refine dP rfl rfl (o_not rfl ?_)
            refine dP rfl rfl (o_pickT rfl rfl (v := .bool (!r1)) rfl ?_)
            refine dP rfl rfl (o_assign (v := .bool (!r1)) rfl ?_)
            refine dN ?_
            exact ⟨((!r1), g7), (canon (fc vr (fc vr (fc vr (fc vr (fc vr (fn)))))) (sc rfl (sn))), h⟩
          replace h := h.2 hb8
          refine Vc.drawn' mixed rg (fun _ => jcr2) (by kernel_rfl) ?_
          refine dP rfl rfl (o_move (v := .int .i64 x1) rfl ?_)
          refine dP rfl rfl (o_gtr rfl rfl ?_)
          refine dP rfl rfl (o_move (v := .bool (decide (0 < x1))) rfl ?_)
          refine dGF rfl rfl hb8 rfl ?_
          refine dGF rfl rfl rfl rfl ?_
          refine dGF rfl rfl rfl rfl ?_
          refine dGF rfl rfl rfl rfl ?_
          refine dGF rfl rfl rfl rfl ?_
          refine dGF rfl rfl rfl rfl ?_
          refine dGF rfl rfl rfl rfl ?_
          refine dGF rfl rfl rfl rfl ?_
          refine dGF rfl rfl rfl rfl ?_
          refine dP rfl rfl (o_pickF rfl rfl (v := .bool false) rfl ?_)
          refine dP rfl rfl (o_assign (v := .bool false) rfl ?_)
          refine dN ?_
          exact ⟨(false, g7), (canon (fc vr (fc vr (fc vr (fc vr (fc vr (fn)))))) (sc rfl (sn))), h⟩
        refine rZ ?_
        refine wZ rg (o_faP td72 rfl rfl (by rw [sz27]; decide) rfl ?_)
        refine wZ rg (o_loadBA (atL (k := 4) rfl) sz27 (by decide) ag27 rfl rfl (v := eRat ((at' c.Moves x1).Rate)) rfl ?_)
        refine wZ rg (o_call (us := [eRat ((at' c.Moves x1).Rate)]) rfl (vl' vr (vn)) (rational_Valid_ctr h fun r2 h => ?_))
        refine wZ rg (o_not rfl ?_)
        refine mvZ (.bool (!r2)) rfl ?_
        refine Wl.guard rfl rfl (fun hb9 => ?_) (fun hb9 => ?_)
        · replace h := h.2 hb9
          refine wZ rg (o_faP td72 rfl rfl (by rw [sz27]; decide) rfl ?_)
          refine Wl.guardT rfl rfl hb9 ?_
          refine wZ rg (o_loadBA (atL (k := 4) rfl) sz27 (by decide) ag27 rfl rfl (v := eRat ((at' c.Moves x1).Rate)) rfl ?_)
          refine Wl.guardT rfl rfl hb9 ?_
          refine wZ rg (o_call (us := [eRat ((at' c.Moves x1).Rate)]) rfl (vl' vr (vn)) (rational_Sign_ctr h fun r3 h => ?_))
          refine Wl.guardT rfl rfl hb9 ?_
          refine wZ rg (o_leq rfl rfl ?_)
          refine wZ rg (o_pickF rfl hb9 (v := .bool (decide (r3 ≤ 0))) rfl ?_)
          refine asZ (.bool (decide (r3 ≤ 0))) rfl ?_
          refine nZ ?_
          exact ⟨((decide (r3 ≤ 0)), (g5, g6)), (canon (fc vr (fc vr (fc vr (fc vr (fc vr (fc vr (fc vr (fn)))))))) (sc rfl (sc rfl (sn)))), h⟩
        replace h := h.1 hb9
        refine Wl.guardF rfl rfl hb9 rfl ?_
        refine Wl.guardF rfl rfl hb9 rfl ?_
        refine Wl.guardF rfl rfl hb9 rfl ?_
        refine wZ rg (o_pickT rfl hb9 (v := .bool true) rfl ?_)
        refine asZ (.bool true) rfl ?_
        refine nZ ?_
        exact ⟨(true, (g5, g6)), (canon (fc vr (fc vr (fc vr (fc vr (fc vr (fc vr (fc vr (fn)))))))) (sc rfl (sc rfl (sn)))), h⟩
      refine rZ ?_
      refine wZ rg (o_loadBA (atL (k := 1) rfl) sz65 (by decide) ag65 rfl rfl (v := eChain c) rfl ?_)
      refine wZ rg (o_faP td72 rfl rfl (by rw [sz3]; decide) rfl ?_)
      refine wZ rg (o_loadB1 (atL (k := 4) rfl) sz3 ag3 rfl rfl (v := .int .i64 ((at' c.Moves x1).From)) rfl ?_)
      refine wZ rg (o_call (us := [eChain c, AV.int .i64 ((at' c.Moves x1).From)]) rfl (vl' vr (vl' vr (vn))) (chain_state_ctr h fun r4 h => ?_))
      refine wZ rg (o_not rfl ?_)
      refine mvZ (.bool (!r4)) rfl ?_
      refine Wl.guard rfl rfl (fun hb10 => ?_) (fun hb10 => ?_)
      · replace h := h.2 hb10
        refine wZ rg (o_loadBA (atL (k := 1) rfl) sz65 (by decide) ag65 rfl rfl (v := eChain c) rfl ?_)
        refine Wl.guardT rfl rfl hb10 ?_
        refine wZ rg (o_faP td72 rfl rfl (by rw [sz3]; decide) rfl ?_)
        refine Wl.guardT rfl rfl hb10 ?_
        refine wZ rg (o_loadB1 (atL (k := 4) rfl) sz3 ag3 rfl rfl (v := .int .i64 ((at' c.Moves x1).To)) rfl ?_)
        refine Wl.guardT rfl rfl hb10 ?_
        refine wZ rg (o_call (us := [eChain c, AV.int .i64 ((at' c.Moves x1).To)]) rfl (vl' vr (vl' vr (vn))) (chain_state_ctr h fun r5 h => ?_))
        refine Wl.guardT rfl rfl hb10 ?_
        refine wZ rg (o_not rfl ?_)
        refine wZ rg (o_pickF rfl hb10 (v := .bool (!r5)) rfl ?_)
        refine asZ (.bool (!r5)) rfl ?_
        refine nZ ?_
        exact ⟨((!r5), (g3, g4)), (canon (fc vr (fc vr (fc vr (fc vr (fc vr (fc vr (fc vr (fn)))))))) (sc rfl (sc rfl (sn)))), h⟩
      replace h := h.1 hb10
      refine Wl.guardF rfl rfl hb10 rfl ?_
      refine Wl.guardF rfl rfl hb10 rfl ?_
      refine Wl.guardF rfl rfl hb10 rfl ?_
      refine Wl.guardF rfl rfl hb10 rfl ?_
      refine wZ rg (o_pickT rfl hb10 (v := .bool true) rfl ?_)
      refine asZ (.bool true) rfl ?_
      refine nZ ?_
      exact ⟨(true, (g3, g4)), (canon (fc vr (fc vr (fc vr (fc vr (fc vr (fc vr (fc vr (fn)))))))) (sc rfl (sc rfl (sn)))), h⟩
    replace h := h.2 hb3
    refine Vc.exit' (exB_self ?_)
    refine qZ (rZ ?_)
    refine asZ .niface rfl ?_
    refine nZ ?_
    refine Vc.ret' ?_
    refine res_tmp (v := .niface) rfl ?_
    refine res_nil ?_
    show Gives _ .niface _
    exact gives_out hrg (VW.refl _) (hQ _ h)
  refine rZ ?_
  refine wZ rg (o_faP td65 rfl rfl (by rw [sz3]; decide) rfl ?_)
  refine wZ rg (o_loadB1 (atL (k := 1) rfl) sz3 ag3 rfl rfl (v := .int .i64 c.States) rfl ?_)
  refine wZ rg (o_lss rfl rfl ?_)
  refine mvZ (.bool (decide (c.States < 1))) rfl ?_
  refine Wl.guard rfl rfl (fun hb11 => ?_) (fun hb11 => ?_)
  · replace h := h.2 hb11
    refine wZ rg (o_faP td65 rfl rfl (by rw [sz3]; decide) rfl ?_)
    refine Wl.guardT rfl rfl hb11 ?_
    refine wZ rg (o_loadB1 (atL (k := 1) rfl) sz3 ag3 rfl rfl (v := .int .i64 c.States) rfl ?_)
    refine Wl.guardT rfl rfl hb11 ?_
    refine wZ rg (o_gtr rfl rfl ?_)
    refine wZ rg (o_pickF rfl hb11 (v := .bool (decide (256 < c.States))) rfl ?_)
    refine nZ ?_
    exact ⟨((decide (256 < c.States)), g1), (canon (fc vr (fc vr (fn))) (sc rfl (sn))), h⟩
  replace h := h.1 hb11
  refine Wl.guardF rfl rfl hb11 rfl ?_
  refine Wl.guardF rfl rfl hb11 rfl ?_
  refine wZ rg (o_pickT rfl hb11 (v := .bool true) rfl ?_)
  refine nZ ?_
  exact ⟨(true, g1), (canon (fc vr (fc vr (fn))) (sc rfl (sn))), h⟩
end Go.Proofs.Ytonbnfgknijpoaa
