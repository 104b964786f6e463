/- Walks of functions. Conditions: none. -/
import Derived.Test.YtonbnfgknijpoaaWB
import Derived.Test.YtonbnfgknijpoaaGgTy
import Derived.Test.YtonbnfgknijpoaaKB
namespace Go.Proofs.Ytonbnfgknijpoaa
open Go.Gg
set_option maxRecDepth 100000
theorem base_Bools_ctr {a : List Bool} {b : List Bool} {Q : Bool → Prop} {S : St} {R : AV → St → Prop} (h : base_Bools_W a b Q) (hQ : ∀ r1, Q r1 → R (AV.bool r1) S) :
    Ctr Try.prog 120 [eL AV.bool a, eL AV.bool b] S R := by
  unfold base_Bools_W at h
  refine enterT Try.func120 rfl Try.ntmps120 Try.results120 (by kernel_rfl) (fun rg hrg => ?_)
  refine qZ (rZ ?_)
  refine asZ (.bool false) rfl ?_
  refine nZ (qZ (qZ (rZ ?_)))
  refine mvZ (eL AV.bool a) rfl ?_
  refine wZ rg (o_len td63 rfl ?_)
  refine mvZ (eL AV.bool b) rfl ?_
  refine wZ rg (o_len td63 rfl ?_)
  refine wZ rg (o_neq rfl rfl ?_)
  refine nZ ?_
  refine Vc.cond' rfl (fun hb => ?_) (fun hb => ?_)
  · replace h := h.1 hb
    refine qZ (rZ ?_)
    refine asZ (.bool false) rfl ?_
    refine nZ ?_
    refine Vc.ret' ?_
    refine res_tmp (v := .bool false) rfl ?_
    refine res_nil ?_
    show Gives _ (.bool false) _
    exact gives_out hrg (VW.refl _) (hQ _ h)
  replace h := h.2 hb
  refine Vc.skip' ?_
  refine qZ (qZ (rZ ?_))
  refine mvZ (eL AV.bool a) rfl ?_
  refine wZ rg (o_len td63 rfl ?_)
  refine mvZ (.int .i64 0) rfl ?_
  refine nZ ?_
  refine Vc.blk ?_
  obtain ⟨I, μ, h0, hI⟩ := h
  refine Vc.loop' (σ := (Int)) (fun y => I y) (fun y => μ y) (fun y => envOf [(0, eL AV.bool a), (1, eL AV.bool b), (12, .int .i64 (a.length : Int)), (13, .int .i64 y)]) (fun y => stL S rg []) 0 (canon (fc vr (fc vr (fc vr (fc vr (fn))))) (sn)) h0 (fun x h => ?_)
  replace h := hI x h
  show Vc _ _ _ _ (envOf [(0, eL AV.bool a), (1, eL AV.bool b), (12, .int .i64 (a.length : Int)), (13, .int .i64 x)]) (stL S rg [])
  refine qZ (rZ ?_)
  refine wZ rg (o_lss rfl rfl ?_)
  refine nZ (qZ ?_)
  refine Vc.cond' rfl (fun hb1 => ?_) (fun hb1 => ?_)
  · replace h := h.1 hb1
    refine Vc.skip' ?_
    refine qZ ?_
    refine Vc.blk ?_
    refine qZ (rZ ?_)
    refine mvZ (.int .i64 x) rfl ?_
    refine asZ (.int .i64 x) rfl ?_
    refine nZ (qZ ?_)
    have hg := h.1
    replace h := h.2
    have hg1 := h.1
    replace h := h.2
    refine Vc.drawn' mixed rg (fun _ => jcr2) (by kernel_rfl) ?_
    refine dP rfl rfl (o_move (v := eL AV.bool a) rfl ?_)
    refine dP rfl rfl (o_move (v := .int .i64 x) rfl ?_)
    refine dP rfl rfl (o_idxL td63 sz4 (by decide) (fun _ => rfl) rfl rfl hg ?_)
    refine dP rfl rfl (o_loadI1 sz4 ag4 rfl rfl (v := .bool (at' a x)) rfl ?_)
    refine dP rfl rfl (o_move (v := eL AV.bool b) rfl ?_)
    refine dP rfl rfl (o_move (v := .int .i64 x) rfl ?_)
    refine dP rfl rfl (o_idxL td63 sz4 (by decide) (fun _ => rfl) rfl rfl hg1 ?_)
    refine dP rfl rfl (o_loadI1 sz4 ag4 rfl rfl (v := .bool (at' b x)) rfl ?_)
    refine dP rfl rfl (o_neqB td4 rfl rfl ?_)
    refine dN ?_
    refine Vc.cond' rfl (fun hb2 => ?_) (fun hb2 => ?_)
    · replace h := h.1 hb2
      refine qZ (rZ ?_)
      refine asZ (.bool false) rfl ?_
      refine nZ ?_
      refine Vc.ret' ?_
      refine res_tmp (v := .bool false) rfl ?_
      refine res_nil ?_
      show Gives _ (.bool false) _
      exact gives_out hrg (VW.refl _) (hQ _ h)
    replace h := h.2 hb2
    refine Vc.skip' ?_
    refine rZ ?_
    refine wZ rg (o_addG rfl rfl h.1 ?_)
    replace h := h.2
    refine mvZ (.int .i64 (x + 1)) rfl ?_
    refine nZ ?_
    exact ⟨(x + 1), (canon (fc vr (fc vr (fc vr (fc vr (fn))))) (sn)), h⟩
  replace h := h.2 hb1
  refine Vc.exit' (exB_self ?_)
  refine qZ (rZ ?_)
  refine asZ (.bool true) rfl ?_
  refine nZ ?_
  refine Vc.ret' ?_
  refine res_tmp (v := .bool true) rfl ?_
  refine res_nil ?_
  show Gives _ (.bool true) _
  exact gives_out hrg (VW.refl _) (hQ _ h)
theorem base_Chain_ctr {a : GChain} {b : GChain} {Q : Bool → Prop} {S : St} {R : AV → St → Prop} (h : base_Chain_W a b Q) (hQ : ∀ r1, Q r1 → R (AV.bool r1) S) :
    Ctr Try.prog 54 [eChain a, eChain b] S R := by
  unfold base_Chain_W at h
  refine enterT Try.func54 rfl Try.ntmps54 Try.results54 (by kernel_rfl) (fun rg hrg => ?_)
  refine qZ (rZ ?_)
  refine wZ rg (o_box (v := eChain a) rfl rfl (kk := 4) rfl (by decide) (fun g1 => ?_))
  refine wZ rg (o_box (v := eChain b) rfl rfl (kk := 4) rfl (by decide) (fun g2 => ?_))
  refine asZ (.bool false) rfl ?_
  refine nZ (qZ (qZ (rZ ?_)))
  refine wZ rg (o_faP td65 rfl rfl (by rw [sz3]; decide) rfl ?_)
  refine wZ rg (o_loadB1 (atL (k := 2) rfl) sz3 ag3 rfl rfl (v := .int .i64 a.States) rfl ?_)
  refine wZ rg (o_faP td65 rfl rfl (by rw [sz3]; decide) rfl ?_)
  refine wZ rg (o_loadB1 (atL (k := 3) rfl) sz3 ag3 rfl rfl (v := .int .i64 b.States) rfl ?_)
  refine wZ rg (o_neq rfl rfl ?_)
  refine mvZ (.bool (a.States != b.States)) rfl ?_
  refine Wl.guard rfl rfl (fun hb => ?_) (fun hb => ?_)
  · replace h := h.2 hb
    refine wZ rg (o_faP td65 rfl rfl (by rw [sz3]; decide) rfl ?_)
    refine Wl.guardT rfl rfl hb ?_
    refine wZ rg (o_loadB1 (atL (k := 2) rfl) sz3 ag3 rfl rfl (v := .int .i64 a.Start) rfl ?_)
    refine Wl.guardT rfl rfl hb ?_
    refine wZ rg (o_faP td65 rfl rfl (by rw [sz3]; decide) rfl ?_)
    refine Wl.guardT rfl rfl hb ?_
    refine wZ rg (o_loadB1 (atL (k := 3) rfl) sz3 ag3 rfl rfl (v := .int .i64 b.Start) rfl ?_)
    refine Wl.guardT rfl rfl hb ?_
    refine wZ rg (o_neq rfl rfl ?_)
    refine wZ rg (o_pickF rfl hb (v := .bool (a.Start != b.Start)) rfl ?_)
    refine mvZ (.bool (a.Start != b.Start)) rfl ?_
    refine Wl.guard rfl rfl (fun hb1 => ?_) (fun hb1 => ?_)
    · replace h := h.2 hb1
      refine wZ rg (o_faP td65 rfl rfl (by rw [sz63]; decide) rfl ?_)
      refine Wl.guardT rfl rfl hb1 ?_
      refine wZ rg (o_loadB1 (atL (k := 2) rfl) sz63 ag63 rfl rfl (v := eL AV.bool a.Down) rfl ?_)
      refine Wl.guardT rfl rfl hb1 ?_
      refine wZ rg (o_faP td65 rfl rfl (by rw [sz63]; decide) rfl ?_)
      refine Wl.guardT rfl rfl hb1 ?_
      refine wZ rg (o_loadB1 (atL (k := 3) rfl) sz63 ag63 rfl rfl (v := eL AV.bool b.Down) rfl ?_)
      refine Wl.guardT rfl rfl hb1 ?_
      refine wZ rg (o_call (us := [eL AV.bool a.Down, eL AV.bool b.Down]) rfl (vl' vr (vl' vr (vn))) (base_Bools_ctr h fun r h => ?_))
      refine Wl.guardT rfl rfl hb1 ?_
      refine wZ rg (o_not rfl ?_)
      refine wZ rg (o_pickF rfl hb1 (v := .bool (!r)) rfl ?_)
      refine mvZ (.bool (!r)) rfl ?_
      refine Wl.guard rfl rfl (fun hb2 => ?_) (fun hb2 => ?_)
      · replace h := h.2 hb2
        refine wZ rg (o_faP td65 rfl rfl (by rw [sz62]; decide) rfl ?_)
        refine Wl.guardT rfl rfl hb2 ?_
        refine wZ rg (o_loadB1 (atL (k := 2) rfl) sz62 ag62 rfl rfl (v := eL eMove a.Moves) rfl ?_)
        refine Wl.guardT rfl rfl hb2 ?_
        refine wZ rg (o_len td62 rfl ?_)
        refine Wl.guardT rfl rfl hb2 ?_
        refine wZ rg (o_faP td65 rfl rfl (by rw [sz62]; decide) rfl ?_)
        refine Wl.guardT rfl rfl hb2 ?_
        refine wZ rg (o_loadB1 (atL (k := 3) rfl) sz62 ag62 rfl rfl (v := eL eMove b.Moves) rfl ?_)
        refine Wl.guardT rfl rfl hb2 ?_
        refine wZ rg (o_len td62 rfl ?_)
        refine Wl.guardT rfl rfl hb2 ?_
        refine wZ rg (o_neq rfl rfl ?_)
        refine wZ rg (o_pickF rfl hb2 (v := .bool ((a.Moves.length : Int) != (b.Moves.length : Int))) rfl ?_)
        refine nZ ?_
        refine Vc.cond' rfl (fun hb3 => ?_) (fun hb3 => ?_)
        · replace h := h.1 hb3
          refine qZ (rZ ?_)
          refine asZ (.bool false) rfl ?_
          refine nZ ?_
          refine Vc.ret' ?_
          refine res_tmp (v := .bool false) rfl ?_
          refine res_nil ?_
          show Gives _ (.bool false) _
          exact gives_out hrg (VW.refl _) (hQ _ h)
        replace h := h.2 hb3
        refine Vc.skip' ?_
        refine qZ (qZ (rZ ?_))
        refine wZ rg (o_faP td65 rfl rfl (by rw [sz62]; decide) rfl ?_)
        refine wZ rg (o_loadB1 (atL (k := 2) rfl) sz62 ag62 rfl rfl (v := eL eMove a.Moves) rfl ?_)
        refine wZ rg (o_len td62 rfl ?_)
        refine mvZ (.int .i64 0) rfl ?_
        refine nZ ?_
        refine Vc.blk ?_
        obtain ⟨I, μ, h0, hI⟩ := h
        refine Vc.loop' (σ := (Int)) (fun y => I y) (fun y => μ y) (fun y => envOf [(2, .ptr rg 2 g1 0 0), (3, .ptr rg 3 g2 0 0), (37, .int .i64 (a.Moves.length : Int)), (38, .int .i64 y)]) (fun y => stL S rg [(2, .arr 4 [eChain a], g1), (3, .arr 4 [eChain b], g2)]) 0 (canon (fc vr (fc vr (fc vr (fc vr (fn))))) (sc rfl (sc rfl (sn)))) h0 (fun x h => ?_)
        replace h := hI x h
        show Vc _ _ _ _ (envOf [(2, .ptr rg 2 g1 0 0), (3, .ptr rg 3 g2 0 0), (37, .int .i64 (a.Moves.length : Int)), (38, .int .i64 x)]) (stL S rg [(2, .arr 4 [eChain a], g1), (3, .arr 4 [eChain b], g2)])
        refine qZ (rZ ?_)
        refine wZ rg (o_lss rfl rfl ?_)
        refine nZ (qZ ?_)
        refine Vc.cond' rfl (fun hb4 => ?_) (fun hb4 => ?_)
        · replace h := h.1 hb4
          refine Vc.skip' ?_
          refine qZ ?_
          refine Vc.blk ?_
          refine qZ (rZ ?_)
          refine mvZ (.int .i64 x) rfl ?_
          refine asZ (.int .i64 x) rfl ?_
          refine nZ (qZ ?_)
          have hg := h.1
          replace h := h.2
          have hg1 := h.1
          replace h := h.2
          rcases Bool.eq_false_or_eq_true ((at' a.Moves x).From != (at' b.Moves x).From) with hb5 | hb5
          · replace h := h.1 hb5
            refine Vc.drawn' mixed rg (fun _ => jcr2) (by kernel_rfl) ?_
            refine dP rfl rfl (o_faP td65 rfl rfl (by rw [sz62]; decide) rfl ?_)
            refine dL (E := ([(rg, 2)], [])) rfl rfl (by simp) (cfn) (o_loadB1 (atL (k := 2) rfl) sz62 ag62 rfl rfl (v := eL eMove a.Moves) rfl ?_)
            refine dP rfl rfl (o_move (v := .int .i64 x) rfl ?_)
            refine dP rfl rfl (o_idxL td62 sz72 (by decide) (fun _ => rfl) rfl rfl hg ?_)
            refine dP rfl rfl (o_fa td72 rfl rfl (by rw [sz3]; decide) rfl rfl ?_)
            refine dP rfl rfl (o_loadI1 sz3 ag3 rfl rfl (v := .int .i64 ((at' a.Moves x).From)) rfl ?_)
            refine dP rfl rfl (o_faP td65 rfl rfl (by rw [sz62]; decide) rfl ?_)
            refine dL (E := ([(rg, 3)], [])) rfl rfl (by simp) (cfa (by simp [apartE]) (cfn)) (o_loadB1 (atL (k := 3) rfl) sz62 ag62 rfl rfl (v := eL eMove b.Moves) rfl ?_)
            refine dP rfl rfl (o_move (v := .int .i64 x) rfl ?_)
            refine dP rfl rfl (o_idxL td62 sz72 (by decide) (fun _ => rfl) rfl rfl hg1 ?_)
            refine dP rfl rfl (o_fa td72 rfl rfl (by rw [sz3]; decide) rfl rfl ?_)
            refine dP rfl rfl (o_loadI1 sz3 ag3 rfl rfl (v := .int .i64 ((at' b.Moves x).From)) rfl ?_)
            refine dP rfl rfl (o_neq rfl rfl ?_)
            refine dP rfl rfl (o_move (v := .bool ((at' a.Moves x).From != (at' b.Moves x).From)) rfl ?_)
            refine dGF rfl rfl hb5 rfl ?_
            refine dGF rfl rfl rfl rfl ?_
            refine dGF rfl rfl rfl rfl ?_
            refine dGF rfl rfl rfl rfl ?_
            refine dGF rfl rfl rfl rfl ?_
            refine dGF rfl rfl rfl rfl ?_
            refine dGF rfl rfl rfl rfl ?_
            refine dGF rfl rfl rfl rfl ?_
            refine dGF rfl rfl rfl rfl ?_
            refine dGF rfl rfl rfl rfl ?_
            refine dGF rfl rfl rfl rfl ?_
            refine dGF rfl rfl rfl rfl ?_
            refine dGF rfl rfl rfl rfl ?_
            refine dP rfl rfl (o_pickT rfl rfl (v := .bool true) rfl ?_)
            refine dP rfl rfl (o_move (v := .bool true) rfl ?_)
            refine dGF rfl rfl rfl rfl ?_
            refine dGF rfl rfl rfl rfl ?_
            refine dGF rfl rfl rfl rfl ?_
            refine dGF rfl rfl rfl rfl ?_
            refine dGF rfl rfl rfl rfl ?_
            refine dGF rfl rfl rfl rfl ?_
            refine dGF rfl rfl rfl rfl ?_
            refine dGF rfl rfl rfl rfl ?_
            refine dGF rfl rfl rfl rfl ?_
            refine dGF rfl rfl rfl rfl ?_
            refine dGF rfl rfl rfl rfl ?_
            refine dGF rfl rfl rfl rfl ?_
            refine dGF rfl rfl rfl rfl ?_
            refine dGF rfl rfl rfl rfl ?_
            refine dP rfl rfl (o_pickT rfl rfl (v := .bool true) rfl ?_)
            refine dN ?_
            refine Vc.cond' rfl (fun _ => ?_) (fun hb => Bool.noConfusion hb)
            refine qZ (rZ ?_)
            refine asZ (.bool false) rfl ?_
            refine nZ ?_
            refine Vc.ret' ?_
            refine res_tmp (v := .bool false) rfl ?_
            refine res_nil ?_
            show Gives _ (.bool false) _
            exact gives_out hrg (VW.refl _) (hQ _ h)
          replace h := h.2 hb5
          have hg2 := h.1
          replace h := h.2
          have hg3 := h.1
          replace h := h.2
          rcases Bool.eq_false_or_eq_true ((at' a.Moves x).To != (at' b.Moves x).To) with hb6 | hb6
          · replace h := h.1 hb6
            refine Vc.drawn' mixed rg (fun _ => jcr2) (by kernel_rfl) ?_
            refine dP rfl rfl (o_faP td65 rfl rfl (by rw [sz62]; decide) rfl ?_)
            refine dL (E := ([(rg, 2)], [])) rfl rfl (by simp) (cfn) (o_loadB1 (atL (k := 2) rfl) sz62 ag62 rfl rfl (v := eL eMove a.Moves) rfl ?_)
            refine dP rfl rfl (o_move (v := .int .i64 x) rfl ?_)
            refine dP rfl rfl (o_idxL td62 sz72 (by decide) (fun _ => rfl) rfl rfl hg ?_)
            refine dP rfl rfl (o_fa td72 rfl rfl (by rw [sz3]; decide) rfl rfl ?_)
            refine dP rfl rfl (o_loadI1 sz3 ag3 rfl rfl (v := .int .i64 ((at' a.Moves x).From)) rfl ?_)
            refine dP rfl rfl (o_faP td65 rfl rfl (by rw [sz62]; decide) rfl ?_)
            refine dL (E := ([(rg, 3)], [])) rfl rfl (by simp) (cfa (by simp [apartE]) (cfn)) (o_loadB1 (atL (k := 3) rfl) sz62 ag62 rfl rfl (v := eL eMove b.Moves) rfl ?_)
            refine dP rfl rfl (o_move (v := .int .i64 x) rfl ?_)
            refine dP rfl rfl (o_idxL td62 sz72 (by decide) (fun _ => rfl) rfl rfl hg1 ?_)
            refine dP rfl rfl (o_fa td72 rfl rfl (by rw [sz3]; decide) rfl rfl ?_)
            refine dP rfl rfl (o_loadI1 sz3 ag3 rfl rfl (v := .int .i64 ((at' b.Moves x).From)) rfl ?_)
            refine dP rfl rfl (o_neq rfl rfl ?_)
            refine dP rfl rfl (o_move (v := .bool ((at' a.Moves x).From != (at' b.Moves x).From)) rfl ?_)
            refine dGT rfl rfl hb5 ?_
            refine dP rfl rfl (o_faP td65 rfl rfl (by rw [sz62]; decide) rfl ?_)
            refine dGT rfl rfl rfl ?_
            refine dL (E := ([(rg, 2)], [])) rfl rfl (by simp) (cfo (by kernel_rfl) (cfo (by kernel_rfl) (cfn))) (o_loadB1 (atL (k := 2) rfl) sz62 ag62 rfl rfl (v := eL eMove a.Moves) rfl ?_)
            refine dGT rfl rfl rfl ?_
            refine dP rfl rfl (o_move (v := .int .i64 x) rfl ?_)
            refine dGT rfl rfl rfl ?_
            refine dP rfl rfl (o_idxL td62 sz72 (by decide) (fun _ => rfl) rfl rfl hg2 ?_)
            refine dGT rfl rfl rfl ?_
            refine dP rfl rfl (o_fa td72 rfl rfl (by rw [sz3]; decide) rfl rfl ?_)
            refine dGT rfl rfl rfl ?_
            refine dP rfl rfl (o_loadI1 sz3 ag3 rfl rfl (v := .int .i64 ((at' a.Moves x).To)) rfl ?_)
            refine dGT rfl rfl rfl ?_
            refine dP rfl rfl (o_faP td65 rfl rfl (by rw [sz62]; decide) rfl ?_)
            refine dGT rfl rfl rfl ?_
            refine dL (E := ([(rg, 3)], [])) rfl rfl (by simp) (cfa (by simp [apartE]) (cfo (by kernel_rfl) (cfo (by kernel_rfl) (cfn)))) (o_loadB1 (atL (k := 3) rfl) sz62 ag62 rfl rfl (v := eL eMove b.Moves) rfl ?_)
            refine dGT rfl rfl rfl ?_
            refine dP rfl rfl (o_move (v := .int .i64 x) rfl ?_)
            refine dGT rfl rfl rfl ?_
            refine dP rfl rfl (o_idxL td62 sz72 (by decide) (fun _ => rfl) rfl rfl hg3 ?_)
            refine dGT rfl rfl rfl ?_
            refine dP rfl rfl (o_fa td72 rfl rfl (by rw [sz3]; decide) rfl rfl ?_)
            refine dGT rfl rfl rfl ?_
            refine dP rfl rfl (o_loadI1 sz3 ag3 rfl rfl (v := .int .i64 ((at' b.Moves x).To)) rfl ?_)
            refine dGT rfl rfl rfl ?_
            refine dP rfl rfl (o_neq rfl rfl ?_)
            refine dP rfl rfl (o_pickF rfl rfl (v := .bool ((at' a.Moves x).To != (at' b.Moves x).To)) rfl ?_)
            refine dP rfl rfl (o_move (v := .bool ((at' a.Moves x).To != (at' b.Moves x).To)) rfl ?_)
            refine dGF rfl rfl hb6 rfl ?_
            refine dGF rfl rfl rfl rfl ?_
            refine dGF rfl rfl rfl rfl ?_
            refine dGF rfl rfl rfl rfl ?_
            refine dGF rfl rfl rfl rfl ?_
            refine dGF rfl rfl rfl rfl ?_
            refine dGF rfl rfl rfl rfl ?_
            refine dGF rfl rfl rfl rfl ?_
            refine dGF rfl rfl rfl rfl ?_
            refine dGF rfl rfl rfl rfl ?_
            refine dGF rfl rfl rfl rfl ?_
            refine dGF rfl rfl rfl rfl ?_
            refine dGF rfl rfl rfl rfl ?_
            refine dGF rfl rfl rfl rfl ?_
            refine dP rfl rfl (o_pickT rfl rfl (v := .bool true) rfl ?_)
            refine dN ?_
            refine Vc.cond' rfl (fun _ => ?_) (fun hb => Bool.noConfusion hb)
            refine qZ (rZ ?_)
            refine asZ (.bool false) rfl ?_
            refine nZ ?_
            refine Vc.ret' ?_
            refine res_tmp (v := .bool false) rfl ?_
            refine res_nil ?_
            show Gives _ (.bool false) _
            exact gives_out hrg (VW.refl _) (hQ _ h)
          replace h := h.2 hb6
          have hg4 := h.1
          replace h := h.2
          have hg5 := h.1
          replace h := h.2
          obtain ⟨r1, hc, h⟩ := h
          refine Vc.drawn' mixed rg (usOf [(41, pc (.bool r1))]) (by kernel_rfl) ?_
          refine dP rfl rfl (o_faP td65 rfl rfl (by rw [sz62]; decide) rfl ?_)
          refine dL (E := ([(rg, 2)], [])) rfl rfl (by simp) (cfn) (o_loadB1 (atL (k := 2) rfl) sz62 ag62 rfl rfl (v := eL eMove a.Moves) rfl ?_)
          refine dP rfl rfl (o_move (v := .int .i64 x) rfl ?_)
          refine dP rfl rfl (o_idxL td62 sz72 (by decide) (fun _ => rfl) rfl rfl hg ?_)
          refine dP rfl rfl (o_fa td72 rfl rfl (by rw [sz3]; decide) rfl rfl ?_)
          refine dP rfl rfl (o_loadI1 sz3 ag3 rfl rfl (v := .int .i64 ((at' a.Moves x).From)) rfl ?_)
          refine dP rfl rfl (o_faP td65 rfl rfl (by rw [sz62]; decide) rfl ?_)
          refine dL (E := ([(rg, 3)], [])) rfl rfl (by simp) (cfa (by simp [apartE]) (cfn)) (o_loadB1 (atL (k := 3) rfl) sz62 ag62 rfl rfl (v := eL eMove b.Moves) rfl ?_)
          refine dP rfl rfl (o_move (v := .int .i64 x) rfl ?_)
          refine dP rfl rfl (o_idxL td62 sz72 (by decide) (fun _ => rfl) rfl rfl hg1 ?_)
          refine dP rfl rfl (o_fa td72 rfl rfl (by rw [sz3]; decide) rfl rfl ?_)
          refine dP rfl rfl (o_loadI1 sz3 ag3 rfl rfl (v := .int .i64 ((at' b.Moves x).From)) rfl ?_)
          refine dP rfl rfl (o_neq rfl rfl ?_)
          refine dP rfl rfl (o_move (v := .bool ((at' a.Moves x).From != (at' b.Moves x).From)) rfl ?_)
          refine dGT rfl rfl hb5 ?_
          refine dP rfl rfl (o_faP td65 rfl rfl (by rw [sz62]; decide) rfl ?_)
          refine dGT rfl rfl rfl ?_
          refine dL (E := ([(rg, 2)], [])) rfl rfl (by simp) (cfo (by kernel_rfl) (cfo (by kernel_rfl) (cfn))) (o_loadB1 (atL (k := 2) rfl) sz62 ag62 rfl rfl (v := eL eMove a.Moves) rfl ?_)
          refine dGT rfl rfl rfl ?_
          refine dP rfl rfl (o_move (v := .int .i64 x) rfl ?_)
          refine dGT rfl rfl rfl ?_
          refine dP rfl rfl (o_idxL td62 sz72 (by decide) (fun _ => rfl) rfl rfl hg2 ?_)
          refine dGT rfl rfl rfl ?_
          refine dP rfl rfl (o_fa td72 rfl rfl (by rw [sz3]; decide) rfl rfl ?_)
          refine dGT rfl rfl rfl ?_
          refine dP rfl rfl (o_loadI1 sz3 ag3 rfl rfl (v := .int .i64 ((at' a.Moves x).To)) rfl ?_)
          refine dGT rfl rfl rfl ?_
          refine dP rfl rfl (o_faP td65 rfl rfl (by rw [sz62]; decide) rfl ?_)
          refine dGT rfl rfl rfl ?_
          refine dL (E := ([(rg, 3)], [])) rfl rfl (by simp) (cfa (by simp [apartE]) (cfo (by kernel_rfl) (cfo (by kernel_rfl) (cfn)))) (o_loadB1 (atL (k := 3) rfl) sz62 ag62 rfl rfl (v := eL eMove b.Moves) rfl ?_)
          refine dGT rfl rfl rfl ?_
          refine dP rfl rfl (o_move (v := .int .i64 x) rfl ?_)
          refine dGT rfl rfl rfl ?_
          refine dP rfl rfl (o_idxL td62 sz72 (by decide) (fun _ => rfl) rfl rfl hg3 ?_)
          refine dGT rfl rfl rfl ?_
          refine dP rfl rfl (o_fa td72 rfl rfl (by rw [sz3]; decide) rfl rfl ?_)
          refine dGT rfl rfl rfl ?_
          refine dP rfl rfl (o_loadI1 sz3 ag3 rfl rfl (v := .int .i64 ((at' b.Moves x).To)) rfl ?_)
          refine dGT rfl rfl rfl ?_
          refine dP rfl rfl (o_neq rfl rfl ?_)
          refine dP rfl rfl (o_pickF rfl rfl (v := .bool ((at' a.Moves x).To != (at' b.Moves x).To)) rfl ?_)
          refine dP rfl rfl (o_move (v := .bool ((at' a.Moves x).To != (at' b.Moves x).To)) rfl ?_)
          refine dGT rfl rfl hb6 ?_
          refine dP rfl rfl (o_faP td65 rfl rfl (by rw [sz62]; decide) rfl ?_)
          refine dGT rfl rfl rfl ?_
          refine dL (E := ([(rg, 2)], [])) rfl rfl (by simp) (cfo (by kernel_rfl) (cfo (by kernel_rfl) (cfo (by kernel_rfl) (cfo (by kernel_rfl) (cfn))))) (o_loadB1 (atL (k := 2) rfl) sz62 ag62 rfl rfl (v := eL eMove a.Moves) rfl ?_)
          refine dGT rfl rfl rfl ?_
          refine dP rfl rfl (o_move (v := .int .i64 x) rfl ?_)
          refine dGT rfl rfl rfl ?_
          refine dP rfl rfl (o_idxL td62 sz72 (by decide) (fun _ => rfl) rfl rfl hg4 ?_)
          refine dGT rfl rfl rfl ?_
          refine dP rfl rfl (o_fa td72 rfl rfl (by rw [sz27]; decide) rfl rfl ?_)
          refine dGT rfl rfl rfl ?_
          refine dP rfl rfl (o_loadIA sz27 (by decide) ag27 rfl rfl (v := eRat ((at' a.Moves x).Rate)) rfl ?_)
          refine dGT rfl rfl rfl ?_
          refine dP rfl rfl (o_faP td65 rfl rfl (by rw [sz62]; decide) rfl ?_)
          refine dGT rfl rfl rfl ?_
          refine dL (E := ([(rg, 3)], [])) rfl rfl (by simp) (cfa (by simp [apartE]) (cfo (by kernel_rfl) (cfo (by kernel_rfl) (cfo (by kernel_rfl) (cfo (by kernel_rfl) (cfn)))))) (o_loadB1 (atL (k := 3) rfl) sz62 ag62 rfl rfl (v := eL eMove b.Moves) rfl ?_)
          refine dGT rfl rfl rfl ?_
          refine dP rfl rfl (o_move (v := .int .i64 x) rfl ?_)
          refine dGT rfl rfl rfl ?_
          refine dP rfl rfl (o_idxL td62 sz72 (by decide) (fun _ => rfl) rfl rfl hg5 ?_)
          refine dGT rfl rfl rfl ?_
          refine dP rfl rfl (o_fa td72 rfl rfl (by rw [sz27]; decide) rfl rfl ?_)
          refine dGT rfl rfl rfl ?_
          refine dP rfl rfl (o_loadIA sz27 (by decide) ag27 rfl rfl (v := eRat ((at' b.Moves x).Rate)) rfl ?_)
          refine dGT rfl rfl rfl ?_
          refine dC (vs := [eRat ((at' a.Moves x).Rate), eRat ((at' b.Moves x).Rate)]) rfl (vl' vr (vl' vr (vn))) (fun _ => base_Rat_ctr hc (fun _ hr => ⟨by rw [hr], rfl⟩)) rfl ?_
          refine dGT rfl rfl rfl ?_
          refine dP rfl rfl (o_not rfl ?_)
          refine dP rfl rfl (o_pickF rfl rfl (v := .bool (!r1)) rfl ?_)
          refine dN ?_
          refine Vc.cond' rfl (fun hb7 => ?_) (fun hb7 => ?_)
          · replace h := h.1 hb7
            refine qZ (rZ ?_)
            refine asZ (.bool false) rfl ?_
            refine nZ ?_
            refine Vc.ret' ?_
            refine res_tmp (v := .bool false) rfl ?_
            refine res_nil ?_
            show Gives _ (.bool false) _
            exact gives_out hrg (VW.refl _) (hQ _ h)
          replace h := h.2 hb7
          refine Vc.skip' ?_
          refine rZ ?_
          refine wZ rg (o_addG rfl rfl h.1 ?_)
          replace h := h.2
          refine mvZ (.int .i64 (x + 1)) rfl ?_
          refine nZ ?_
          exact ⟨(x + 1), (canon (fc vr (fc vr (fc vr (fc vr (fn))))) (sc rfl (sc rfl (sn)))), h⟩
        replace h := h.2 hb4
        refine Vc.exit' (exB_self ?_)
        refine qZ (rZ ?_)
        refine asZ (.bool true) rfl ?_
        refine nZ ?_
        refine Vc.ret' ?_
        refine res_tmp (v := .bool true) rfl ?_
        refine res_nil ?_
        show Gives _ (.bool true) _
        exact gives_out hrg (VW.refl _) (hQ _ h)
      replace h := h.1 hb2
      refine Wl.guardF rfl rfl hb2 rfl ?_
      refine Wl.guardF rfl rfl hb2 rfl ?_
      refine Wl.guardF rfl rfl hb2 rfl ?_
      refine Wl.guardF rfl rfl hb2 rfl ?_
      refine Wl.guardF rfl rfl hb2 rfl ?_
      refine Wl.guardF rfl rfl hb2 rfl ?_
      refine wZ rg (o_pickT rfl hb2 (v := .bool true) rfl ?_)
      refine nZ ?_
      refine Vc.cond' rfl (fun _ => ?_) (fun hb => Bool.noConfusion hb)
      refine qZ (rZ ?_)
      refine asZ (.bool false) rfl ?_
      refine nZ ?_
      refine Vc.ret' ?_
      refine res_tmp (v := .bool false) rfl ?_
      refine res_nil ?_
      show Gives _ (.bool false) _
      exact gives_out hrg (VW.refl _) (hQ _ h)
    replace h := h.1 hb1
    refine Wl.guardF rfl rfl hb1 rfl ?_
    refine Wl.guardF rfl rfl hb1 rfl ?_
    refine Wl.guardF rfl rfl hb1 rfl ?_
    refine Wl.guardF rfl rfl hb1 rfl ?_
    refine Wl.guardF rfl rfl hb1 rfl ?_
    refine wZ rg (o_pickT rfl hb1 (v := .bool true) rfl ?_)
    refine mvZ (.bool true) rfl ?_
    refine Wl.guardF rfl rfl rfl rfl ?_
    refine Wl.guardF rfl rfl rfl rfl ?_
    refine Wl.guardF rfl rfl rfl rfl ?_
    refine Wl.guardF rfl rfl rfl rfl ?_
    refine Wl.guardF rfl rfl rfl rfl ?_
    refine Wl.guardF rfl rfl rfl rfl ?_
    refine Wl.guardF rfl rfl rfl rfl ?_
    refine wZ rg (o_pickT rfl rfl (v := .bool true) rfl ?_)
    refine nZ ?_
    refine Vc.cond' rfl (fun _ => ?_) (fun hb => Bool.noConfusion hb)
    refine qZ (rZ ?_)
    refine asZ (.bool false) rfl ?_
    refine nZ ?_
    refine Vc.ret' ?_
    refine res_tmp (v := .bool false) rfl ?_
    refine res_nil ?_
    show Gives _ (.bool false) _
    exact gives_out hrg (VW.refl _) (hQ _ h)
  replace h := h.1 hb
  refine Wl.guardF rfl rfl hb rfl ?_
  refine Wl.guardF rfl rfl hb rfl ?_
  refine Wl.guardF rfl rfl hb rfl ?_
  refine Wl.guardF rfl rfl hb rfl ?_
  refine wZ rg (o_pickT rfl hb (v := .bool true) rfl ?_)
  refine mvZ (.bool true) rfl ?_
  refine Wl.guardF rfl rfl rfl rfl ?_
  refine Wl.guardF rfl rfl rfl rfl ?_
  refine Wl.guardF rfl rfl rfl rfl ?_
  refine Wl.guardF rfl rfl rfl rfl ?_
  refine Wl.guardF rfl rfl rfl rfl ?_
  refine Wl.guardF rfl rfl rfl rfl ?_
  refine wZ rg (o_pickT rfl rfl (v := .bool true) rfl ?_)
  refine mvZ (.bool true) rfl ?_
  refine Wl.guardF rfl rfl rfl rfl ?_
  refine Wl.guardF rfl rfl rfl rfl ?_
  refine Wl.guardF rfl rfl rfl rfl ?_
  refine Wl.guardF rfl rfl rfl rfl ?_
  refine Wl.guardF rfl rfl rfl rfl ?_
  refine Wl.guardF rfl rfl rfl rfl ?_
  refine Wl.guardF rfl rfl rfl rfl ?_
  refine wZ rg (o_pickT rfl rfl (v := .bool true) rfl ?_)
  refine nZ ?_
  refine Vc.cond' rfl (fun _ => ?_) (fun hb => Bool.noConfusion hb)
  refine qZ (rZ ?_)
  refine asZ (.bool false) rfl ?_
  refine nZ ?_
  refine Vc.ret' ?_
  refine res_tmp (v := .bool false) rfl ?_
  refine res_nil ?_
  show Gives _ (.bool false) _
  exact gives_out hrg (VW.refl _) (hQ _ h)
end Go.Proofs.Ytonbnfgknijpoaa
