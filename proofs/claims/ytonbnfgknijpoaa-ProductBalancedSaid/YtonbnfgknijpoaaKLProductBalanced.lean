/- Walks of functions. Conditions: none. -/
import Derived.Test.YtonbnfgknijpoaaWLProductBalanced
import Derived.Test.YtonbnfgknijpoaaGgTy
import Derived.Test.YtonbnfgknijpoaaKB
import Derived.Test.YtonbnfgknijpoaaKH50
import Derived.Test.YtonbnfgknijpoaaKPproduct
import Derived.Test.YtonbnfgknijpoaaKPproductd
namespace Go.Proofs.Ytonbnfgknijpoaa
open Go.Gg
set_option maxRecDepth 100000
theorem law50_ProductBalanced_ctr {x : GRates} {Q : Bool → Prop} {S : St} {R : AV → St → Prop} (h : law50_ProductBalanced_W x Q) (hQ : ∀ r1, Q r1 → R (AV.bool r1) S) :
    Ctr Try.prog 9 [eRates x] S R := by
  unfold law50_ProductBalanced_W at h
  refine enterT Try.func9 rfl Try.ntmps9 Try.results9 (by kernel_rfl) (fun rg hrg => ?_)
  refine qZ (rZ ?_)
  refine wZ rg (o_box (v := eRates x) rfl rfl (kk := 2) rfl (by decide) (fun g1 => ?_))
  refine asZ (.bool false) rfl ?_
  refine nZ (qZ ?_)
  obtain ⟨J, h, hJ⟩ := h
  refine Vc.join' (σ := ((Bool) × (Nat))) (fun y => J y.1) (fun y => envOf [(1, .ptr rg 1 y.2 0 0), (29, .bool y.1)]) (fun y => stL S rg [(1, .arr 2 [eRates x], y.2)]) (fun y h => ?_) ?_
  · obtain ⟨x1, g2⟩ := y
    replace h := hJ x1 h
    show Vc _ _ _ _ (envOf [(1, .ptr rg 1 g2 0 0), (29, .bool x1)]) (stL S rg [(1, .arr 2 [eRates x], g2)])
    refine Vc.cond' rfl (fun hb => ?_) (fun hb => ?_)
    · replace h := h.1 hb
      refine qZ (rZ ?_)
      refine wZ rg (o_call (us := []) rfl (vn) (law50_awake_ctr h fun r h => ?_))
      refine asZ (.bool r) rfl ?_
      refine nZ ?_
      refine Vc.ret' ?_
      refine res_tmp (v := .bool r) rfl ?_
      refine res_nil ?_
      show Gives _ (.bool r) _
      exact gives_out hrg (VW.refl _) (hQ _ h)
    replace h := h.2 hb
    refine Vc.skip' ?_
    refine qZ (rZ ?_)
    refine wZ rg (o_faP td24 rfl rfl (by rw [sz22]; decide) rfl ?_)
    refine wZ rg (o_loadB1 (atL (k := 1) rfl) sz22 ag22 rfl rfl (v := eL eRat x.Fail) rfl ?_)
    refine wZ rg (o_faP td24 rfl rfl (by rw [sz22]; decide) rfl ?_)
    refine wZ rg (o_loadB1 (atL (k := 1) rfl) sz22 ag22 rfl rfl (v := eL eRat x.Repair) rfl ?_)
    refine wZ rg (o_call (us := [eL eRat x.Fail, eL eRat x.Repair]) rfl (vl' vr (vl' vr (vn))) (product_Stationary_ctr h fun r1 r2 h => ?_))
    refine mvZ (.tuple [eL eRat r1, eErr 107 r2]) rfl ?_
    refine wZ rg (o_extract (v := eL eRat r1) rfl rfl rfl ?_)
    refine wZ rg (o_extract (v := eErr 107 r2) rfl rfl rfl ?_)
    refine asZ (eL eRat r1) rfl ?_
    refine asZ (eErr 107 r2) rfl ?_
    refine nZ (qZ (qZ (rZ ?_)))
    refine mvZ (eErr 107 r2) rfl ?_
    refine wZ rg (o_isnon td31 (E := 107) rfl rfl rfl ?_)
    refine nZ ?_
    refine Vc.cond' rfl (fun hb1 => ?_) (fun hb1 => ?_)
    · replace h := h.1 hb1
      refine qZ (rZ ?_)
      refine mvZ (eL eRat r1) rfl ?_
      refine wZ rg (o_len td22 rfl ?_)
      refine wZ rg (o_eql rfl rfl ?_)
      refine asZ (.bool ((r1.length : Int) == 0)) rfl ?_
      refine nZ ?_
      refine Vc.ret' ?_
      refine res_tmp (v := .bool ((r1.length : Int) == 0)) rfl ?_
      refine res_nil ?_
      show Gives _ (.bool ((r1.length : Int) == 0)) _
      exact gives_out hrg (VW.refl _) (hQ _ h)
    replace h := h.2 hb1
    refine Vc.skip' ?_
    refine qZ (rZ ?_)
    refine wZ rg (o_faP td24 rfl rfl (by rw [sz22]; decide) rfl ?_)
    refine wZ rg (o_loadB1 (atL (k := 1) rfl) sz22 ag22 rfl rfl (v := eL eRat x.Fail) rfl ?_)
    refine wZ rg (o_faP td24 rfl rfl (by rw [sz22]; decide) rfl ?_)
    refine wZ rg (o_loadB1 (atL (k := 1) rfl) sz22 ag22 rfl rfl (v := eL eRat x.Repair) rfl ?_)
    refine wZ rg (o_faP td24 rfl rfl (by rw [sz22]; decide) rfl ?_)
    refine wZ rg (o_loadB1 (atL (k := 1) rfl) sz22 ag22 rfl rfl (v := eL eRat x.Fail) rfl ?_)
    refine wZ rg (o_len td22 rfl ?_)
    refine wZ rg (o_build td70 zav70 bok70 szs70 sz70 (ps := [(0, .int .i64 (x.Fail.length : Int))]) rfl rfl (v := .agg [.int .i64 (x.Fail.length : Int), .nil, .int .i64 0]) rfl ?_)
    refine wZ rg (o_call (us := [eL eRat x.Fail, eL eRat x.Repair, eFormula (⟨(x.Fail.length : Int), [], 0⟩ : GFormula)]) rfl (vl' vr (vl' vr (vl' (VW.aggL (vl' vr (vl' (VW.nilL) (vl' vr (vn))))) (vn)))) (product_Chain_ctr h fun r3 r4 h => ?_))
    refine mvZ (.tuple [eChain r3, eErr 107 r4]) rfl ?_
    refine wZ rg (o_extract (v := eChain r3) rfl rfl rfl ?_)
    refine wZ rg (o_extract (v := eErr 107 r4) rfl rfl rfl ?_)
    refine wZ rg (o_alloc zav65 ok65 (kk := 4) rfl (fun g3 => ?_))
    refine wZ rg (o_storeB (atL (k := 5) rfl) sz65 (by decide) rfl (w := eChain r3) rfl rfl rfl (v := eChain r3) rfl setL ?_)
    refine asZ (eErr 107 r4) rfl ?_
    refine nZ (qZ (qZ (rZ ?_)))
    refine mvZ (eErr 107 r4) rfl ?_
    refine wZ rg (o_isnon td31 (E := 107) rfl rfl rfl ?_)
    refine mvZ (.bool (Option.isSome r4)) rfl ?_
    refine Wl.guard rfl rfl (fun hb2 => ?_) (fun hb2 => ?_)
    · replace h := h.2 hb2
      refine mvZ (eL eRat r1) rfl ?_
      refine Wl.guardT rfl rfl hb2 ?_
      refine wZ rg (o_len td22 rfl ?_)
      refine Wl.guardT rfl rfl hb2 ?_
      refine wZ rg (o_faP td65 rfl rfl (by rw [sz3]; decide) rfl ?_)
      refine Wl.guardT rfl rfl hb2 ?_
      refine wZ rg (o_loadB1 (atL (k := 5) rfl) sz3 ag3 rfl rfl (v := .int .i64 r3.States) rfl ?_)
      refine Wl.guardT rfl rfl hb2 ?_
      refine wZ rg (o_neq rfl rfl ?_)
      refine wZ rg (o_pickF rfl hb2 (v := .bool ((r1.length : Int) != r3.States)) rfl ?_)
      refine nZ ?_
      refine Vc.cond' rfl (fun hb3 => ?_) (fun hb3 => ?_)
      · replace h := h.1 hb3
        refine qZ (rZ ?_)
        refine asZ (.bool false) rfl ?_
        refine nZ ?_
        refine Vc.ret' ?_
        refine res_tmp (v := .bool false) rfl ?_
        refine res_nil ?_
        show Gives _ (.bool false) _
        exact gives_out hrg (VW.refl _) (hQ _ h)
      replace h := h.2 hb3
      refine Vc.skip' ?_
      refine qZ (rZ ?_)
      refine wZ rg (o_build td27 zav27 bok27 szs27 sz27 (ps := []) rfl rfl (v := .agg [.bool false, .nil, .nil]) rfl ?_)
      refine wZ rg (o_alloc zav27 ok27 (kk := 3) rfl (fun g4 => ?_))
      refine wZ rg (o_storeB (atL (k := 7) rfl) sz27 (by decide) rfl (w := .agg [.bool false, .nil, .nil]) rfl rfl rfl (v := .agg [.bool false, .nil, .nil]) rfl setL ?_)
      refine nZ (qZ (rZ ?_))
      refine mvZ (eL eRat r1) rfl ?_
      refine wZ rg (o_len td22 rfl ?_)
      refine wZ rg (o_makeZ td22 bts27 ok27 zav27 (kk := 3) rfl rfl rfl h.1 (fun g5 => ?_))
      replace h := h.2
      refine Wl.wk (EWk.ow (k := 68) (o' := .arr 3 (List.map eRat (rep' (r1.length : Int) (⟨false, [], []⟩ : GRat)))) rfl (OW.rep (VWL.vwc (vl' vr (vl' (VW.nilL) (vl' (VW.nilL) (vn))))))) ?_
      refine asZ (.sl 3 rg 68 g5 0 (Int.toNat (r1.length : Int))) rfl ?_
      refine nZ (qZ (qZ (rZ ?_)))
      refine mvZ (eL eRat r1) rfl ?_
      refine wZ rg (o_len td22 rfl ?_)
      refine mvZ (.int .i64 0) rfl ?_
      refine nZ ?_
      refine Vc.blk ?_
      obtain ⟨I, μ, h0, hI⟩ := h
      refine Vc.loop' (σ := (Int × GRat)) (fun y => I y) (fun y => μ y) (fun y => envOf [(3, eL eRat r1), (5, .ptr rg 5 g3 0 0), (7, .ptr rg 7 g4 0 0), (8, .sl 3 rg 68 g5 0 (Int.toNat (r1.length : Int))), (69, eL eRat r1), (70, .int .i64 (r1.length : Int)), (71, .int .i64 y.1)]) (fun y => stL S rg [(5, .arr 4 [eChain r3], g3), (7, .arr 3 [eRat y.2], g4), (68, .arr 3 (List.map eRat (rep' (r1.length : Int) (⟨false, [], []⟩ : GRat))), g5)]) (0, (⟨false, [], []⟩ : GRat)) (EWk.trans (EWk.ow (k := 7) (o' := .arr 3 [eRat (⟨false, [], []⟩ : GRat)]) rfl (OW.one (VWL.vwc (vl' vr (vl' (VW.nilL) (vl' (VW.nilL) (vn))))))) (canon (fc vr (fc vr (fc vr (fc vr (fc vr (fc vr (fc vr (fn)))))))) (sc rfl (sc rfl (sc rfl (sn)))))) h0 (fun y h => ?_)
      obtain ⟨x2, x3⟩ := y
      replace h := hI (x2, x3) h
      show Vc _ _ _ _ (envOf [(3, eL eRat r1), (5, .ptr rg 5 g3 0 0), (7, .ptr rg 7 g4 0 0), (8, .sl 3 rg 68 g5 0 (Int.toNat (r1.length : Int))), (69, eL eRat r1), (70, .int .i64 (r1.length : Int)), (71, .int .i64 x2)]) (stL S rg [(5, .arr 4 [eChain r3], g3), (7, .arr 3 [eRat x3], g4), (68, .arr 3 (List.map eRat (rep' (r1.length : Int) (⟨false, [], []⟩ : GRat))), g5)])
      refine qZ (rZ ?_)
      refine wZ rg (o_lss rfl rfl ?_)
      refine nZ (qZ ?_)
      refine Vc.cond' rfl (fun hb4 => ?_) (fun hb4 => ?_)
      · replace h := h.1 hb4
        refine Vc.skip' ?_
        refine qZ ?_
        refine Vc.blk ?_
        refine qZ (rZ ?_)
        refine wZ rg (o_idxL td22 sz27 (by decide) (fun _ => rfl) rfl rfl h.1 ?_)
        replace h := h.2
        refine wZ rg (o_loadIA sz27 (by decide) ag27 rfl rfl (v := eRat (at' r1 x2)) rfl ?_)
        refine wZ rg (o_alloc zav27 ok27 (kk := 3) rfl (fun g6 => ?_))
        refine wZ rg (o_storeB (atL (k := 10) rfl) sz27 (by decide) rfl (w := eRat (at' r1 x2)) rfl rfl rfl (v := eRat (at' r1 x2)) rfl setL ?_)
        refine nZ (qZ (qZ (rZ ?_)))
        refine wZ rg (o_loadBA (atL (k := 10) rfl) sz27 (by decide) ag27 rfl rfl (v := eRat (at' r1 x2)) rfl ?_)
        refine wZ rg (o_call (us := [eRat (at' r1 x2)]) rfl (vl' vr (vn)) (rational_Sign_ctr h fun r5 h => ?_))
        refine wZ rg (o_lss rfl rfl ?_)
        refine nZ ?_
        refine Vc.cond' rfl (fun hb5 => ?_) (fun hb5 => ?_)
        · replace h := h.1 hb5
          refine qZ (rZ ?_)
          refine asZ (.bool false) rfl ?_
          refine nZ ?_
          refine Vc.ret' ?_
          refine res_tmp (v := .bool false) rfl ?_
          refine res_nil ?_
          show Gives _ (.bool false) _
          exact gives_out hrg (VW.refl _) (hQ _ h)
        replace h := h.2 hb5
        refine Vc.skip' ?_
        refine rZ ?_
        refine wZ rg (o_loadBA (atL (k := 7) rfl) sz27 (by decide) ag27 rfl rfl (v := eRat x3) rfl ?_)
        refine wZ rg (o_loadBA (atL (k := 10) rfl) sz27 (by decide) ag27 rfl rfl (v := eRat (at' r1 x2)) rfl ?_)
        refine wZ rg (o_call (us := [eRat x3, eRat (at' r1 x2)]) rfl (vl' vr (vl' vr (vn))) (rational_Add_ctr h fun r6 h => ?_))
        refine wZ rg (o_storeB (atL (k := 7) rfl) sz27 (by decide) rfl (w := eRat r6) rfl rfl rfl (v := eRat r6) rfl setL ?_)
        refine nZ (rZ ?_)
        refine wZ rg (o_addG rfl rfl h.1 ?_)
        replace h := h.2
        refine mvZ (.int .i64 (x2 + 1)) rfl ?_
        refine nZ ?_
        exact ⟨((x2 + 1), r6), (canon (fc vr (fc vr (fc vr (fc vr (fc vr (fc vr (fc vr (fn)))))))) (sc rfl (sc rfl (sc rfl (sn))))), h⟩
      replace h := h.2 hb4
      refine Vc.exit' (exB_self ?_)
      refine qZ (qZ (rZ ?_))
      refine wZ rg (o_faP td65 rfl rfl (by rw [sz62]; decide) rfl ?_)
      refine wZ rg (o_loadB1 (atL (k := 5) rfl) sz62 ag62 rfl rfl (v := eL eMove r3.Moves) rfl ?_)
      refine wZ rg (o_len td62 rfl ?_)
      refine mvZ (.int .i64 0) rfl ?_
      refine nZ ?_
      refine Vc.blk ?_
      obtain ⟨I, μ, h0, hI⟩ := h
      refine Vc.loop' (σ := (Int × (List GRat))) (fun y => I y) (fun y => μ y) (fun y => envOf [(3, eL eRat r1), (7, .ptr rg 7 g4 0 0), (8, .sl 3 rg 68 g5 0 y.2.length), (83, eL eMove r3.Moves), (84, .int .i64 (r3.Moves.length : Int)), (85, .int .i64 y.1)]) (fun y => stL S rg [(7, .arr 3 [eRat x3], g4), (68, .arr 3 (List.map eRat y.2), g5)]) (0, (rep' (r1.length : Int) (⟨false, [], []⟩ : GRat))) (canon (fc vr (fc vr (fc (VW.slen (by first | rfl | omega | (simp only [go_sem] <;> omega))) (fc vr (fc vr (fc vr (fn))))))) (sc rfl (sc rfl (sn)))) h0 (fun y h => ?_)
      obtain ⟨x4, net⟩ := y
      replace h := hI (x4, net) h
      show Vc _ _ _ _ (envOf [(3, eL eRat r1), (7, .ptr rg 7 g4 0 0), (8, .sl 3 rg 68 g5 0 net.length), (83, eL eMove r3.Moves), (84, .int .i64 (r3.Moves.length : Int)), (85, .int .i64 x4)]) (stL S rg [(7, .arr 3 [eRat x3], g4), (68, .arr 3 (List.map eRat net), g5)])
      refine qZ (rZ ?_)
      refine wZ rg (o_lss rfl rfl ?_)
      refine nZ (qZ ?_)
      refine Vc.cond' rfl (fun hb6 => ?_) (fun hb6 => ?_)
      · replace h := h.1 hb6
        refine Vc.skip' ?_
        refine qZ ?_
        refine Vc.blk ?_
        refine qZ (rZ ?_)
        refine wZ rg (o_idxL td62 sz72 (by decide) (fun _ => rfl) rfl rfl h.1 ?_)
        replace h := h.2
        refine wZ rg (o_loadIA sz72 (by decide) ag72 rfl rfl (v := eMove (at' r3.Moves x4)) rfl ?_)
        refine wZ rg (o_alloc zav72 ok72 (kk := 5) rfl (fun g7 => ?_))
        refine wZ rg (o_storeB (atL (k := 12) rfl) sz72 (by decide) rfl (w := eMove (at' r3.Moves x4)) rfl rfl rfl (v := eMove (at' r3.Moves x4)) rfl setL ?_)
        refine nZ (qZ (qZ (rZ ?_)))
        refine wZ rg (o_faP td72 rfl rfl (by rw [sz3]; decide) rfl ?_)
        refine wZ rg (o_loadB1 (atL (k := 12) rfl) sz3 ag3 rfl rfl (v := .int .i64 ((at' r3.Moves x4).From)) rfl ?_)
        refine wZ rg (o_lss rfl rfl ?_)
        refine mvZ (.bool (decide ((at' r3.Moves x4).From < 0))) rfl ?_
        refine Wl.guard rfl rfl (fun hb7 => ?_) (fun hb7 => ?_)
        · replace h := h.2 hb7
          refine wZ rg (o_faP td72 rfl rfl (by rw [sz3]; decide) rfl ?_)
          refine Wl.guardT rfl rfl hb7 ?_
          refine wZ rg (o_loadB1 (atL (k := 12) rfl) sz3 ag3 rfl rfl (v := .int .i64 ((at' r3.Moves x4).From)) rfl ?_)
          refine Wl.guardT rfl rfl hb7 ?_
          refine mvZ (eL eRat r1) rfl ?_
          refine Wl.guardT rfl rfl hb7 ?_
          refine wZ rg (o_len td22 rfl ?_)
          refine Wl.guardT rfl rfl hb7 ?_
          refine wZ rg (o_geq rfl rfl ?_)
          refine wZ rg (o_pickF rfl hb7 (v := .bool (decide ((r1.length : Int) ≤ (at' r3.Moves x4).From))) rfl ?_)
          refine mvZ (.bool (decide ((r1.length : Int) ≤ (at' r3.Moves x4).From))) rfl ?_
          refine Wl.guard rfl rfl (fun hb8 => ?_) (fun hb8 => ?_)
          · replace h := h.2 hb8
            refine wZ rg (o_faP td72 rfl rfl (by rw [sz3]; decide) rfl ?_)
            refine Wl.guardT rfl rfl hb8 ?_
            refine wZ rg (o_loadB1 (atL (k := 12) rfl) sz3 ag3 rfl rfl (v := .int .i64 ((at' r3.Moves x4).To)) rfl ?_)
            refine Wl.guardT rfl rfl hb8 ?_
            refine wZ rg (o_lss rfl rfl ?_)
            refine wZ rg (o_pickF rfl hb8 (v := .bool (decide ((at' r3.Moves x4).To < 0))) rfl ?_)
            refine mvZ (.bool (decide ((at' r3.Moves x4).To < 0))) rfl ?_
            refine Wl.guard rfl rfl (fun hb9 => ?_) (fun hb9 => ?_)
            · replace h := h.2 hb9
              refine wZ rg (o_faP td72 rfl rfl (by rw [sz3]; decide) rfl ?_)
              refine Wl.guardT rfl rfl hb9 ?_
              refine wZ rg (o_loadB1 (atL (k := 12) rfl) sz3 ag3 rfl rfl (v := .int .i64 ((at' r3.Moves x4).To)) rfl ?_)
              refine Wl.guardT rfl rfl hb9 ?_
              refine mvZ (eL eRat r1) rfl ?_
              refine Wl.guardT rfl rfl hb9 ?_
              refine wZ rg (o_len td22 rfl ?_)
              refine Wl.guardT rfl rfl hb9 ?_
              refine wZ rg (o_geq rfl rfl ?_)
              refine wZ rg (o_pickF rfl hb9 (v := .bool (decide ((r1.length : Int) ≤ (at' r3.Moves x4).To))) rfl ?_)
              refine nZ ?_
              refine Vc.cond' rfl (fun hb10 => ?_) (fun hb10 => ?_)
              · replace h := h.1 hb10
                refine qZ (rZ ?_)
                refine asZ (.bool false) rfl ?_
                refine nZ ?_
                refine Vc.ret' ?_
                refine res_tmp (v := .bool false) rfl ?_
                refine res_nil ?_
                show Gives _ (.bool false) _
                exact gives_out hrg (VW.refl _) (hQ _ h)
              replace h := h.2 hb10
              refine Vc.skip' ?_
              refine qZ ?_
              have hg := h.1
              replace h := h.2
              obtain ⟨r7, hc, h⟩ := h
              refine Vc.drawn' mixed rg (usOf [(7, pc (eRat r7))]) (by kernel_rfl) ?_
              refine dP rfl rfl (o_move (v := eL eRat r1) rfl ?_)
              refine dP rfl rfl (o_faP td72 rfl rfl (by rw [sz3]; decide) rfl ?_)
              refine dL (E := ([(rg, 12)], none)) rfl rfl (by simp) (cfn) (o_loadB1 (atL (k := 12) rfl) sz3 ag3 rfl rfl (v := .int .i64 ((at' r3.Moves x4).From)) rfl ?_)
              refine dP rfl rfl (o_idxL td22 sz27 (by decide) (fun _ => rfl) rfl rfl hg ?_)
              refine dP rfl rfl (o_loadIA sz27 (by decide) ag27 rfl rfl (v := eRat (at' r1 ((at' r3.Moves x4).From))) rfl ?_)
              refine dP rfl rfl (o_faP td72 rfl rfl (by rw [sz27]; decide) rfl ?_)
              refine dL (E := ([(rg, 12)], none)) rfl rfl (by simp) (cfa (by simp [apartE]) (cfn)) (o_loadBA (atL (k := 12) rfl) sz27 (by decide) ag27 rfl rfl (v := eRat ((at' r3.Moves x4).Rate)) rfl ?_)
              refine dC (vs := [eRat (at' r1 ((at' r3.Moves x4).From)), eRat ((at' r3.Moves x4).Rate)]) rfl (vl' vr (vl' vr (vn))) (fun _ => rational_Mul_ctr hc (fun _ hr => ⟨by rw [hr], rfl⟩)) rfl ?_
              refine dL (E := ([], some (rg, 13))) rfl rfl (by simp) (cfa (by simp [apartE]) (cfa (by simp [apartE]) (cfn))) (o_alloc zav27 ok27 (kk := 3) rfl (fun g8 => ?_))
              refine dL (E := ([], some (rg, 13))) rfl rfl (by simp) (cfo (by kernel_rfl) (cfo (by kernel_rfl) (cfo (by kernel_rfl) (cfn)))) (o_storeB (atL (k := 13) rfl) sz27 (by decide) rfl (w := eRat r7) rfl rfl rfl (v := eRat r7) rfl setL ?_)
              refine dN ?_
              have hi := h.1
              replace h := h.2
              obtain ⟨r8, hc1, h⟩ := h
              have hi1 := h.1
              replace h := h.2
              obtain ⟨r9, hc2, h⟩ := h
              have hi2 := h.1
              replace h := h.2
              have hi3 := h.1
              replace h := h.2
              refine Vc.drawn' mixed rg (usOf [(12, pc (eRat r8)), (19, pc (eRat r9))]) (by kernel_rfl) ?_
              refine dP rfl rfl (o_move (v := .sl 3 rg 68 g5 0 net.length) rfl ?_)
              refine dP rfl rfl (o_faP td72 rfl rfl (by rw [sz3]; decide) rfl ?_)
              refine dL (E := ([(rg, 12)], none)) rfl rfl (by simp) (cfn) (o_loadB1 (atL (k := 12) rfl) sz3 ag3 rfl rfl (v := .int .i64 ((at' r3.Moves x4).From)) rfl ?_)
              refine dP rfl rfl (o_move (v := .sl 3 rg 68 g5 0 net.length) rfl ?_)
              refine dP rfl rfl (o_faP td72 rfl rfl (by rw [sz3]; decide) rfl ?_)
              refine dL (E := ([(rg, 12)], none)) rfl rfl (by simp) (cfa (by simp [apartE]) (cfn)) (o_loadB1 (atL (k := 12) rfl) sz3 ag3 rfl rfl (v := .int .i64 ((at' r3.Moves x4).To)) rfl ?_)
              refine dP rfl rfl (o_move (v := .sl 3 rg 68 g5 0 net.length) rfl ?_)
              refine dP rfl rfl (o_faP td72 rfl rfl (by rw [sz3]; decide) rfl ?_)
              refine dL (E := ([(rg, 12)], none)) rfl rfl (by simp) (cfa (by simp [apartE]) (cfa (by simp [apartE]) (cfn))) (o_loadB1 (atL (k := 12) rfl) sz3 ag3 rfl rfl (v := .int .i64 ((at' r3.Moves x4).From)) rfl ?_)
              refine dP rfl rfl (o_idxR0 td22 sz27 (by decide) rfl rfl hi ?_)
              refine dL (E := ([(rg, 68)], none)) rfl rfl (by simp) (cfo (by kernel_rfl) (cfa (by simp [apartE]) (cfa (by simp [apartE]) (cfn)))) (o_loadRA (atL (k := 68) rfl) sz27 (by decide) ag27 rfl (lt_of hi (by first | rfl | omega | (simp only [go_sem] <;> omega))) rfl (v := eRat (at' net ((at' r3.Moves x4).From))) rfl ?_)
              refine dL (E := ([(rg, 13)], none)) rfl rfl (by simp) (cfa (by simp [apartE]) (cfa (by simp [apartE]) (cfa (by simp [apartE]) (cfa (by simp [apartE]) (cfn))))) (o_loadBA (atL (k := 13) rfl) sz27 (by decide) ag27 rfl rfl (v := eRat r7) rfl ?_)
              refine dC (vs := [eRat (at' net ((at' r3.Moves x4).From)), eRat r7]) rfl (vl' vr (vl' vr (vn))) (fun _ => rational_Sub_ctr hc1 (fun _ hr => ⟨by rw [hr], rfl⟩)) rfl ?_
              refine dP rfl rfl (o_move (v := .sl 3 rg 68 g5 0 net.length) rfl ?_)
              refine dP rfl rfl (o_faP td72 rfl rfl (by rw [sz3]; decide) rfl ?_)
              refine dL (E := ([(rg, 12)], none)) rfl rfl (by simp) (cfa (by simp [apartE]) (cfa (by simp [apartE]) (cfa (by simp [apartE]) (cfa (by simp [apartE]) (cfa (by simp [apartE]) (cfn)))))) (o_loadB1 (atL (k := 12) rfl) sz3 ag3 rfl rfl (v := .int .i64 ((at' r3.Moves x4).To)) rfl ?_)
              refine dP rfl rfl (o_idxR0 td22 sz27 (by decide) rfl rfl hi1 ?_)
              refine dL (E := ([(rg, 68)], none)) rfl rfl (by simp) (cfo (by kernel_rfl) (cfa (by simp [apartE]) (cfa (by simp [apartE]) (cfa (by simp [apartE]) (cfa (by simp [apartE]) (cfa (by simp [apartE]) (cfn))))))) (o_loadRA (atL (k := 68) rfl) sz27 (by decide) ag27 rfl (lt_of hi1 (by first | rfl | omega | (simp only [go_sem] <;> omega))) rfl (v := eRat (at' net ((at' r3.Moves x4).To))) rfl ?_)
              refine dL (E := ([(rg, 13)], none)) rfl rfl (by simp) (cfa (by simp [apartE]) (cfa (by simp [apartE]) (cfa (by simp [apartE]) (cfa (by simp [apartE]) (cfa (by simp [apartE]) (cfa (by simp [apartE]) (cfa (by simp [apartE]) (cfn)))))))) (o_loadBA (atL (k := 13) rfl) sz27 (by decide) ag27 rfl rfl (v := eRat r7) rfl ?_)
              refine dC (vs := [eRat (at' net ((at' r3.Moves x4).To)), eRat r7]) rfl (vl' vr (vl' vr (vn))) (fun _ => rational_Add_ctr hc2 (fun _ hr => ⟨by rw [hr], rfl⟩)) rfl ?_
              refine dP rfl rfl (o_idxR0 td22 sz27 (by decide) rfl rfl hi2 ?_)
              refine dL (E := ([], some (rg, 68))) rfl rfl (by simp) (cfo (by kernel_rfl) (cfo (by kernel_rfl) (cfo (by kernel_rfl) (cfo (by kernel_rfl) (cfo (by kernel_rfl) (cfo (by kernel_rfl) (cfa (by simp [apartE]) (cfo (by kernel_rfl) (cfn))))))))) (o_storeRA (atL (k := 68) rfl) sz27 (by decide) (x' := r8) (fun _ => rfl) rfl rfl (lt_of hi2 (by first | rfl | omega | (simp only [go_sem] <;> omega))) rfl rfl setL ?_)
              refine dP rfl rfl (o_idxR0 td22 sz27 (by decide) rfl rfl hi3 ?_)
              refine dL (E := ([], some (rg, 68))) rfl rfl (by simp) (cfo (by kernel_rfl) (cfo (by kernel_rfl) (cfo (by kernel_rfl) (cfo (by kernel_rfl) (cfo (by kernel_rfl) (cfo (by kernel_rfl) (cfo (by kernel_rfl) (cfo (by kernel_rfl) (cfo (by kernel_rfl) (cfn)))))))))) (o_storeRA (atL (k := 68) rfl) sz27 (by decide) (x' := r9) (fun _ => rfl) rfl rfl (lt_of hi3 (by first | rfl | omega | (simp only [go_sem] <;> omega))) rfl rfl setL ?_)
              refine dN ?_
              refine rZ ?_
              refine wZ rg (o_addG rfl rfl h.1 ?_)
              replace h := h.2
              refine mvZ (.int .i64 (x4 + 1)) rfl ?_
              refine nZ ?_
              exact ⟨((x4 + 1), (set' (set' net ((at' r3.Moves x4).From) r8) ((at' r3.Moves x4).To) r9)), (canon (fc vr (fc vr (fc (VW.slen (by first | rfl | omega | (simp only [go_sem] <;> omega))) (fc vr (fc vr (fc vr (fn))))))) (sc rfl (sc rfl (sn)))), h⟩
            replace h := h.1 hb9
            refine Wl.guardF rfl rfl hb9 rfl ?_
            refine Wl.guardF rfl rfl hb9 rfl ?_
            refine Wl.guardF rfl rfl hb9 rfl ?_
            refine Wl.guardF rfl rfl hb9 rfl ?_
            refine wZ rg (o_pickT rfl hb9 (v := .bool true) rfl ?_)
            refine nZ ?_
            refine Vc.cond' rfl (fun _ => ?_) (fun hb => Bool.noConfusion hb)
            refine qZ (rZ ?_)
            refine asZ (.bool false) rfl ?_
            refine nZ ?_
            refine Vc.ret' ?_
            refine res_tmp (v := .bool false) rfl ?_
            refine res_nil ?_
            show Gives _ (.bool false) _
            exact gives_out hrg (VW.refl _) (hQ _ h)
          replace h := h.1 hb8
          refine Wl.guardF rfl rfl hb8 rfl ?_
          refine Wl.guardF rfl rfl hb8 rfl ?_
          refine wZ rg (o_pickT rfl hb8 (v := .bool true) rfl ?_)
          refine mvZ (.bool true) rfl ?_
          refine Wl.guardF rfl rfl rfl rfl ?_
          refine Wl.guardF rfl rfl rfl rfl ?_
          refine Wl.guardF rfl rfl rfl rfl ?_
          refine Wl.guardF rfl rfl rfl rfl ?_
          refine Wl.guardF rfl rfl rfl rfl ?_
          refine wZ rg (o_pickT rfl rfl (v := .bool true) rfl ?_)
          refine nZ ?_
          refine Vc.cond' rfl (fun _ => ?_) (fun hb => Bool.noConfusion hb)
          refine qZ (rZ ?_)
          refine asZ (.bool false) rfl ?_
          refine nZ ?_
          refine Vc.ret' ?_
          refine res_tmp (v := .bool false) rfl ?_
          refine res_nil ?_
          show Gives _ (.bool false) _
          exact gives_out hrg (VW.refl _) (hQ _ h)
        replace h := h.1 hb7
        refine Wl.guardF rfl rfl hb7 rfl ?_
        refine Wl.guardF rfl rfl hb7 rfl ?_
        refine Wl.guardF rfl rfl hb7 rfl ?_
        refine Wl.guardF rfl rfl hb7 rfl ?_
        refine wZ rg (o_pickT rfl hb7 (v := .bool true) rfl ?_)
        refine mvZ (.bool true) rfl ?_
        refine Wl.guardF rfl rfl rfl rfl ?_
        refine Wl.guardF rfl rfl rfl rfl ?_
        refine Wl.guardF rfl rfl rfl rfl ?_
        refine wZ rg (o_pickT rfl rfl (v := .bool true) rfl ?_)
        refine mvZ (.bool true) rfl ?_
        refine Wl.guardF rfl rfl rfl rfl ?_
        refine Wl.guardF rfl rfl rfl rfl ?_
        refine Wl.guardF rfl rfl rfl rfl ?_
        refine Wl.guardF rfl rfl rfl rfl ?_
        refine Wl.guardF rfl rfl rfl rfl ?_
        refine wZ rg (o_pickT rfl rfl (v := .bool true) rfl ?_)
        refine nZ ?_
        refine Vc.cond' rfl (fun _ => ?_) (fun hb => Bool.noConfusion hb)
        refine qZ (rZ ?_)
        refine asZ (.bool false) rfl ?_
        refine nZ ?_
        refine Vc.ret' ?_
        refine res_tmp (v := .bool false) rfl ?_
        refine res_nil ?_
        show Gives _ (.bool false) _
        exact gives_out hrg (VW.refl _) (hQ _ h)
      replace h := h.2 hb6
      refine Vc.exit' (exB_self ?_)
      refine qZ (qZ (rZ ?_))
      refine mvZ (.sl 3 rg 68 g5 0 net.length) rfl ?_
      refine wZ rg (o_lenR td22 rfl ?_)
      refine mvZ (.int .i64 0) rfl ?_
      refine nZ ?_
      refine Vc.blk ?_
      obtain ⟨I, μ, h0, hI⟩ := h
      refine Vc.loop' (σ := (Int)) (fun y => I y) (fun y => μ y) (fun y => envOf [(7, .ptr rg 7 g4 0 0), (142, .sl 3 rg 68 g5 0 net.length), (143, .int .i64 (net.length : Int)), (144, .int .i64 y)]) (fun y => stL S rg [(7, .arr 3 [eRat x3], g4), (68, .arr 3 (List.map eRat net), g5)]) 0 (canon (fc vr (fc vr (fc vr (fc vr (fn))))) (sc rfl (sc rfl (sn)))) h0 (fun x5 h => ?_)
      replace h := hI x5 h
      show Vc _ _ _ _ (envOf [(7, .ptr rg 7 g4 0 0), (142, .sl 3 rg 68 g5 0 net.length), (143, .int .i64 (net.length : Int)), (144, .int .i64 x5)]) (stL S rg [(7, .arr 3 [eRat x3], g4), (68, .arr 3 (List.map eRat net), g5)])
      refine qZ (rZ ?_)
      refine wZ rg (o_lss rfl rfl ?_)
      refine nZ (qZ ?_)
      refine Vc.cond' rfl (fun hb11 => ?_) (fun hb11 => ?_)
      · replace h := h.1 hb11
        refine Vc.skip' ?_
        refine qZ ?_
        refine Vc.blk ?_
        refine qZ (rZ ?_)
        refine wZ rg (o_idxR0 td22 sz27 (by decide) rfl rfl h.1 ?_)
        have hi4 := h.1
        replace h := h.2
        refine wZ rg (o_loadRA (atL (k := 68) rfl) sz27 (by decide) ag27 rfl (lt_of hi4 (by first | rfl | omega | (simp only [go_sem] <;> omega))) rfl (v := eRat (at' net x5)) rfl ?_)
        refine wZ rg (o_alloc zav27 ok27 (kk := 3) rfl (fun g9 => ?_))
        refine wZ rg (o_storeB (atL (k := 15) rfl) sz27 (by decide) rfl (w := eRat (at' net x5)) rfl rfl rfl (v := eRat (at' net x5)) rfl setL ?_)
        refine nZ (qZ (rZ ?_))
        refine wZ rg (o_loadBA (atL (k := 15) rfl) sz27 (by decide) ag27 rfl rfl (v := eRat (at' net x5)) rfl ?_)
        refine wZ rg (o_call (us := [eRat (at' net x5)]) rfl (vl' vr (vn)) (rational_Sign_ctr h fun r10 h => ?_))
        refine wZ rg (o_neq rfl rfl ?_)
        refine nZ ?_
        refine Vc.cond' rfl (fun hb12 => ?_) (fun hb12 => ?_)
        · replace h := h.1 hb12
          refine qZ (rZ ?_)
          refine asZ (.bool false) rfl ?_
          refine nZ ?_
          refine Vc.ret' ?_
          refine res_tmp (v := .bool false) rfl ?_
          refine res_nil ?_
          show Gives _ (.bool false) _
          exact gives_out hrg (VW.refl _) (hQ _ h)
        replace h := h.2 hb12
        refine Vc.skip' ?_
        refine rZ ?_
        refine wZ rg (o_addG rfl rfl h.1 ?_)
        replace h := h.2
        refine mvZ (.int .i64 (x5 + 1)) rfl ?_
        refine nZ ?_
        exact ⟨(x5 + 1), (canon (fc vr (fc vr (fc vr (fc vr (fn))))) (sc rfl (sc rfl (sn)))), h⟩
      replace h := h.2 hb11
      refine Vc.exit' (exB_self ?_)
      refine qZ ?_
      obtain ⟨r11, hc3, h⟩ := h
      obtain ⟨r12, hc4, h⟩ := h
      refine Vc.drawn' mixed rg (usOf [(1, pc (eRat r11)), (2, pc (.int .i64 r12))]) (by kernel_rfl) ?_
      refine dL (E := ([(rg, 7)], none)) rfl rfl (by simp) (cfn) (o_loadBA (atL (k := 7) rfl) sz27 (by decide) ag27 rfl rfl (v := eRat x3) rfl ?_)
      refine dC (vs := [AV.int .i64 1]) rfl (vl' vr (vn)) (fun _ => rational_Of_ctr hc3 (fun _ hr => ⟨by rw [hr], rfl⟩)) rfl ?_
      refine dC (vs := [eRat x3, eRat r11]) rfl (vl' vr (vl' vr (vn))) (fun _ => rational_Cmp_ctr hc4 (fun _ hr => ⟨by rw [hr], rfl⟩)) rfl ?_
      refine dP rfl rfl (o_eql rfl rfl ?_)
      refine dP rfl rfl (o_assign (v := .bool (r12 == 0)) rfl ?_)
      refine dN ?_
      refine Vc.ret' ?_
      refine res_tmp (v := .bool (r12 == 0)) rfl ?_
      refine res_nil ?_
      show Gives _ (.bool (r12 == 0)) _
      exact gives_out hrg (VW.refl _) (hQ _ h)
    replace h := h.1 hb2
    refine Wl.guardF rfl rfl hb2 rfl ?_
    refine Wl.guardF rfl rfl hb2 rfl ?_
    refine Wl.guardF rfl rfl hb2 rfl ?_
    refine Wl.guardF rfl rfl hb2 rfl ?_
    refine wZ rg (o_pickT rfl hb2 (v := .bool true) rfl ?_)
    refine nZ ?_
    refine Vc.cond' rfl (fun _ => ?_) (fun hb => Bool.noConfusion hb)
    refine qZ (rZ ?_)
    refine asZ (.bool false) rfl ?_
    refine nZ ?_
    refine Vc.ret' ?_
    refine res_tmp (v := .bool false) rfl ?_
    refine res_nil ?_
    show Gives _ (.bool false) _
    exact gives_out hrg (VW.refl _) (hQ _ h)
  refine rZ ?_
  refine wZ rg (o_call (us := []) rfl (vn) (law50_awake_ctr h fun r13 h => ?_))
  refine wZ rg (o_not rfl ?_)
  refine mvZ (.bool (!r13)) rfl ?_
  refine Wl.guard rfl rfl (fun hb13 => ?_) (fun hb13 => ?_)
  · replace h := h.2 hb13
    refine wZ rg (o_faP td24 rfl rfl (by rw [sz22]; decide) rfl ?_)
    refine Wl.guardT rfl rfl hb13 ?_
    refine wZ rg (o_loadB1 (atL (k := 1) rfl) sz22 ag22 rfl rfl (v := eL eRat x.Fail) rfl ?_)
    refine Wl.guardT rfl rfl hb13 ?_
    refine wZ rg (o_call (us := [eL eRat x.Fail, AV.int .i64 5]) rfl (vl' vr (vl' vr (vn))) (law50_short_ctr h fun r14 h => ?_))
    refine Wl.guardT rfl rfl hb13 ?_
    refine wZ rg (o_not rfl ?_)
    refine wZ rg (o_pickF rfl hb13 (v := .bool (!r14)) rfl ?_)
    refine mvZ (.bool (!r14)) rfl ?_
    refine Wl.guard rfl rfl (fun hb14 => ?_) (fun hb14 => ?_)
    · replace h := h.2 hb14
      refine wZ rg (o_faP td24 rfl rfl (by rw [sz22]; decide) rfl ?_)
      refine Wl.guardT rfl rfl hb14 ?_
      refine wZ rg (o_loadB1 (atL (k := 1) rfl) sz22 ag22 rfl rfl (v := eL eRat x.Repair) rfl ?_)
      refine Wl.guardT rfl rfl hb14 ?_
      refine wZ rg (o_call (us := [eL eRat x.Repair, AV.int .i64 5]) rfl (vl' vr (vl' vr (vn))) (law50_short_ctr h fun r15 h => ?_))
      refine Wl.guardT rfl rfl hb14 ?_
      refine wZ rg (o_not rfl ?_)
      refine wZ rg (o_pickF rfl hb14 (v := .bool (!r15)) rfl ?_)
      refine nZ ?_
      exact ⟨((!r15), g1), (canon (fc vr (fc vr (fn))) (sc rfl (sn))), h⟩
    replace h := h.1 hb14
    refine Wl.guardF rfl rfl hb14 rfl ?_
    refine Wl.guardF rfl rfl hb14 rfl ?_
    refine Wl.guardF rfl rfl hb14 rfl ?_
    refine wZ rg (o_pickT rfl hb14 (v := .bool true) rfl ?_)
    refine nZ ?_
    exact ⟨(true, g1), (canon (fc vr (fc vr (fn))) (sc rfl (sn))), h⟩
  replace h := h.1 hb13
  refine Wl.guardF rfl rfl hb13 rfl ?_
  refine Wl.guardF rfl rfl hb13 rfl ?_
  refine Wl.guardF rfl rfl hb13 rfl ?_
  refine wZ rg (o_pickT rfl hb13 (v := .bool true) rfl ?_)
  refine mvZ (.bool true) rfl ?_
  refine Wl.guardF rfl rfl rfl rfl ?_
  refine Wl.guardF rfl rfl rfl rfl ?_
  refine Wl.guardF rfl rfl rfl rfl ?_
  refine Wl.guardF rfl rfl rfl rfl ?_
  refine wZ rg (o_pickT rfl rfl (v := .bool true) rfl ?_)
  refine nZ ?_
  exact ⟨(true, g1), (canon (fc vr (fc vr (fn))) (sc rfl (sn))), h⟩
end Go.Proofs.Ytonbnfgknijpoaa
