/- Walks of functions. Conditions: none. -/
import Derived.Test.YtiamkdpljeemkaaWa
import Derived.Test.YtiamkdpljeemkaaGgTy
import Derived.Test.YtiamkdpljeemkaaGf
import Derived.Test.YtiamkdpljeemkaaGd
import Derived.Test.YtiamkdpljeemkaaK1
/- Walks of functions. Conditions: none. -/
namespace Go.Proofs.Ytiamkdpljeemkaa
open Go.Gg
set_option maxRecDepth 100000
theorem order_Check_ctr {o : List Int} {vars : Int} {Q : Option Int → Prop} {S : St} {R : AV → St → Prop} (h : order_Check_W o vars Q) (hQ : ∀ r1, Q r1 → R (eErr 73 r1) S) :
    Ctr Try.prog 52 [eL (AV.int .i64) o, AV.int .i64 vars] S R := by
  unfold order_Check_W at h
  refine enterT Try.func52 rfl Try.ntmps52 Try.results52 (by kernel_rfl) (fun rg hrg => ?_)
  refine qZ (rZ (asZ .niface rfl (nZ (qZ ?_))))
  refine Vc.blk ?_
  obtain ⟨J, h, hJ⟩ := h
  refine Vc.join' (σ := (Bool)) (fun y => J y) (fun y => envOf [(0, eL (AV.int .i64) o), (1, .int .i64 vars), (8, .bool y)]) (fun y => stL S rg []) (fun x h => ?_) ?_
  · replace h := hJ x h
    show Vc _ _ _ _ (envOf [(0, eL (AV.int .i64) o), (1, .int .i64 vars), (8, .bool x)]) (stL S rg [])
    refine Vc.cond' rfl (fun hb => ?_) (fun hb => ?_)
    · replace h := h.1 hb
      refine qZ (rZ (wZ rg (o_iface (by rw [td73]; trivial) (v := .int .i64 3) rfl (asZ (.iface 73 (.int .i64 3)) rfl (nZ ?_)))))
      refine Vc.ret' ?_
      refine res_tmp (v := .iface 73 (.int .i64 3)) rfl (res_nil ?_)
      show Gives _ (.iface 73 (.int .i64 3)) _
      exact gives_out hrg (VW.refl _) (hQ _ h)
    replace h := h.2 hb
    refine qZ (rZ (mvZ (eL (AV.int .i64) o) rfl (wZ rg (o_len td25 rfl (mvZ (.int .i64 vars) rfl (wZ rg (o_neq rfl rfl (asZ (.bool ((o.length : Int) != vars)) rfl (nZ ?_)))))))))
    refine Vc.cond' rfl (fun hb1 => ?_) (fun hb1 => ?_)
    · replace h := h.1 hb1
      refine qZ (rZ (wZ rg (o_iface (by rw [td73]; trivial) (v := .int .i64 11) rfl (asZ (.iface 73 (.int .i64 11)) rfl (nZ ?_)))))
      refine Vc.ret' ?_
      refine res_tmp (v := .iface 73 (.int .i64 11)) rfl (res_nil ?_)
      show Gives _ (.iface 73 (.int .i64 11)) _
      exact gives_out hrg (VW.refl _) (hQ _ h)
    replace h := h.2 hb1
    refine Vc.skip' ?_
    refine qZ (rZ (mvZ (.int .i64 vars) rfl (wZ rg (o_make td110 bts4 ok4 (enc := AV.bool) (z' := false) zav4 (kk := 1) rfl rfl rfl h.1 (fun g1 => ?_)))))
    replace h := h.2
    refine asZ (.sl 1 rg 23 g1 0 (Int.toNat vars)) rfl (nZ (qZ (qZ (rZ (mvZ (eL (AV.int .i64) o) rfl (wZ rg (o_len td25 rfl (mvZ (.int .i64 0) rfl (nZ ?_)))))))))
    refine Vc.blk ?_
    obtain ⟨I, μ, h0, hI⟩ := h
    refine Vc.loop' (σ := ((Int × (List Bool)) × (Nat))) (fun y => I y.1) (fun y => μ y.1) (fun y => envOf [(1, .int .i64 vars), (5, .sl 1 rg 23 y.2 0 y.1.2.length), (24, eL (AV.int .i64) o), (25, .int .i64 (o.length : Int)), (26, .int .i64 y.1.1)]) (fun y => stL S rg [(23, .arr 1 (List.map AV.bool y.1.2), y.2)]) ((0, (rep' vars false)), g1) (canon (fc vr (fc (VW.slen (by first | rfl | omega | (simp only [go_sem] <;> omega))) (fc vr (fc vr (fc vr (fn)))))) (sc rfl (sn))) h0 (fun y h => ?_)
    obtain ⟨⟨x1, seen⟩, g2⟩ := y
    replace h := hI (x1, seen) h
    show Vc _ _ _ _ (envOf [(1, .int .i64 vars), (5, .sl 1 rg 23 g2 0 seen.length), (24, eL (AV.int .i64) o), (25, .int .i64 (o.length : Int)), (26, .int .i64 x1)]) (stL S rg [(23, .arr 1 (List.map AV.bool seen), g2)])
    refine qZ (rZ (wZ rg (o_lss rfl rfl (nZ (qZ ?_)))))
    refine Vc.cond' rfl (fun hb2 => ?_) (fun hb2 => ?_)
    · replace h := h.1 hb2
      refine Vc.skip' ?_
      refine qZ ?_
      refine Vc.blk ?_
      refine qZ (rZ (wZ rg (o_idxL td25 sz3 (by decide) (fun _ => rfl) rfl rfl h.1 ?_)))
      replace h := h.2
      refine wZ rg (o_loadI1 sz3 ag3 rfl rfl (v := .int .i64 (at' o x1)) rfl (asZ (.int .i64 (at' o x1)) rfl (nZ (qZ ?_))))
      obtain ⟨J, h, hJ⟩ := h
      refine Vc.join' (σ := ((Bool) × (Nat))) (fun y => J y.1) (fun y => envOf [(1, .int .i64 vars), (5, .sl 1 rg 23 y.2 0 seen.length), (7, .int .i64 (at' o x1)), (24, eL (AV.int .i64) o), (25, .int .i64 (o.length : Int)), (26, .int .i64 x1), (36, .bool y.1)]) (fun y => stL S rg [(23, .arr 1 (List.map AV.bool seen), y.2)]) (fun y h => ?_) ?_
      · obtain ⟨x2, g3⟩ := y
        replace h := hJ x2 h
        show Vc _ _ _ _ (envOf [(1, .int .i64 vars), (5, .sl 1 rg 23 g3 0 seen.length), (7, .int .i64 (at' o x1)), (24, eL (AV.int .i64) o), (25, .int .i64 (o.length : Int)), (26, .int .i64 x1), (36, .bool x2)]) (stL S rg [(23, .arr 1 (List.map AV.bool seen), g3)])
        refine Vc.cond' rfl (fun hb3 => ?_) (fun hb3 => ?_)
        · replace h := h.1 hb3
          refine qZ (rZ (wZ rg (o_iface (by rw [td73]; trivial) (v := .int .i64 3) rfl (asZ (.iface 73 (.int .i64 3)) rfl (nZ ?_)))))
          refine Vc.ret' ?_
          refine res_tmp (v := .iface 73 (.int .i64 3)) rfl (res_nil ?_)
          show Gives _ (.iface 73 (.int .i64 3)) _
          exact gives_out hrg (VW.refl _) (hQ _ h)
        replace h := h.2 hb3
        refine Vc.skip' ?_
        refine qZ (qZ (rZ (mvZ (.sl 1 rg 23 g3 0 seen.length) rfl (mvZ (.int .i64 (at' o x1)) rfl (wZ rg (o_idxR0 td110 sz4 (by decide) rfl rfl h.1 ?_))))))
        have hi := h.1
        replace h := h.2
        refine wZ rg (o_loadR1 (atL (k := 23) rfl) sz4 ag4 rfl (lt_of hi (by first | rfl | omega | (simp only [go_sem] <;> omega))) rfl (v := .bool (at' seen (at' o x1))) rfl (nZ ?_))
        refine Vc.cond' rfl (fun hb4 => ?_) (fun hb4 => ?_)
        · replace h := h.1 hb4
          refine qZ (rZ (wZ rg (o_iface (by rw [td73]; trivial) (v := .int .i64 6) rfl (asZ (.iface 73 (.int .i64 6)) rfl (nZ ?_)))))
          refine Vc.ret' ?_
          refine res_tmp (v := .iface 73 (.int .i64 6)) rfl (res_nil ?_)
          show Gives _ (.iface 73 (.int .i64 6)) _
          exact gives_out hrg (VW.refl _) (hQ _ h)
        replace h := h.2 hb4
        refine Vc.skip' ?_
        refine rZ ?_
        refine mvZ (.sl 1 rg 23 g3 0 seen.length) rfl (mvZ (.int .i64 (at' o x1)) rfl (wZ rg (o_idxR0 td110 sz4 (by decide) rfl rfl h.1 ?_)))
        have hi1 := h.1
        replace h := h.2
        refine wZ rg (o_storeR1 (atL (k := 23) rfl) sz4 (by decide) (x' := true) (fun _ => rfl) rfl rfl (lt_of hi1 (by first | rfl | omega | (simp only [go_sem] <;> omega))) rfl rfl setL (nZ (rZ (wZ rg (o_addG rfl rfl h.1 ?_)))))
        replace h := h.2
        refine mvZ (.int .i64 (x1 + 1)) rfl (nZ ?_)
        exact ⟨(((x1 + 1), (set' seen (at' o x1) true)), g3), (canon (fc vr (fc (VW.slen (by first | rfl | omega | (simp only [go_sem] <;> omega))) (fc vr (fc vr (fc vr (fn)))))) (sc rfl (sn))), h⟩
      refine rZ ?_
      refine mvZ (.int .i64 (at' o x1)) rfl (wZ rg (o_lss rfl rfl (mvZ (.bool (decide ((at' o x1) < 0))) rfl ?_)))
      refine Wl.guard rfl rfl (fun hb5 => ?_) (fun hb5 => ?_)
      · replace h := h.2 hb5
        refine mvZ (.int .i64 (at' o x1)) rfl ?_
        refine Wl.guardT rfl rfl hb5 ?_
        refine mvZ (.int .i64 vars) rfl ?_
        refine Wl.guardT rfl rfl hb5 ?_
        refine wZ rg (o_geq rfl rfl (wZ rg (o_pickF rfl hb5 (v := .bool (decide (vars ≤ (at' o x1)))) rfl (nZ ?_))))
        exact ⟨((decide (vars ≤ (at' o x1))), g2), (canon (fc vr (fc vr (fc vr (fc vr (fc vr (fc vr (fc vr (fn)))))))) (sc rfl (sn))), h⟩
      replace h := h.1 hb5
      refine Wl.guardF rfl rfl hb5 rfl ?_
      refine Wl.guardF rfl rfl hb5 rfl ?_
      refine wZ rg (o_pickT rfl hb5 (v := .bool true) rfl (nZ ?_))
      exact ⟨(true, g2), (canon (fc vr (fc vr (fc vr (fc vr (fc vr (fc vr (fc vr (fn)))))))) (sc rfl (sn))), h⟩
    replace h := h.2 hb2
    refine Vc.exit' (exB_self ?_)
    refine qZ (rZ (asZ .niface rfl (nZ ?_)))
    refine Vc.ret' ?_
    refine res_tmp (v := .niface) rfl (res_nil ?_)
    show Gives _ .niface _
    exact gives_out hrg (VW.refl _) (hQ _ h)
  refine rZ ?_
  refine mvZ (.int .i64 vars) rfl (wZ rg (o_lss rfl rfl (mvZ (.bool (decide (vars < 0))) rfl ?_)))
  refine Wl.guard rfl rfl (fun hb6 => ?_) (fun hb6 => ?_)
  · replace h := h.2 hb6
    refine mvZ (.int .i64 vars) rfl ?_
    refine Wl.guardT rfl rfl hb6 ?_
    refine wZ rg (o_gtr rfl rfl (wZ rg (o_pickF rfl hb6 (v := .bool (decide (24 < vars))) rfl (asZ (.bool (decide (24 < vars))) rfl (nZ ?_)))))
    exact ⟨(decide (24 < vars)), (canon (fc vr (fc vr (fc vr (fn)))) (sn)), h⟩
  replace h := h.1 hb6
  refine Wl.guardF rfl rfl hb6 rfl ?_
  refine wZ rg (o_pickT rfl hb6 (v := .bool true) rfl (asZ (.bool true) rfl (nZ ?_)))
  exact ⟨true, (canon (fc vr (fc vr (fc vr (fn)))) (sn)), h⟩
theorem order_places_ctr {o : List Int} {Q : List Int → Prop} {S : St} {R : AV → St → Prop} (h : order_places_W o Q) (hQ : ∀ r1, Q r1 → R (eL (AV.int .i64) r1) S) :
    Ctr Try.prog 101 [eL (AV.int .i64) o] S R := by
  unfold order_places_W at h
  refine enterT Try.func101 rfl Try.ntmps101 Try.results101 (by kernel_rfl) (fun rg hrg => ?_)
  refine qZ (rZ (asZ .nil rfl (nZ (qZ (rZ (mvZ (eL (AV.int .i64) o) rfl (wZ rg (o_len td25 rfl (wZ rg (o_make td25 bts3 ok3 (enc := AV.int .i64) (z' := 0) zav3 (kk := 1) rfl rfl rfl h.1 (fun g1 => ?_)))))))))))
  replace h := h.2
  refine asZ (.sl 1 rg 8 g1 0 (Int.toNat (o.length : Int))) rfl (nZ (qZ (qZ (rZ (mvZ (eL (AV.int .i64) o) rfl (wZ rg (o_len td25 rfl (mvZ (.int .i64 0) rfl (nZ ?_)))))))))
  refine Vc.blk ?_
  obtain ⟨I, μ, h0, hI⟩ := h
  refine Vc.loop' (σ := (Int × (List Int))) (fun y => I y) (fun y => μ y) (fun y => envOf [(3, .sl 1 rg 8 g1 0 y.2.length), (9, eL (AV.int .i64) o), (10, .int .i64 (o.length : Int)), (11, .int .i64 y.1)]) (fun y => stL S rg [(8, .arr 1 (List.map (AV.int .i64) y.2), g1)]) (0, (rep' (o.length : Int) 0)) (canon (fc (VW.slen (by first | rfl | omega | (simp only [go_sem] <;> omega))) (fc vr (fc vr (fc vr (fn))))) (sc rfl (sn))) h0 (fun y h => ?_)
  obtain ⟨x, out⟩ := y
  replace h := hI (x, out) h
  show Vc _ _ _ _ (envOf [(3, .sl 1 rg 8 g1 0 out.length), (9, eL (AV.int .i64) o), (10, .int .i64 (o.length : Int)), (11, .int .i64 x)]) (stL S rg [(8, .arr 1 (List.map (AV.int .i64) out), g1)])
  refine qZ (rZ (wZ rg (o_lss rfl rfl (nZ (qZ ?_)))))
  refine Vc.cond' rfl (fun hb => ?_) (fun hb => ?_)
  · replace h := h.1 hb
    refine Vc.skip' ?_
    refine qZ ?_
    refine Vc.blk ?_
    refine qZ (rZ (mvZ (.int .i64 x) rfl (wZ rg (o_idxL td25 sz3 (by decide) (fun _ => rfl) rfl rfl h.1 ?_))))
    replace h := h.2
    refine wZ rg (o_loadI1 sz3 ag3 rfl rfl (v := .int .i64 (at' o x)) rfl (asZ (.int .i64 x) rfl (asZ (.int .i64 (at' o x)) rfl (nZ (rZ (mvZ (.sl 1 rg 8 g1 0 out.length) rfl (mvZ (.int .i64 (at' o x)) rfl (mvZ (.int .i64 x) rfl (wZ rg (o_idxR0 td25 sz3 (by decide) rfl rfl h.1 ?_))))))))))
    have hi := h.1
    replace h := h.2
    refine wZ rg (o_storeR1 (atL (k := 8) rfl) sz3 (by decide) (x' := x) (fun _ => rfl) rfl rfl (lt_of hi (by first | rfl | omega | (simp only [go_sem] <;> omega))) rfl rfl setL (nZ (rZ (wZ rg (o_addG rfl rfl h.1 ?_)))))
    replace h := h.2
    refine mvZ (.int .i64 (x + 1)) rfl (nZ ?_)
    exact ⟨((x + 1), (set' out (at' o x) x)), (canon (fc (VW.slen (by first | rfl | omega | (simp only [go_sem] <;> omega))) (fc vr (fc vr (fc vr (fn))))) (sc rfl (sn))), h⟩
  replace h := h.2 hb
  refine Vc.exit' (exB_self ?_)
  refine qZ (rZ (mvZ (.sl 1 rg 8 g1 0 out.length) rfl (asZ (.sl 1 rg 8 g1 0 out.length) rfl (nZ ?_))))
  refine Vc.ret' ?_
  refine res_tmp (v := .sl 1 rg 8 g1 0 out.length) rfl (res_nil ?_)
  show Gives _ (.sl 1 rg 8 g1 0 out.length) _
  refine gives_freeze (k := 8) (xs := List.map (AV.int .i64) out) rfl (v' := eL (AV.int .i64) out) (frz_full rfl) ?_
  exact gives_out hrg (VW.refl _) (hQ _ h)
theorem order_Positions_ctr {o : List Int} {Q : List Int → Option Int → Prop} {S : St} {R : AV → St → Prop} (h : order_Positions_W o Q) (hQ : ∀ r1 r2, Q r1 r2 → R (.tuple [eL (AV.int .i64) r1, eErr 73 r2]) S) :
    Ctr Try.prog 55 [eL (AV.int .i64) o] S R := by
  unfold order_Positions_W at h
  refine enterT Try.func55 rfl Try.ntmps55 Try.results55 (by kernel_rfl) (fun rg hrg => ?_)
  refine qZ (rZ (asZ .nil rfl (asZ .niface rfl (nZ (qZ (qZ (rZ (mvZ (eL (AV.int .i64) o) rfl (mvZ (eL (AV.int .i64) o) rfl (wZ rg (o_len td25 rfl (wZ rg (o_call (us := [eL (AV.int .i64) o, AV.int .i64 (o.length : Int)]) rfl (vl' vr (vl' vr (vn))) (order_Check_ctr h fun err h => (asZ (eErr 73 err) rfl (nZ (qZ (rZ (mvZ (eErr 73 err) rfl (wZ rg (o_isnon td32 (E := 73) rfl rfl rfl (nZ ?_))))))))))))))))))))))
  refine Vc.cond' rfl (fun hb => ?_) (fun hb => ?_)
  · replace h := h.1 hb
    refine qZ (rZ (mvZ (eErr 73 err) rfl (asZ .nil rfl (asZ (eErr 73 err) rfl (nZ ?_)))))
    refine Vc.ret' ?_
    refine res_tmp (v := .nil) rfl (res_tmp (v := eErr 73 err) rfl (res_nil ?_))
    show Gives _ (.tuple [.nil, eErr 73 err]) _
    exact gives_out hrg (VW.tupL (vl' (VW.nilL) (vl' vr (vn)))) (hQ _ _ h)
  replace h := h.2 hb
  refine Vc.skip' ?_
  refine qZ (rZ (mvZ (eL (AV.int .i64) o) rfl (wZ rg (o_call (us := [eL (AV.int .i64) o]) rfl (vl' vr (vn)) (order_places_ctr h fun r h => (asZ (eL (AV.int .i64) r) rfl (asZ .niface rfl (nZ ?_))))))))
  refine Vc.ret' ?_
  refine res_tmp (v := eL (AV.int .i64) r) rfl (res_tmp (v := .niface) rfl (res_nil ?_))
  show Gives _ (.tuple [eL (AV.int .i64) r, .niface]) _
  exact gives_out hrg (VW.tupL (vl' vr (vl' vr (vn)))) (hQ _ _ h)
end Go.Proofs.Ytiamkdpljeemkaa
/- Walks of functions. Conditions: none. -/
namespace Go.Proofs.Ytiamkdpljeemkaa
open Go.Gg
set_option maxRecDepth 100000
theorem order_natural_ctrO {n : Int} (q k : Nat) {Q : List Int → Prop} {S : St} {R : AV → St → Prop} (h : order_natural_W n Q) (hQ : ∀ r1 g, Q r1 → R (.sl 1 q k g 0 r1.length) (S.set q k (.arr 1 (List.map (AV.int .i64) r1)) g)) :
    Ctr Try.prog 102 [AV.int .i64 n] S R := by
  unfold order_natural_W at h
  refine enterT Try.func102 rfl Try.ntmps102 Try.results102 (by kernel_rfl) (fun rg hrg => ?_)
  refine qZ (rZ (asZ .nil rfl (nZ (qZ (rZ (mvZ (.int .i64 n) rfl (wZ rg (o_make td25 bts3 ok3 (enc := AV.int .i64) (z' := 0) zav3 (kk := 1) rfl rfl rfl h.1 (fun g1 => ?_)))))))))
  replace h := h.2
  refine asZ (.sl 1 rg 6 g1 0 (Int.toNat n)) rfl (nZ (qZ (qZ (rZ (mvZ (.sl 1 rg 6 g1 0 (Int.toNat n)) rfl (wZ rg (o_lenR td25 rfl (mvZ (.int .i64 0) rfl (nZ ?_)))))))))
  refine Vc.blk ?_
  obtain ⟨I, μ, h0, hI⟩ := h
  refine Vc.loop' (σ := (Int × (List Int))) (fun y => I y) (fun y => μ y) (fun y => envOf [(3, .sl 1 rg 6 g1 0 y.2.length), (8, .int .i64 ((Int.toNat n) : Int)), (9, .int .i64 y.1)]) (fun y => stL S rg [(6, .arr 1 (List.map (AV.int .i64) y.2), g1)]) (0, (rep' n 0)) (canon (fc (VW.slen (by first | rfl | omega | (simp only [go_sem] <;> omega))) (fc vr (fc vr (fn)))) (sc rfl (sn))) h0 (fun y h => ?_)
  obtain ⟨x, out⟩ := y
  replace h := hI (x, out) h
  show Vc _ _ _ _ (envOf [(3, .sl 1 rg 6 g1 0 out.length), (8, .int .i64 ((Int.toNat n) : Int)), (9, .int .i64 x)]) (stL S rg [(6, .arr 1 (List.map (AV.int .i64) out), g1)])
  refine qZ (rZ (wZ rg (o_lss rfl rfl (nZ (qZ ?_)))))
  refine Vc.cond' rfl (fun hb => ?_) (fun hb => ?_)
  · replace h := h.1 hb
    refine Vc.skip' ?_
    refine qZ ?_
    refine Vc.blk ?_
    refine qZ (rZ (mvZ (.int .i64 x) rfl (asZ (.int .i64 x) rfl (nZ (rZ (mvZ (.sl 1 rg 6 g1 0 out.length) rfl (mvZ (.int .i64 x) rfl (mvZ (.int .i64 x) rfl (wZ rg (o_idxR0 td25 sz3 (by decide) rfl rfl h.1 ?_))))))))))
    have hi := h.1
    replace h := h.2
    refine wZ rg (o_storeR1 (atL (k := 6) rfl) sz3 (by decide) (x' := x) (fun _ => rfl) rfl rfl (lt_of hi (by first | rfl | omega | (simp only [go_sem] <;> omega))) rfl rfl setL (nZ (rZ (wZ rg (o_addG rfl rfl h.1 ?_)))))
    replace h := h.2
    refine mvZ (.int .i64 (x + 1)) rfl (nZ ?_)
    exact ⟨((x + 1), (set' out x x)), (canon (fc (VW.slen (by first | rfl | omega | (simp only [go_sem] <;> omega))) (fc vr (fc vr (fn)))) (sc rfl (sn))), h⟩
  replace h := h.2 hb
  refine Vc.exit' (exB_self ?_)
  refine qZ (rZ (mvZ (.sl 1 rg 6 g1 0 out.length) rfl (asZ (.sl 1 rg 6 g1 0 out.length) rfl (nZ ?_))))
  refine Vc.ret' ?_
  refine res_tmp (v := .sl 1 rg 6 g1 0 out.length) rfl (res_nil ?_)
  show Gives _ (.sl 1 rg 6 g1 0 out.length) _
  exact gives_own q k hrg rfl (fun g' => hQ _ g' h)
end Go.Proofs.Ytiamkdpljeemkaa
/- Walks of functions. Conditions: none. -/
namespace Go.Proofs.Ytiamkdpljeemkaa
open Go.Gg
set_option maxRecDepth 100000
theorem slices_Backward___api_Node_api_Node_ctr {s : List GNode} {S : St} {R : AV → St → Prop} (h : R (.fn (.func 145) [] [.iptr (AV.cells (eL eNode s))]) S) :
    Ctr Try.prog 110 [eL eNode s] S R := by
  refine enterT Try.func110 rfl Try.ntmps110 Try.results110 (by kernel_rfl) (fun rg hrg => ?_)
  refine qZ (rZ (wZ rg (o_box (v := eL eNode s) rfl rfl (kk := 1) rfl (by decide) (fun g1 => (asZ .nilf rfl (nZ ?_))))))
  refine qZ (rZ (wZ rg (o_func (vs := []) (us := [.ptr rg 1 g1 0 0]) rfl rfl (asZ (.fn (.func 145) [] [.ptr rg 1 g1 0 0]) rfl (nZ ?_)))))
  refine Vc.ret' ?_
  refine res_tmp (v := .fn (.func 145) [] [.ptr rg 1 g1 0 0]) rfl (res_nil ?_)
  show Gives _ (.fn (.func 145) [] [.ptr rg 1 g1 0 0]) _
  exact gives_fnI hrg rfl rfl h
theorem slices_Backward___api_Node_api_Node_iter {s : List GNode} (hl : rng (s.length : Int)) : Iterates Try.prog 145 [.iptr (AV.cells (eL eNode s))] (backs eNode s) := by
  intro rr gg rec ix es I S hR h0
  refine enterT Try.func145 rfl Try.ntmps145 Try.results145 (by kernel_rfl) (fun rg hrg => ?_)
  rw [stL_nil hrg]
  refine qZ (rZ (wZ rg (o_loadI1 sz22 ag22 rfl rfl (v := eL eNode s) rfl (wZ rg (o_len td22 rfl (wZ rg (o_subG rfl rfl (by unfold rng at *; omega) (asZ (.int .i64 ((s.length : Int) - 1)) rfl (nZ ?_)))))))))
  refine Vc.blk ?_
  refine Vc.loop' (σ := Nat × St) (fun y => y.1 ≤ s.length ∧ I y.1 y.2) (fun y => s.length - y.1) (fun y => envOf [(0, .yl rr 0 gg rec ix es), (1, .iptr (AV.cells (eL eNode s))), (3, .int .i64 ((s.length : Int) - 1 - (y.1 : Int)))]) (fun y => y.2) (0, S)
    (canonS (fc vr (fc vr (fc (vw_int (by first | omega | (dsimp only; omega))) (fn))))) ⟨Nat.zero_le _, h0⟩ (fun y h => ?_)
  obtain ⟨i, S1⟩ := y
  show Vc _ _ _ _ (envOf [(0, .yl rr 0 gg rec ix es), (1, .iptr (AV.cells (eL eNode s))), (3, .int .i64 ((s.length : Int) - 1 - (i : Int)))]) S1
  refine qZ (qZ (rZ (mvZ (.int .i64 ((s.length : Int) - 1 - (i : Int))) rfl (wZ rg (o_geq rfl rfl (nZ ?_))))))
  refine Vc.cond' rfl (fun hb => ?_) (fun hb => ?_)
  · have hi : i < s.length := by have := of_decide_eq_true hb; omega
    refine Vc.skip' ?_
    refine qZ (Vc.blk ?_)
    refine qZ (rZ (mvZ (.yl rr 0 gg rec ix es) rfl (mvZ (.int .i64 ((s.length : Int) - 1 - (i : Int))) rfl (wZ rg (o_loadI1 sz22 ag22 rfl rfl (v := eL eNode s) rfl (mvZ (.int .i64 ((s.length : Int) - 1 - (i : Int))) rfl (wZ rg (o_idxL td22 sz105 (by decide) (fun _ => rfl) rfl rfl (by omega) (wZ rg (o_loadIA sz105 (by decide) ag105 rfl rfl (v := eNode (at' s ((s.length : Int) - 1 - (i : Int)))) rfl ?_))))))))))
    refine Wl.yield hR i (by rw [backs_len]; exact hi) h.2 rfl (by rw [backs_get]; rfl) (fun S2 h2 => ?_)
    refine wZ rg (o_not rfl (nZ ?_))
    refine Vc.cond' rfl (fun hb => by cases hb) (fun _ => ?_)
    refine Vc.skip' ?_
    refine rZ (mvZ (.int .i64 ((s.length : Int) - 1 - (i : Int))) rfl (wZ rg (o_subG rfl rfl (by unfold rng at *; omega) (asZ (.int .i64 ((s.length : Int) - 1 - (i : Int) - 1)) rfl (nZ ?_)))))
    exact ⟨(i + 1, S2), canonS (fc vr (fc vr (fc (vw_int (by first | omega | (dsimp only; omega))) (fn)))), ⟨hi, h2⟩, by show s.length - (i + 1) < s.length - i; omega⟩
  · refine Vc.exit' (exB_self ?_)
    refine res_nil ?_
    show Gives _ (.tuple []) _
    have hi : i = s.length := by have := of_decide_eq_false hb; have := h.1; omega
    subst hi
    exact Gives.now (by rw [backs_len]; exact h.2)
end Go.Proofs.Ytiamkdpljeemkaa
/- Walks of functions. Conditions: none. -/
namespace Go.Proofs.Ytiamkdpljeemkaa
open Go.Gg
set_option maxRecDepth 100000
theorem order_Distance_ctr {a : List Int} {b : List Int} {Q : Int → Option Int → Prop} {S : St} {R : AV → St → Prop} (h : order_Distance_W a b Q) (hQ : ∀ r1 r2, Q r1 r2 → R (.tuple [AV.int .i64 r1, eErr 73 r2]) S) :
    Ctr Try.prog 48 [eL (AV.int .i64) a, eL (AV.int .i64) b] S R := by
  unfold order_Distance_W at h
  refine enterT Try.func48 rfl Try.ntmps48 Try.results48 (by kernel_rfl) (fun rg hrg => ?_)
  refine qZ (rZ (asZ (.int .i64 0) rfl (asZ .niface rfl (nZ (qZ (qZ (rZ (mvZ (eL (AV.int .i64) a) rfl (mvZ (eL (AV.int .i64) b) rfl (wZ rg (o_bslice td127 ok25 zav25 (es := [eL (AV.int .i64) a, eL (AV.int .i64) b]) rfl (kk := 1) rfl rfl rfl rfl rfl rfl (fun g1 => (wZ rg (o_lenR td127 rfl (mvZ (.int .i64 0) rfl (nZ ?_))))))))))))))))
  refine Vc.blk ?_
  obtain ⟨I, μ, h0, hI⟩ := h
  refine Vc.loop' (σ := (Int)) (fun y => I y) (fun y => μ y) (fun y => envOf [(0, eL (AV.int .i64) a), (1, eL (AV.int .i64) b), (17, .sl 1 rg 17 g1 0 ([a, b].length)), (18, .int .i64 ([a, b].length : Int)), (19, .int .i64 y)]) (fun y => stL S rg [(17, .arr 1 (List.map (eL (AV.int .i64)) [a, b]), g1)]) 0 (canon (fc vr (fc vr (fc vr (fc vr (fc vr (fn)))))) (sc rfl (sn))) h0 (fun x h => ?_)
  replace h := hI x h
  show Vc _ _ _ _ (envOf [(0, eL (AV.int .i64) a), (1, eL (AV.int .i64) b), (17, .sl 1 rg 17 g1 0 ([a, b].length)), (18, .int .i64 ([a, b].length : Int)), (19, .int .i64 x)]) (stL S rg [(17, .arr 1 (List.map (eL (AV.int .i64)) [a, b]), g1)])
  refine qZ (rZ (wZ rg (o_lss rfl rfl (nZ (qZ ?_)))))
  refine Vc.cond' rfl (fun hb => ?_) (fun hb => ?_)
  · replace h := h.1 hb
    refine Vc.skip' ?_
    refine qZ ?_
    refine Vc.blk ?_
    refine qZ (rZ (wZ rg (o_idxR0 td127 sz25 (by decide) rfl rfl h.1 ?_)))
    have hi := h.1
    replace h := h.2
    refine wZ rg (o_loadR1 (atL (k := 17) rfl) sz25 ag25 rfl (lt_of hi (by first | rfl | omega | (simp only [go_sem] <;> omega))) rfl (v := eL (AV.int .i64) (at' [a, b] x)) rfl (asZ (eL (AV.int .i64) (at' [a, b] x)) rfl (nZ (qZ (rZ (mvZ (eL (AV.int .i64) (at' [a, b] x)) rfl (mvZ (eL (AV.int .i64) (at' [a, b] x)) rfl (wZ rg (o_len td25 rfl ?_)))))))))
    refine wZ rg (o_call (us := [eL (AV.int .i64) (at' [a, b] x), AV.int .i64 ((at' [a, b] x).length : Int)]) rfl (vl' vr (vl' vr (vn))) (order_Check_ctr h fun err h => (asZ (eErr 73 err) rfl (nZ (qZ (rZ (mvZ (eErr 73 err) rfl (wZ rg (o_isnon td32 (E := 73) rfl rfl rfl (nZ ?_))))))))))
    refine Vc.cond' rfl (fun hb1 => ?_) (fun hb1 => ?_)
    · replace h := h.1 hb1
      refine qZ (rZ (mvZ (eErr 73 err) rfl (asZ (.int .i64 0) rfl (asZ (eErr 73 err) rfl (nZ ?_)))))
      refine Vc.ret' ?_
      refine res_tmp (v := .int .i64 0) rfl (res_tmp (v := eErr 73 err) rfl (res_nil ?_))
      show Gives _ (.tuple [.int .i64 0, eErr 73 err]) _
      exact gives_out hrg (VW.tupL (vl' vr (vl' vr (vn)))) (hQ _ _ h)
    replace h := h.2 hb1
    refine Vc.skip' ?_
    refine rZ ?_
    refine wZ rg (o_addG rfl rfl h.1 ?_)
    replace h := h.2
    refine mvZ (.int .i64 (x + 1)) rfl (nZ ?_)
    exact ⟨(x + 1), (canon (fc vr (fc vr (fc vr (fc vr (fc vr (fn)))))) (sc rfl (sn))), h⟩
  replace h := h.2 hb
  refine Vc.exit' (exB_self ?_)
  refine qZ (qZ (rZ (mvZ (eL (AV.int .i64) a) rfl (wZ rg (o_len td25 rfl (mvZ (eL (AV.int .i64) b) rfl (wZ rg (o_len td25 rfl (wZ rg (o_neq rfl rfl (nZ ?_)))))))))))
  refine Vc.cond' rfl (fun hb2 => ?_) (fun hb2 => ?_)
  · replace h := h.1 hb2
    refine qZ (rZ (wZ rg (o_iface (by rw [td73]; trivial) (v := .int .i64 11) rfl (asZ (.int .i64 0) rfl (asZ (.iface 73 (.int .i64 11)) rfl (nZ ?_))))))
    refine Vc.ret' ?_
    refine res_tmp (v := .int .i64 0) rfl (res_tmp (v := .iface 73 (.int .i64 11)) rfl (res_nil ?_))
    show Gives _ (.tuple [.int .i64 0, .iface 73 (.int .i64 11)]) _
    exact gives_out hrg (VW.tupL (vl' vr (vl' vr (vn)))) (hQ _ _ h)
  replace h := h.2 hb2
  refine Vc.skip' ?_
  refine qZ (rZ (mvZ (eL (AV.int .i64) b) rfl (wZ rg (o_call (us := [eL (AV.int .i64) b]) rfl (vl' vr (vn)) (order_places_ctr h fun at1 h => (asZ (eL (AV.int .i64) at1) rfl (nZ (qZ (rZ (asZ (.int .i64 0) rfl (nZ (qZ (qZ (rZ (mvZ (eL (AV.int .i64) a) rfl (wZ rg (o_len td25 rfl (mvZ (.int .i64 0) rfl (nZ ?_)))))))))))))))))))
  refine Vc.blk ?_
  obtain ⟨I, μ, h0, hI⟩ := h
  refine Vc.loop' (σ := (Int × Int)) (fun y => I y) (fun y => μ y) (fun y => envOf [(0, eL (AV.int .i64) a), (9, eL (AV.int .i64) at1), (10, .int .i64 y.1), (39, eL (AV.int .i64) a), (40, .int .i64 (a.length : Int)), (41, .int .i64 y.2)]) (fun y => stL S rg []) (0, 0) (canon (fc vr (fc vr (fc vr (fc vr (fc vr (fc vr (fn))))))) (sn)) h0 (fun y h => ?_)
  obtain ⟨n, x1⟩ := y
  replace h := hI (n, x1) h
  show Vc _ _ _ _ (envOf [(0, eL (AV.int .i64) a), (9, eL (AV.int .i64) at1), (10, .int .i64 n), (39, eL (AV.int .i64) a), (40, .int .i64 (a.length : Int)), (41, .int .i64 x1)]) (stL S rg [])
  refine qZ (rZ (wZ rg (o_lss rfl rfl (nZ (qZ ?_)))))
  refine Vc.cond' rfl (fun hb3 => ?_) (fun hb3 => ?_)
  · replace h := h.1 hb3
    refine Vc.skip' ?_
    refine qZ ?_
    refine Vc.blk ?_
    refine qZ (rZ (mvZ (.int .i64 x1) rfl (wZ rg (o_idxL td25 sz3 (by decide) (fun _ => rfl) rfl rfl h.1 ?_))))
    replace h := h.2
    refine wZ rg (o_loadI1 sz3 ag3 rfl rfl (v := .int .i64 (at' a x1)) rfl (asZ (.int .i64 x1) rfl (asZ (.int .i64 (at' a x1)) rfl (nZ (qZ (rZ (mvZ (eL (AV.int .i64) a) rfl (mvZ (.int .i64 x1) rfl (wZ rg (o_sliceL td25 sz3 (by decide) (fun _ => rfl) rfl (l := 0) (h := x1) rfl rfl h.1 ?_))))))))))
    replace h := h.2
    refine wZ rg (o_len td25 rfl (mvZ (.int .i64 0) rfl (nZ ?_)))
    refine Vc.blk ?_
    obtain ⟨I, μ, h0, hI⟩ := h
    refine Vc.loop' (σ := (Int × Int)) (fun y => I y) (fun y => μ y) (fun y => envOf [(0, eL (AV.int .i64) a), (9, eL (AV.int .i64) at1), (10, .int .i64 y.1), (12, .int .i64 (at' a x1)), (39, eL (AV.int .i64) a), (40, .int .i64 (a.length : Int)), (41, .int .i64 x1), (48, eL (AV.int .i64) (sub' a 0 x1)), (49, .int .i64 ((sub' a 0 x1).length : Int)), (50, .int .i64 y.2)]) (fun y => stL S rg []) (n, 0) (canon (fc vr (fc vr (fc vr (fc vr (fc vr (fc vr (fc vr (fc vr (fc vr (fc vr (fn))))))))))) (sn)) h0 (fun y h => ?_)
    obtain ⟨n1, x2⟩ := y
    replace h := hI (n1, x2) h
    show Vc _ _ _ _ (envOf [(0, eL (AV.int .i64) a), (9, eL (AV.int .i64) at1), (10, .int .i64 n1), (12, .int .i64 (at' a x1)), (39, eL (AV.int .i64) a), (40, .int .i64 (a.length : Int)), (41, .int .i64 x1), (48, eL (AV.int .i64) (sub' a 0 x1)), (49, .int .i64 ((sub' a 0 x1).length : Int)), (50, .int .i64 x2)]) (stL S rg [])
    refine qZ (rZ (wZ rg (o_lss rfl rfl (nZ (qZ ?_)))))
    refine Vc.cond' rfl (fun hb4 => ?_) (fun hb4 => ?_)
    · replace h := h.1 hb4
      refine Vc.skip' ?_
      refine qZ ?_
      refine Vc.blk ?_
      refine qZ (rZ (wZ rg (o_idxL td25 sz3 (by decide) (fun _ => rfl) rfl rfl h.1 ?_)))
      replace h := h.2
      refine wZ rg (o_loadI1 sz3 ag3 rfl rfl (v := .int .i64 (at' (sub' a 0 x1) x2)) rfl (asZ (.int .i64 (at' (sub' a 0 x1) x2)) rfl (nZ (qZ ?_))))
      have hg := h.1
      replace h := h.2
      have hg1 := h.1
      replace h := h.2
      refine Vc.drawn' mixed rg (fun _ => jcr2) (by kernel_rfl) ?_
      refine dP rfl rfl (o_move (v := eL (AV.int .i64) at1) rfl (dP rfl rfl (o_move (v := .int .i64 (at' (sub' a 0 x1) x2)) rfl (dP rfl rfl (o_idxL td25 sz3 (by decide) (fun _ => rfl) rfl rfl hg (dP rfl rfl (o_loadI1 sz3 ag3 rfl rfl (v := .int .i64 (at' at1 (at' (sub' a 0 x1) x2))) rfl (dP rfl rfl (o_move (v := eL (AV.int .i64) at1) rfl (dP rfl rfl (o_move (v := .int .i64 (at' a x1)) rfl ?_)))))))))))
      refine dP rfl rfl (o_idxL td25 sz3 (by decide) (fun _ => rfl) rfl rfl hg1 (dP rfl rfl (o_loadI1 sz3 ag3 rfl rfl (v := .int .i64 (at' at1 (at' a x1))) rfl (dP rfl rfl (o_gtr rfl rfl (dN ?_))))))
      refine Vc.cond' rfl (fun hb5 => ?_) (fun hb5 => ?_)
      · replace h := h.1 hb5
        refine rZ ?_
        refine mvZ (.int .i64 n1) rfl (wZ rg (o_addG rfl rfl h.1 ?_))
        replace h := h.2
        refine asZ (.int .i64 (n1 + 1)) rfl (nZ (rZ (wZ rg (o_addG rfl rfl h.1 ?_))))
        replace h := h.2
        refine mvZ (.int .i64 (x2 + 1)) rfl (nZ ?_)
        exact ⟨((n1 + 1), (x2 + 1)), (canon (fc vr (fc vr (fc vr (fc vr (fc vr (fc vr (fc vr (fc vr (fc vr (fc vr (fn))))))))))) (sn)), h⟩
      replace h := h.2 hb5
      refine Vc.skip' ?_
      refine rZ ?_
      refine wZ rg (o_addG rfl rfl h.1 ?_)
      replace h := h.2
      refine mvZ (.int .i64 (x2 + 1)) rfl (nZ ?_)
      exact ⟨(n1, (x2 + 1)), (canon (fc vr (fc vr (fc vr (fc vr (fc vr (fc vr (fc vr (fc vr (fc vr (fc vr (fn))))))))))) (sn)), h⟩
    replace h := h.2 hb4
    refine Vc.exit' (exB_self ?_)
    refine rZ ?_
    refine wZ rg (o_addG rfl rfl h.1 ?_)
    replace h := h.2
    refine mvZ (.int .i64 (x1 + 1)) rfl (nZ ?_)
    exact ⟨(n1, (x1 + 1)), (canon (fc vr (fc vr (fc vr (fc vr (fc vr (fc vr (fn))))))) (sn)), h⟩
  replace h := h.2 hb3
  refine Vc.exit' (exB_self ?_)
  refine qZ (rZ (mvZ (.int .i64 n) rfl (asZ (.int .i64 n) rfl (asZ .niface rfl (nZ ?_)))))
  refine Vc.ret' ?_
  refine res_tmp (v := .int .i64 n) rfl (res_tmp (v := .niface) rfl (res_nil ?_))
  show Gives _ (.tuple [.int .i64 n, .niface]) _
  exact gives_out hrg (VW.tupL (vl' vr (vl' vr (vn)))) (hQ _ _ h)
theorem order_walk__visit__e2_ctr {fu : Nat} : ∀ {arg : Int} {Formula : Int} {w : List GNode} {w1 : Int} {events : List Int} {seen : List Bool} {q0 k0 g0 q1 k1 g1 q2 k2 g2 : Nat} (_hdk : DK [(q0, k0), (q1, k1), (q2, k2)]) {Q : List Int → List Bool → Prop} {S : St} {R : AV → St → Prop} (_h : order_walk__visit__e2_W fu arg Formula w w1 events seen Q) (_hQ : ∀ r1 r2, ∀ h1, Q r1 r2 → R (.tuple []) (stX S [(q0, k0, .arr 5 [.agg [.int .i64 Formula, eL eNode w, .int .i64 w1, .sl 1 q1 k1 h1 0 r1.length, .sl 1 q2 k2 g2 0 r2.length]], g0), (q1, k1, .arr 1 (List.map (AV.int .i64) r1), h1), (q2, k2, .arr 1 (List.map AV.bool r2), g2)])),
    Ctr Try.prog 141 [.ptr q0 k0 g0 0 0, AV.int .i64 arg] (stX S [(q0, k0, .arr 5 [.agg [.int .i64 Formula, eL eNode w, .int .i64 w1, .sl 1 q1 k1 g1 0 events.length, .sl 1 q2 k2 g2 0 seen.length]], g0), (q1, k1, .arr 1 (List.map (AV.int .i64) events), g1), (q2, k2, .arr 1 (List.map AV.bool seen), g2)]) R := by
  induction fu with
  | zero =>
    intro arg Formula w w1 events seen q0 k0 g0 q1 k1 g1 q2 k2 g2 hdk Q S R h hQ
    exact False.elim h
  | succ fu ih =>
  intro arg Formula w w1 events seen q0 k0 g0 q1 k1 g1 q2 k2 g2 hdk Q S R h hQ
  rw [order_walk__visit__e2_W] at h
  refine enterT Try.func141 rfl Try.ntmps141 Try.results141 (by kernel_rfl) (fun rg hrg => ?_)
  have hdx : DX [(q0, k0, .arr 5 [.agg [.int .i64 Formula, eL eNode w, .int .i64 w1, .sl 1 q1 k1 g1 0 events.length, .sl 1 q2 k2 g2 0 seen.length]], g0), (q1, k1, .arr 1 (List.map (AV.int .i64) events), g1), (q2, k2, .arr 1 (List.map AV.bool seen), g2)] := hdk
  have hfr := fun X' e => fresh_set (S := S) (rg := rg) (X := [(q0, k0, .arr 5 [.agg [.int .i64 Formula, eL eNode w, .int .i64 w1, .sl 1 q1 k1 g1 0 events.length, .sl 1 q2 k2 g2 0 seen.length]], g0), (q1, k1, .arr 1 (List.map (AV.int .i64) events), g1), (q2, k2, .arr 1 (List.map AV.bool seen), g2)]) (X' := X') e hrg
  have hne0 := fresh_ne hdx hrg 0 rfl
  have hne1 := fresh_ne hdx hrg 1 rfl
  have hne2 := fresh_ne hdx hrg 2 rfl
  refine qZ (qZ (rZ (mvZ (.ptr q0 k0 g0 0 0) rfl (wZ rg (o_nilP rfl (wZ rg (o_faP td168 rfl rfl (by rw [sz110]; decide) rfl (wZ rg (o_loadB1 (atX hne0 hdx 0 rfl) sz110 ag110 rfl rfl (v := .sl 1 q2 k2 g2 0 seen.length) rfl (mvZ (.int .i64 arg) rfl (wZ rg (o_idxR0 td110 sz4 (by decide) rfl rfl h.1 ?_))))))))))))
  have hi := h.1
  replace h := h.2
  refine wZ rg (o_loadR1 (atX hne2 hdx 2 rfl) sz4 ag4 rfl (lt_of hi (by first | rfl | omega | (simp only [go_sem] <;> omega))) rfl (v := .bool (at' seen arg)) rfl (nZ ?_))
  refine Vc.cond' rfl (fun hb => ?_) (fun hb => ?_)
  · replace h := h.1 hb
    refine Vc.ret' ?_
    refine res_nil ?_
    show Gives _ (.tuple []) _
    exact gives_out (hfr _ rfl) (VW.refl _) (hQ _ _ _ h)
  replace h := h.2 hb
  refine Vc.skip' ?_
  refine qZ (rZ (mvZ (.ptr q0 k0 g0 0 0) rfl (wZ rg (o_nilP rfl (wZ rg (o_faP td168 rfl rfl (by rw [sz110]; decide) rfl (wZ rg (o_loadB1 (atX hne0 hdx 0 rfl) sz110 ag110 rfl rfl (v := .sl 1 q2 k2 g2 0 seen.length) rfl (mvZ (.int .i64 arg) rfl (wZ rg (o_idxR0 td110 sz4 (by decide) rfl rfl h.1 ?_)))))))))))
  have hi1 := h.1
  replace h := h.2
  refine wZ rg (o_storeR1 (atX hne2 hdx 2 rfl) sz4 (by decide) (x' := true) (fun _ => rfl) rfl rfl (lt_of hi1 (by first | rfl | omega | (simp only [go_sem] <;> omega))) rfl rfl (setX hne2 hdx 2 rfl rfl) (nZ (qZ (qZ (rZ (mvZ (.int .i64 arg) rfl (mvZ (.ptr q0 k0 g0 0 0) rfl (wZ rg (o_nilP rfl (wZ rg (o_faP td168 rfl rfl (by rw [sz24]; decide) rfl ?_)))))))))))
  refine wZ rg (o_faP td24 rfl rfl (by rw [sz3]; decide) rfl (wZ rg (o_loadB1 (atX hne0 hdx 0 rfl) sz3 ag3 rfl rfl (v := .int .i64 Formula) rfl (wZ rg (o_lss rfl rfl (nZ ?_))))))
  refine Vc.cond' rfl (fun hb1 => ?_) (fun hb1 => ?_)
  · replace h := h.1 hb1
    refine qZ (rZ (mvZ (.ptr q0 k0 g0 0 0) rfl (mvZ (.ptr q0 k0 g0 0 0) rfl (wZ rg (o_nilP rfl (wZ rg (o_faP td168 rfl rfl (by rw [sz25]; decide) rfl (wZ rg (o_loadB1 (atX hne0 hdx 0 rfl) sz25 ag25 rfl rfl (v := .sl 1 q1 k1 g1 0 events.length) rfl (mvZ (.int .i64 arg) rfl (wZ rg (o_bslice td25 ok3 zav3 (es := [.int .i64 arg]) rfl (kk := 1) rfl rfl rfl rfl rfl rfl (fun g3 => ?_)))))))))))))
    refine wZ rg (o_appR td25 bts3 ok3 zav3 (es := events) (xs := [arg]) (enc := AV.int .i64) (atX hne1 hdx 1 rfl) (by first | rfl | omega | (simp only [go_sem] <;> omega)) (view_rowE (atL (k := 32) rfl) (by first | rfl | omega | (simp only [go_sem] <;> omega))) (kk := 1) rfl rfl (fun _ => rfl) (fun _ => rfl) h.1 rfl (fun _ => (setX hne1 hdx 1 rfl rfl)) (fun g4 => ?_))
    replace h := h.2
    refine wZ rg (o_nilP rfl (wZ rg (o_faP td168 rfl rfl (by rw [sz25]; decide) rfl (wZ rg (o_storeB (atX hne0 hdx 0 rfl) sz25 (by decide) rfl (w := .sl 1 q1 k1 g4 0 ((events ++ [arg]).length)) rfl rfl rfl (v := .agg [.int .i64 Formula, eL eNode w, .int .i64 w1, .sl 1 q1 k1 g4 0 ((events ++ [arg]).length), .sl 1 q2 k2 g2 0 seen.length]) rfl (setX hne0 hdx 0 rfl rfl) (nZ ?_))))))
    refine Vc.ret' ?_
    refine res_nil ?_
    show Gives _ (.tuple []) _
    refine gives_owX hne0 hdx 0 rfl (o' := .arr 5 [.agg [.int .i64 Formula, eL eNode w, .int .i64 w1, .sl 1 q1 k1 g4 0 ((events ++ [arg]).length), .sl 1 q2 k2 g2 0 ((set' seen arg true).length)]]) rfl (OW.one (VWL.vwc (vl' vr (vl' vr (vl' vr (vl' vr (vl' (VW.slen (by first | rfl | omega | (simp only [go_sem] <;> omega))) (vn)))))))) ?_
    exact gives_out (hfr _ rfl) (VW.refl _) (hQ _ _ _ h)
  replace h := h.2 hb1
  refine Vc.skip' ?_
  refine qZ ?_
  have hg := h.1
  replace h := h.2
  have hg1 := h.1
  replace h := h.2
  refine Vc.drawn' mixed rg (fun _ => jcr2) (by kernel_rfl) ?_
  refine dP rfl rfl (o_move (v := .ptr q0 k0 g0 0 0) rfl (dP rfl rfl (o_nilP rfl (dP rfl rfl (o_faP td168 rfl rfl (by rw [sz24]; decide) rfl (dP rfl rfl (o_faP td24 rfl rfl (by rw [sz22]; decide) rfl (dL (E := ([(q0, k0)], [])) rfl rfl (by simp) (cfn) (o_loadB1 (atX hne0 hdx 0 rfl) sz22 ag22 rfl rfl (v := eL eNode w) rfl (dP rfl rfl (o_move (v := .int .i64 arg) rfl ?_)))))))))))
  refine dP rfl rfl (o_move (v := .ptr q0 k0 g0 0 0) rfl (dP rfl rfl (o_nilP rfl (dP rfl rfl (o_faP td168 rfl rfl (by rw [sz24]; decide) rfl (dP rfl rfl (o_faP td24 rfl rfl (by rw [sz3]; decide) rfl (dL (E := ([(q0, k0)], [])) rfl rfl (by simp) (cfa (by simp [apartE]) (cfn)) (o_loadB1 (atX hne0 hdx 0 rfl) sz3 ag3 rfl rfl (v := .int .i64 Formula) rfl (dP rfl rfl (o_subG rfl rfl hg ?_)))))))))))
  refine dP rfl rfl (o_idxL td22 sz105 (by decide) (fun _ => rfl) rfl rfl hg1 (dP rfl rfl (o_fa td105 rfl rfl (by rw [sz25]; decide) rfl rfl (dP rfl rfl (o_loadI1 sz25 ag25 rfl rfl (v := eL (AV.int .i64) ((at' w (arg - Formula)).Args)) rfl (dP rfl rfl (o_len td25 rfl (dP rfl rfl (o_move (v := .int .i64 0) rfl (dN ?_))))))))))
  refine Vc.blk ?_
  obtain ⟨I, μ, h0, hI⟩ := h
  refine Vc.loop' (σ := ((Int × (List Int) × (List Bool)) × (Nat))) (fun y => I y.1) (fun y => μ y.1) (fun y => envOf [(0, .ptr q0 k0 g0 0 0), (50, eL (AV.int .i64) ((at' w (arg - Formula)).Args)), (51, .int .i64 (((at' w (arg - Formula)).Args).length : Int)), (52, .int .i64 y.1.1)]) (fun y => stL (stX S [(q0, k0, .arr 5 [.agg [.int .i64 Formula, eL eNode w, .int .i64 w1, .sl 1 q1 k1 y.2 0 y.1.2.1.length, .sl 1 q2 k2 g2 0 y.1.2.2.length]], g0), (q1, k1, .arr 1 (List.map (AV.int .i64) y.1.2.1), y.2), (q2, k2, .arr 1 (List.map AV.bool y.1.2.2), g2)]) rg []) ((0, events, (set' seen arg true)), g1) (EWk.trans (EWk.owX hne0 hdx 0 rfl (o' := .arr 5 [.agg [.int .i64 Formula, eL eNode w, .int .i64 w1, .sl 1 q1 k1 g1 0 events.length, .sl 1 q2 k2 g2 0 ((set' seen arg true).length)]]) rfl (OW.one (VWL.vwc (vl' vr (vl' vr (vl' vr (vl' vr (vl' (VW.slen (by first | rfl | omega | (simp only [go_sem] <;> omega))) (vn))))))))) (canon (fc vr (fc vr (fc vr (fc vr (fn))))) (sn))) h0 (fun y h => ?_)
  obtain ⟨⟨x, x1, x2⟩, g5⟩ := y
  replace h := hI (x, x1, x2) h
  show Vc _ _ _ _ (envOf [(0, .ptr q0 k0 g0 0 0), (50, eL (AV.int .i64) ((at' w (arg - Formula)).Args)), (51, .int .i64 (((at' w (arg - Formula)).Args).length : Int)), (52, .int .i64 x)]) (stL (stX S [(q0, k0, .arr 5 [.agg [.int .i64 Formula, eL eNode w, .int .i64 w1, .sl 1 q1 k1 g5 0 x1.length, .sl 1 q2 k2 g2 0 x2.length]], g0), (q1, k1, .arr 1 (List.map (AV.int .i64) x1), g5), (q2, k2, .arr 1 (List.map AV.bool x2), g2)]) rg [])
  refine qZ (rZ (wZ rg (o_lss rfl rfl (nZ (qZ ?_)))))
  refine Vc.cond' rfl (fun hb2 => ?_) (fun hb2 => ?_)
  · replace h := h.1 hb2
    refine Vc.skip' ?_
    refine qZ ?_
    refine Vc.blk ?_
    refine qZ (rZ (wZ rg (o_idxL td25 sz3 (by decide) (fun _ => rfl) rfl rfl h.1 ?_)))
    replace h := h.2
    refine wZ rg (o_loadI1 sz3 ag3 rfl rfl (v := .int .i64 (at' ((at' w (arg - Formula)).Args) x)) rfl (asZ (.int .i64 (at' ((at' w (arg - Formula)).Args) x)) rfl (nZ (rZ (mvZ (.ptr q0 k0 g0 0 0) rfl (mvZ (.int .i64 (at' ((at' w (arg - Formula)).Args) x)) rfl ?_))))))
    refine wZ rg (o_call (us := [.ptr q0 k0 g0 0 0, AV.int .i64 (at' ((at' w (arg - Formula)).Args) x)]) rfl (vl' vr (vl' vr (vn))) (ctrX (sx_c (atX hne0 hdx 0 rfl) (sx_c (atX hne1 hdx 1 rfl) (sx_c (atX hne2 hdx 2 rfl) (sx_n)))) (ih (dk_c (ni_c (dk_at 0 1 hdk rfl rfl rfl) (ni_c (dk_at 0 2 hdk rfl rfl rfl) (ni_n))) (dk_c (ni_c (dk_at 1 2 hdk rfl rfl rfl) (ni_n)) (dk_c (ni_n) (dk_n)))) h fun u u1 g6 h => ?_)))
    refine Wl.eqS (sy_c (sy_c (sy_c (sx_n) (setX hne2 hdx 2 rfl rfl)) (setX hne1 hdx 1 rfl rfl)) (setX hne0 hdx 0 rfl rfl)) ?_
    have hl := h.1
    replace h := h.2
    refine nZ (rZ (wZ rg (o_addG rfl rfl h.1 ?_)))
    replace h := h.2
    refine mvZ (.int .i64 (x + 1)) rfl (nZ ?_)
    exact ⟨(((x + 1), u, u1), g6), (canon (fc vr (fc vr (fc vr (fc vr (fn))))) (sn)), h⟩
  replace h := h.2 hb2
  refine Vc.exit' (exB_self ?_)
  refine res_nil ?_
  show Gives _ (.tuple []) _
  exact gives_out (hfr _ rfl) (VW.refl _) (hQ _ _ _ h)
theorem order_depth_ctr {f : GFormula} {Q : List Int → List Bool → Prop} {S : St} {R : AV → St → Prop} (h : order_depth_W f Q) (hQ : ∀ r1 r2, Q r1 r2 → R (.tuple [eL (AV.int .i64) r1, eL AV.bool r2]) S) :
    Ctr Try.prog 108 [eFormula f] S R := by
  unfold order_depth_W at h
  refine enterT Try.func108 rfl Try.ntmps108 Try.results108 (by kernel_rfl) (fun rg hrg => ?_)
  refine qZ (rZ (wZ rg (o_box (v := eFormula f) rfl rfl (kk := 3) rfl (by decide) (fun g1 => (asZ .nil rfl (asZ .nil rfl (nZ (qZ ?_))))))))
  have hg := h.1
  replace h := h.2
  have hg1 := h.1
  replace h := h.2
  refine Vc.drawn' mixed rg (fun _ => jcr2) (by kernel_rfl) ?_
  refine dL (E := ([(rg, 1)], [])) rfl rfl (by simp) (cfn) (o_loadBA (atL (k := 1) rfl) sz24 (by decide) ag24 rfl rfl (v := eFormula f) rfl (dP rfl rfl (o_faP td24 rfl rfl (by rw [sz3]; decide) rfl (dL (E := ([(rg, 1)], [])) rfl rfl (by simp) (cfa (by simp [apartE]) (cfn)) (o_loadB1 (atL (k := 1) rfl) sz3 ag3 rfl rfl (v := .int .i64 f.Vars) rfl ?_)))))
  refine dP rfl rfl (o_faP td24 rfl rfl (by rw [sz22]; decide) rfl (dL (E := ([(rg, 1)], [])) rfl rfl (by simp) (cfa (by simp [apartE]) (cfa (by simp [apartE]) (cfn))) (o_loadB1 (atL (k := 1) rfl) sz22 ag22 rfl rfl (v := eL eNode f.Nodes) rfl (dP rfl rfl (o_len td22 rfl (dP rfl rfl (o_addG rfl rfl hg ?_)))))))
  refine dL (E := ([], [(rg, 13)])) rfl rfl (by simp) (cfo (by kernel_rfl) (cfo (by kernel_rfl) (cfa (by simp [apartE]) (cfn)))) (o_make td110 bts4 ok4 (enc := AV.bool) (z' := false) zav4 (kk := 1) rfl rfl rfl hg1 (fun g2 => ?_))
  refine dP rfl rfl (o_build td168 zav168 bok168 szs168 sz168 (ps := [(0, eFormula f), (2, .sl 1 rg 13 g2 0 (Int.toNat (f.Vars + (f.Nodes.length : Int))))]) rfl rfl (v := .agg [.int .i64 f.Vars, eL eNode f.Nodes, .int .i64 f.Top, .nil, .sl 1 rg 13 g2 0 (Int.toNat (f.Vars + (f.Nodes.length : Int)))]) rfl ?_)
  refine dL (E := ([], [(rg, 15)])) rfl rfl (by simp) (cfo (by kernel_rfl) (cfo (by kernel_rfl) (cfo (by kernel_rfl) (cfo (by kernel_rfl) (cfn))))) (o_box (v := .agg [.int .i64 f.Vars, eL eNode f.Nodes, .int .i64 f.Top, .nil, .sl 1 rg 13 g2 0 (Int.toNat (f.Vars + (f.Nodes.length : Int)))]) rfl rfl (kk := 5) rfl (by decide) (fun g3 => (dP rfl rfl (o_assign (v := .ptr rg 15 g3 0 0) rfl (dN (qZ (rZ ?_)))))))
  refine mvZ (.ptr rg 15 g3 0 0) rfl (wZ rg (o_faP td24 rfl rfl (by rw [sz3]; decide) rfl (wZ rg (o_loadB1 (atL (k := 1) rfl) sz3 ag3 rfl rfl (v := .int .i64 f.Top) rfl ?_))))
  refine Wl.matB 15 3 16003 1 (b := fun g4 => .agg [.int .i64 f.Vars, eL eNode f.Nodes, .int .i64 f.Top, .sl 1 rg 16003 g4 0 (([] : List Int).length), .sl 1 rg 13 g2 0 (Int.toNat (f.Vars + (f.Nodes.length : Int)))]) rfl rfl (by decide) (by decide) rfl (fun g4 => ?_)
  refine Wl.wk (EWk.ow (k := 15) (o' := .arr 5 [.agg [.int .i64 f.Vars, eL eNode f.Nodes, .int .i64 f.Top, .sl 1 rg 16003 g4 0 (([] : List Int).length), .sl 1 rg 13 g2 0 ((rep' (f.Vars + (f.Nodes.length : Int)) false).length)]]) rfl (OW.one (VWL.vwc (vl' vr (vl' vr (vl' vr (vl' vr (vl' (VW.slen (by first | rfl | omega | (simp only [go_sem] <;> omega))) (vn))))))))) ?_
  obtain ⟨_, h⟩ := h
  refine wZ rg (o_call (us := [.ptr rg 15 g3 0 0, AV.int .i64 f.Top]) rfl (vl' vr (vl' vr (vn))) (ctrX (sx_c (atL (k := 15) rfl) (sx_c (atL (k := 16003) rfl) (sx_c (atL (k := 13) rfl) (sx_n)))) (order_walk__visit__e2_ctr (dk_c (ni_c (ni_o rfl) (ni_c (ni_o rfl) (ni_n))) (dk_c (ni_c (ni_o rfl) (ni_n)) (dk_c (ni_n) (dk_n)))) h fun u u1 g5 h => ?_)))
  refine Wl.eqS (sy_c (sy_c (sy_c (sx_n) setL) setL) setL) ?_
  have hl := h.1
  replace h := h.2
  refine nZ (qZ (qZ (rZ (wZ rg (o_faP td24 rfl rfl (by rw [sz3]; decide) rfl (wZ rg (o_loadB1 (atL (k := 1) rfl) sz3 ag3 rfl rfl (v := .int .i64 f.Vars) rfl (mvZ (.int .i64 0) rfl (nZ ?_)))))))))
  refine Vc.blk ?_
  obtain ⟨I, μ, h0, hI⟩ := h
  refine Vc.loop' (σ := ((Int × (List Int)) × (Nat))) (fun y => I y.1) (fun y => μ y.1) (fun y => envOf [(4, .ptr rg 15 g3 0 0), (21, .int .i64 f.Vars), (22, .int .i64 y.1.1)]) (fun y => stL S rg [(13, .arr 1 (List.map AV.bool u1), g2), (15, .arr 5 [.agg [.int .i64 f.Vars, eL eNode f.Nodes, .int .i64 f.Top, .sl 1 rg 16003 y.2 0 y.1.2.length, .sl 1 rg 13 g2 0 u1.length]], g3), (16003, .arr 1 (List.map (AV.int .i64) y.1.2), y.2)]) ((0, u), g5) (canon (fc vr (fc vr (fc vr (fn)))) (sc rfl (sc rfl (sc rfl (sn))))) h0 (fun y h => ?_)
  obtain ⟨⟨x, x1⟩, g6⟩ := y
  replace h := hI (x, x1) h
  show Vc _ _ _ _ (envOf [(4, .ptr rg 15 g3 0 0), (21, .int .i64 f.Vars), (22, .int .i64 x)]) (stL S rg [(13, .arr 1 (List.map AV.bool u1), g2), (15, .arr 5 [.agg [.int .i64 f.Vars, eL eNode f.Nodes, .int .i64 f.Top, .sl 1 rg 16003 g6 0 x1.length, .sl 1 rg 13 g2 0 u1.length]], g3), (16003, .arr 1 (List.map (AV.int .i64) x1), g6)])
  refine qZ (rZ (wZ rg (o_lss rfl rfl (nZ (qZ ?_)))))
  refine Vc.cond' rfl (fun hb => ?_) (fun hb => ?_)
  · replace h := h.1 hb
    refine Vc.skip' ?_
    refine qZ ?_
    refine Vc.blk ?_
    refine qZ (rZ (mvZ (.int .i64 x) rfl (asZ (.int .i64 x) rfl (nZ (qZ (rZ (mvZ (.ptr rg 15 g3 0 0) rfl (wZ rg (o_nilP rfl (wZ rg (o_faP td168 rfl rfl (by rw [sz110]; decide) rfl (wZ rg (o_loadB1 (atL (k := 15) rfl) sz110 ag110 rfl rfl (v := .sl 1 rg 13 g2 0 u1.length) rfl (mvZ (.int .i64 x) rfl (wZ rg (o_idxR0 td110 sz4 (by decide) rfl rfl h.1 ?_))))))))))))))))
    have hi := h.1
    replace h := h.2
    refine wZ rg (o_loadR1 (atL (k := 13) rfl) sz4 ag4 rfl (lt_of hi (by first | rfl | omega | (simp only [go_sem] <;> omega))) rfl (v := .bool (at' u1 x)) rfl (wZ rg (o_not rfl (nZ ?_))))
    refine Vc.cond' rfl (fun hb1 => ?_) (fun hb1 => ?_)
    · replace h := h.1 hb1
      refine rZ ?_
      refine mvZ (.ptr rg 15 g3 0 0) rfl (mvZ (.ptr rg 15 g3 0 0) rfl (wZ rg (o_nilP rfl (wZ rg (o_faP td168 rfl rfl (by rw [sz25]; decide) rfl (wZ rg (o_loadB1 (atL (k := 15) rfl) sz25 ag25 rfl rfl (v := .sl 1 rg 16003 g6 0 x1.length) rfl (mvZ (.int .i64 x) rfl (wZ rg (o_bslice td25 ok3 zav3 (es := [.int .i64 x]) rfl (kk := 1) rfl rfl rfl rfl rfl rfl (fun g7 => ?_)))))))))))
      refine wZ rg (o_appR td25 bts3 ok3 zav3 (es := x1) (xs := [x]) (enc := AV.int .i64) (atL (k := 16003) rfl) (by first | rfl | omega | (simp only [go_sem] <;> omega)) (view_rowE (atL (k := 39) rfl) (by first | rfl | omega | (simp only [go_sem] <;> omega))) (kk := 1) rfl rfl (fun _ => rfl) (fun _ => rfl) h.1 rfl (fun _ => setL) (fun g8 => ?_))
      replace h := h.2
      refine wZ rg (o_nilP rfl (wZ rg (o_faP td168 rfl rfl (by rw [sz25]; decide) rfl (wZ rg (o_storeB (atL (k := 15) rfl) sz25 (by decide) rfl (w := .sl 1 rg 16003 g8 0 ((x1 ++ [x]).length)) rfl rfl rfl (v := .agg [.int .i64 f.Vars, eL eNode f.Nodes, .int .i64 f.Top, .sl 1 rg 16003 g8 0 ((x1 ++ [x]).length), .sl 1 rg 13 g2 0 u1.length]) rfl setL (nZ (rZ (wZ rg (o_addG rfl rfl h.1 ?_)))))))))
      replace h := h.2
      refine mvZ (.int .i64 (x + 1)) rfl (nZ ?_)
      exact ⟨(((x + 1), (x1 ++ [x])), g8), (canon (fc vr (fc vr (fc vr (fn)))) (sc rfl (sc rfl (sc rfl (sn))))), h⟩
    replace h := h.2 hb1
    refine Vc.skip' ?_
    refine rZ ?_
    refine wZ rg (o_addG rfl rfl h.1 ?_)
    replace h := h.2
    refine mvZ (.int .i64 (x + 1)) rfl (nZ ?_)
    exact ⟨(((x + 1), x1), g6), (canon (fc vr (fc vr (fc vr (fn)))) (sc rfl (sc rfl (sc rfl (sn))))), h⟩
  replace h := h.2 hb
  refine Vc.exit' (exB_self ?_)
  refine qZ ?_
  refine Vc.drawn' mixed rg (fun _ => jcr2) (by kernel_rfl) ?_
  refine dP rfl rfl (o_move (v := .ptr rg 15 g3 0 0) rfl (dP rfl rfl (o_nilP rfl (dP rfl rfl (o_faP td168 rfl rfl (by rw [sz25]; decide) rfl (dL (E := ([(rg, 15)], [])) rfl rfl (by simp) (cfn) (o_loadB1 (atL (k := 15) rfl) sz25 ag25 rfl rfl (v := .sl 1 rg 16003 g6 0 x1.length) rfl (dP rfl rfl (o_move (v := .ptr rg 15 g3 0 0) rfl (dP rfl rfl (o_nilP rfl ?_)))))))))))
  refine dP rfl rfl (o_faP td168 rfl rfl (by rw [sz110]; decide) rfl (dL (E := ([(rg, 15)], [])) rfl rfl (by simp) (cfa (by simp [apartE]) (cfn)) (o_loadB1 (atL (k := 15) rfl) sz110 ag110 rfl rfl (v := .sl 1 rg 13 g2 0 u1.length) rfl (dP rfl rfl (o_assign (v := .sl 1 rg 16003 g6 0 x1.length) rfl (dP rfl rfl (o_assign (v := .sl 1 rg 13 g2 0 u1.length) rfl (dN ?_))))))))
  refine Vc.ret' ?_
  refine res_tmp (v := .sl 1 rg 16003 g6 0 x1.length) rfl (res_tmp (v := .sl 1 rg 13 g2 0 u1.length) rfl (res_nil ?_))
  show Gives _ (.tuple [.sl 1 rg 16003 g6 0 x1.length, .sl 1 rg 13 g2 0 u1.length]) _
  refine gives_freeze (k := 13) (xs := List.map AV.bool u1) rfl (v' := .tuple [.sl 1 rg 16003 g6 0 x1.length, eL AV.bool u1]) (VW.tupL (vl' (frz_ne rfl) (vl' (frz_full rfl) (vn)))) ?_
  refine gives_freeze (k := 16003) (xs := List.map (AV.int .i64) x1) rfl (v' := .tuple [eL (AV.int .i64) x1, eL AV.bool u1]) (VW.tupL (vl' (frz_full rfl) (vl' vr (vn)))) ?_
  exact gives_out hrg (VW.tupL (vl' vr (vl' vr (vn)))) (hQ _ _ h)
theorem order_Depth_ctr {f : GFormula} {Q : List Int → Option Int → Prop} {S : St} {R : AV → St → Prop} (h : order_Depth_W f Q) (hQ : ∀ r1 r2, Q r1 r2 → R (.tuple [eL (AV.int .i64) r1, eErr 73 r2]) S) :
    Ctr Try.prog 67 [eFormula f] S R := by
  unfold order_Depth_W at h
  refine enterT Try.func67 rfl Try.ntmps67 Try.results67 (by kernel_rfl) (fun rg hrg => ?_)
  refine qZ (rZ (wZ rg (o_box (v := eFormula f) rfl rfl (kk := 3) rfl (by decide) (fun g1 => (asZ .nil rfl (asZ .niface rfl (nZ (qZ (qZ (rZ (wZ rg (o_loadBA (atL (k := 1) rfl) sz24 (by decide) ag24 rfl rfl (v := eFormula f) rfl (wZ rg (o_call (us := [eFormula f]) rfl (vl' vr (vn)) (formula_Check_ctr h fun err h => (asZ (eErr 73 err) rfl (nZ (qZ (rZ (mvZ (eErr 73 err) rfl ?_))))))))))))))))))))
  refine wZ rg (o_isnon td32 (E := 73) rfl rfl rfl (nZ ?_))
  refine Vc.cond' rfl (fun hb => ?_) (fun hb => ?_)
  · replace h := h.1 hb
    refine qZ (rZ (mvZ (eErr 73 err) rfl (asZ .nil rfl (asZ (eErr 73 err) rfl (nZ ?_)))))
    refine Vc.ret' ?_
    refine res_tmp (v := .nil) rfl (res_tmp (v := eErr 73 err) rfl (res_nil ?_))
    show Gives _ (.tuple [.nil, eErr 73 err]) _
    exact gives_out hrg (VW.tupL (vl' (VW.nilL) (vl' vr (vn)))) (hQ _ _ h)
  replace h := h.2 hb
  refine Vc.skip' ?_
  refine qZ (rZ (wZ rg (o_loadBA (atL (k := 1) rfl) sz24 (by decide) ag24 rfl rfl (v := eFormula f) rfl (wZ rg (o_call (us := [eFormula f]) rfl (vl' vr (vn)) (order_depth_ctr h fun r r1 h => (mvZ (.tuple [eL (AV.int .i64) r, eL AV.bool r1]) rfl (wZ rg (o_extract (v := eL (AV.int .i64) r) rfl rfl rfl (wZ rg (o_extract (v := eL AV.bool r1) rfl rfl rfl (asZ (eL (AV.int .i64) r) rfl ?_))))))))))))
  refine asZ (eL AV.bool r1) rfl (nZ (qZ (rZ (mvZ (eL (AV.int .i64) r) rfl (asZ (eL (AV.int .i64) r) rfl (asZ .niface rfl (nZ ?_)))))))
  refine Vc.ret' ?_
  refine res_tmp (v := eL (AV.int .i64) r) rfl (res_tmp (v := .niface) rfl (res_nil ?_))
  show Gives _ (.tuple [eL (AV.int .i64) r, .niface]) _
  exact gives_out hrg (VW.tupL (vl' vr (vl' vr (vn)))) (hQ _ _ h)
theorem order_Weighted_1__e_ctr {a : Int} {b : Int} {u : List GRat} {q0 k0 g0 q1 k1 g1 : Nat} (hdk : DK [(q0, k0), (q1, k1)]) {Q : Int → Prop} {S : St} {R : AV → St → Prop} (h : order_Weighted_1__e_W a b u Q) (hQ : ∀ r1, Q r1 → R (AV.int .i64 r1) (stX S [(q0, k0, .arr 1 [.sl 3 q1 k1 g1 0 u.length], g0), (q1, k1, .arr 3 (List.map eRat u), g1)])) :
    Ctr Try.prog 114 [AV.int .i64 a, AV.int .i64 b, .ptr q0 k0 g0 0 0] (stX S [(q0, k0, .arr 1 [.sl 3 q1 k1 g1 0 u.length], g0), (q1, k1, .arr 3 (List.map eRat u), g1)]) R := by
  unfold order_Weighted_1__e_W at h
  refine enterT Try.func114 rfl Try.ntmps114 Try.results114 (by kernel_rfl) (fun rg hrg => ?_)
  have hdx : DX [(q0, k0, .arr 1 [.sl 3 q1 k1 g1 0 u.length], g0), (q1, k1, .arr 3 (List.map eRat u), g1)] := hdk
  have hfr := fun X' e => fresh_set (S := S) (rg := rg) (X := [(q0, k0, .arr 1 [.sl 3 q1 k1 g1 0 u.length], g0), (q1, k1, .arr 3 (List.map eRat u), g1)]) (X' := X') e hrg
  have hne0 := fresh_ne hdx hrg 0 rfl
  have hne1 := fresh_ne hdx hrg 1 rfl
  refine qZ (rZ (asZ (.int .i64 0) rfl (nZ (qZ ?_))))
  have hi := h.1
  replace h := h.2
  have hi1 := h.1
  replace h := h.2
  obtain ⟨r, hc, h⟩ := h
  refine Vc.drawn' mixed rg (usOf [(8, pc (.int .i64 r))]) (by kernel_rfl) ?_
  refine dL (E := ([(q0, k0)], [])) rfl rfl (by simp) (cfn) (o_loadB1 (atX hne0 hdx 0 rfl) sz137 ag137 rfl rfl (v := .sl 3 q1 k1 g1 0 u.length) rfl (dP rfl rfl (o_move (v := .int .i64 b) rfl (dP rfl rfl (o_idxR0 td137 sz140 (by decide) rfl rfl hi ?_)))))
  refine dL (E := ([(q1, k1)], [])) rfl rfl (by simp) (cfo (by kernel_rfl) (cfn)) (o_loadRA (atX hne1 hdx 1 rfl) sz140 (by decide) ag140 rfl (lt_of hi (by first | rfl | omega | (simp only [go_sem] <;> omega))) rfl (v := eRat (at' u b)) rfl ?_)
  refine dL (E := ([(q0, k0)], [])) rfl rfl (by simp) (cfa (by simp [apartE]) (cfa (by simp [apartE]) (cfn))) (o_loadB1 (atX hne0 hdx 0 rfl) sz137 ag137 rfl rfl (v := .sl 3 q1 k1 g1 0 u.length) rfl (dP rfl rfl (o_move (v := .int .i64 a) rfl (dP rfl rfl (o_idxR0 td137 sz140 (by decide) rfl rfl hi1 ?_)))))
  refine dL (E := ([(q1, k1)], [])) rfl rfl (by simp) (cfo (by kernel_rfl) (cfa (by simp [apartE]) (cfa (by simp [apartE]) (cfn)))) (o_loadRA (atX hne1 hdx 1 rfl) sz140 (by decide) ag140 rfl (lt_of hi1 (by first | rfl | omega | (simp only [go_sem] <;> omega))) rfl (v := eRat (at' u a)) rfl ?_)
  refine dC (vs := [eRat (at' u b), eRat (at' u a)]) rfl (vl' vr (vl' vr (vn))) (fun _ => rational_Cmp_ctr hc (fun _ hr => ⟨by rw [hr], rfl⟩)) rfl ?_
  refine dP rfl rfl (o_assign (v := .int .i64 r) rfl (dN ?_))
  refine Vc.ret' ?_
  refine res_tmp (v := .int .i64 r) rfl (res_nil ?_)
  show Gives _ (.int .i64 r) _
  exact gives_out (hfr _ rfl) (VW.refl _) (hQ _ h)
theorem slices_insertionSortCmpFunc_int__e2_ctr {a : Int} {b : Int} {data : List Int} {u : List GRat} {q0 k0 g0 q1 k1 g1 q2 k2 g2 : Nat} (hdk : DK [(q0, k0), (q1, k1), (q2, k2)]) {Q : List Int → Prop} {S : St} {R : AV → St → Prop} (h : slices_insertionSortCmpFunc_int__e2_W a b data u Q) (hQ : ∀ r1, Q r1 → R (.tuple []) (stX S [(q0, k0, .arr 1 (List.map (AV.int .i64) r1), g0), (q1, k1, .arr 1 [.sl 3 q2 k2 g2 0 u.length], g1), (q2, k2, .arr 3 (List.map eRat u), g2)])) :
    Ctr Try.prog 155 [.sl 1 q0 k0 g0 0 data.length, AV.int .i64 a, AV.int .i64 b, .fn (.func 114) [] [.ptr q1 k1 g1 0 0]] (stX S [(q0, k0, .arr 1 (List.map (AV.int .i64) data), g0), (q1, k1, .arr 1 [.sl 3 q2 k2 g2 0 u.length], g1), (q2, k2, .arr 3 (List.map eRat u), g2)]) R := by
  unfold slices_insertionSortCmpFunc_int__e2_W at h
  refine enterT Try.func155 rfl Try.ntmps155 Try.results155 (by kernel_rfl) (fun rg hrg => ?_)
  have hdx : DX [(q0, k0, .arr 1 (List.map (AV.int .i64) data), g0), (q1, k1, .arr 1 [.sl 3 q2 k2 g2 0 u.length], g1), (q2, k2, .arr 3 (List.map eRat u), g2)] := hdk
  have hfr := fun X' e => fresh_set (S := S) (rg := rg) (X := [(q0, k0, .arr 1 (List.map (AV.int .i64) data), g0), (q1, k1, .arr 1 [.sl 3 q2 k2 g2 0 u.length], g1), (q2, k2, .arr 3 (List.map eRat u), g2)]) (X' := X') e hrg
  have hne0 := fresh_ne hdx hrg 0 rfl
  have hne1 := fresh_ne hdx hrg 1 rfl
  have hne2 := fresh_ne hdx hrg 2 rfl
  refine qZ (rZ (mvZ (.int .i64 a) rfl (wZ rg (o_addG rfl rfl h.1 ?_))))
  replace h := h.2
  refine asZ (.int .i64 (a + 1)) rfl (nZ ?_)
  refine Vc.blk ?_
  obtain ⟨I, μ, h0, hI⟩ := h
  refine Vc.loop' (σ := (Int × (List Int))) (fun y => I y) (fun y => μ y) (fun y => envOf [(0, .sl 1 q0 k0 g0 0 y.2.length), (1, .int .i64 a), (2, .int .i64 b), (3, .fn (.func 114) [] [.ptr q1 k1 g1 0 0]), (8, .int .i64 y.1)]) (fun y => stL (stX S [(q0, k0, .arr 1 (List.map (AV.int .i64) y.2), g0), (q1, k1, .arr 1 [.sl 3 q2 k2 g2 0 u.length], g1), (q2, k2, .arr 3 (List.map eRat u), g2)]) rg []) ((a + 1), data) (canon (fc vr (fc vr (fc vr (fc vr (fc vr (fn)))))) (sn)) h0 (fun y h => ?_)
  obtain ⟨i, data1⟩ := y
  replace h := hI (i, data1) h
  show Vc _ _ _ _ (envOf [(0, .sl 1 q0 k0 g0 0 data1.length), (1, .int .i64 a), (2, .int .i64 b), (3, .fn (.func 114) [] [.ptr q1 k1 g1 0 0]), (8, .int .i64 i)]) (stL (stX S [(q0, k0, .arr 1 (List.map (AV.int .i64) data1), g0), (q1, k1, .arr 1 [.sl 3 q2 k2 g2 0 u.length], g1), (q2, k2, .arr 3 (List.map eRat u), g2)]) rg [])
  refine qZ (qZ (rZ (mvZ (.int .i64 i) rfl (mvZ (.int .i64 b) rfl (wZ rg (o_lss rfl rfl (nZ ?_)))))))
  refine Vc.cond' rfl (fun hb => ?_) (fun hb => ?_)
  · replace h := h.1 hb
    refine Vc.skip' ?_
    refine qZ ?_
    refine Vc.blk ?_
    refine qZ (rZ (mvZ (.int .i64 i) rfl (asZ (.int .i64 i) rfl (nZ ?_))))
    refine Vc.blk ?_
    obtain ⟨I, μ, h0, hI⟩ := h
    refine Vc.loop' (σ := (Int × (List Int))) (fun y => I y) (fun y => μ y) (fun y => envOf [(0, .sl 1 q0 k0 g0 0 y.2.length), (1, .int .i64 a), (2, .int .i64 b), (3, .fn (.func 114) [] [.ptr q1 k1 g1 0 0]), (8, .int .i64 i), (9, .int .i64 y.1)]) (fun y => stL (stX S [(q0, k0, .arr 1 (List.map (AV.int .i64) y.2), g0), (q1, k1, .arr 1 [.sl 3 q2 k2 g2 0 u.length], g1), (q2, k2, .arr 3 (List.map eRat u), g2)]) rg []) (i, data1) (canon (fc vr (fc vr (fc vr (fc vr (fc vr (fc vr (fn))))))) (sn)) h0 (fun y h => ?_)
    obtain ⟨j, data2⟩ := y
    replace h := hI (j, data2) h
    show Vc _ _ _ _ (envOf [(0, .sl 1 q0 k0 g0 0 data2.length), (1, .int .i64 a), (2, .int .i64 b), (3, .fn (.func 114) [] [.ptr q1 k1 g1 0 0]), (8, .int .i64 i), (9, .int .i64 j)]) (stL (stX S [(q0, k0, .arr 1 (List.map (AV.int .i64) data2), g0), (q1, k1, .arr 1 [.sl 3 q2 k2 g2 0 u.length], g1), (q2, k2, .arr 3 (List.map eRat u), g2)]) rg [])
    refine qZ (qZ ?_)
    rcases Bool.eq_false_or_eq_true (decide (a < j)) with hb1 | hb1
    · replace h := h.1 hb1
      have hi := h.1
      replace h := h.2
      have hg := h.1
      replace h := h.2
      have hi1 := h.1
      replace h := h.2
      obtain ⟨r, hc, h⟩ := h
      refine Vc.drawn' mixed rg (usOf [(14, wc (fun _ => .int .i64 r) [(q1, k1), (q2, k2)] [] (fun _ => []))]) (by kernel_rfl) ?_
      refine dP rfl rfl (o_move (v := .int .i64 j) rfl (dP rfl rfl (o_move (v := .int .i64 a) rfl (dP rfl rfl (o_gtr rfl rfl (dP rfl rfl (o_move (v := .bool (decide (a < j))) rfl ?_)))))))
      refine dGT rfl rfl hb1 ?_
      refine dP rfl rfl (o_move (v := .fn (.func 114) [] [.ptr q1 k1 g1 0 0]) rfl ?_)
      refine dGT rfl rfl rfl ?_
      refine dP rfl rfl (o_move (v := .sl 1 q0 k0 g0 0 data2.length) rfl ?_)
      refine dGT rfl rfl rfl ?_
      refine dP rfl rfl (o_move (v := .int .i64 j) rfl ?_)
      refine dGT rfl rfl rfl ?_
      refine dP rfl rfl (o_idxR0 td25 sz3 (by decide) rfl rfl hi ?_)
      refine dGT rfl rfl rfl ?_
      refine dL (E := ([(q0, k0)], [])) rfl rfl (by simp) (cfn) (o_loadR1 (atX hne0 hdx 0 rfl) sz3 ag3 rfl (lt_of hi (by first | rfl | omega | (simp only [go_sem] <;> omega))) rfl (v := .int .i64 (at' data2 j)) rfl ?_)
      refine dGT rfl rfl rfl ?_
      refine dP rfl rfl (o_move (v := .sl 1 q0 k0 g0 0 data2.length) rfl ?_)
      refine dGT rfl rfl rfl ?_
      refine dP rfl rfl (o_move (v := .int .i64 j) rfl ?_)
      refine dGT rfl rfl rfl ?_
      refine dP rfl rfl (o_subG rfl rfl hg ?_)
      refine dGT rfl rfl rfl ?_
      refine dP rfl rfl (o_idxR0 td25 sz3 (by decide) rfl rfl hi1 ?_)
      refine dGT rfl rfl rfl ?_
      refine dL (E := ([(q0, k0)], [])) rfl rfl (by simp) (cfa (by simp [apartE]) (cfn)) (o_loadR1 (atX hne0 hdx 0 rfl) sz3 ag3 rfl (lt_of hi1 (by first | rfl | omega | (simp only [go_sem] <;> omega))) rfl (v := .int .i64 (at' data2 (j - 1))) rfl ?_)
      refine dGT rfl rfl rfl ?_
      refine dCE (vs := [AV.int .i64 (at' data2 j), AV.int .i64 (at' data2 (j - 1)), .ptr q1 k1 g1 0 0]) (V := fun _ => .int .i64 r) (rd := [(q1, k1), (q2, k2)]) (wk := []) (wr := fun _ => []) rfl (vl' vr (vl' vr (vl' vr (vn)))) rfl (cfo (by kernel_rfl) (cfo (by kernel_rfl) (cfn))) (by simp) (fun _ => rfl) (fun S' hA hB => ctrX (sx_c (ag hA 0 rfl (atX hne1 hdx 1 rfl)) (sx_c (ag hA 1 rfl (atX hne2 hdx 2 rfl)) (sx_n))) (order_Weighted_1__e_ctr (dk_c (ni_c (dk_at 1 2 hdk rfl rfl rfl) (ni_n)) (dk_c (ni_n) (dk_n))) hc (fun _ he => by obtain rfl := he; exact ⟨fun i => ([] : List Nat).getD i 0, rfl, sx_c (ag hA 0 rfl (atX hne1 hdx 1 rfl)) (sx_c (ag hA 1 rfl (atX hne2 hdx 2 rfl)) (sx_n))⟩))) (fun _ => ?_)
      refine vdT.eqS (sa_n) ?_
      refine dGT rfl rfl rfl ?_
      refine dP rfl rfl (o_lss rfl rfl (dP rfl rfl (o_pickT rfl rfl (v := .bool (decide (r < 0))) rfl (dN ?_))))
      refine Vc.cond' rfl (fun hb2 => ?_) (fun hb2 => ?_)
      · replace h := h.1 hb2
        refine Vc.skip' ?_
        refine qZ ?_
        refine Vc.blk ?_
        have hg1 := h.1
        replace h := h.2
        have hg2 := h.1
        replace h := h.2
        have hi2 := h.1
        replace h := h.2
        have hi3 := h.1
        replace h := h.2
        have hi4 := h.1
        replace h := h.2
        have hi5 := h.1
        replace h := h.2
        refine Vc.drawn' mixed rg (fun _ => jcr2) (by kernel_rfl) ?_
        refine dP rfl rfl (o_move (v := .sl 1 q0 k0 g0 0 data2.length) rfl (dP rfl rfl (o_move (v := .int .i64 j) rfl (dP rfl rfl (o_move (v := .sl 1 q0 k0 g0 0 data2.length) rfl (dP rfl rfl (o_move (v := .int .i64 j) rfl (dP rfl rfl (o_subG rfl rfl hg1 (dP rfl rfl (o_move (v := .sl 1 q0 k0 g0 0 data2.length) rfl (dP rfl rfl (o_move (v := .int .i64 j) rfl (dP rfl rfl (o_subG rfl rfl hg2 ?_)))))))))))))))
        refine dP rfl rfl (o_idxR0 td25 sz3 (by decide) rfl rfl hi2 (dL (E := ([(q0, k0)], [])) rfl rfl (by simp) (cfn) (o_loadR1 (atX hne0 hdx 0 rfl) sz3 ag3 rfl (lt_of hi2 (by first | rfl | omega | (simp only [go_sem] <;> omega))) rfl (v := .int .i64 (at' data2 (j - 1))) rfl (dP rfl rfl (o_move (v := .sl 1 q0 k0 g0 0 data2.length) rfl (dP rfl rfl (o_move (v := .int .i64 j) rfl ?_)))))))
        refine dP rfl rfl (o_idxR0 td25 sz3 (by decide) rfl rfl hi3 (dL (E := ([(q0, k0)], [])) rfl rfl (by simp) (cfa (by simp [apartE]) (cfn)) (o_loadR1 (atX hne0 hdx 0 rfl) sz3 ag3 rfl (lt_of hi3 (by first | rfl | omega | (simp only [go_sem] <;> omega))) rfl (v := .int .i64 (at' data2 j)) rfl (dP rfl rfl (o_idxR0 td25 sz3 (by decide) rfl rfl hi4 ?_)))))
        refine dL (E := ([], [(q0, k0)])) rfl rfl (by simp) (cfo (by kernel_rfl) (cfo (by kernel_rfl) (cfn))) (o_storeR1 (atX hne0 hdx 0 rfl) sz3 (by decide) (x' := (at' data2 (j - 1))) (fun _ => rfl) rfl rfl (lt_of hi4 (by first | rfl | omega | (simp only [go_sem] <;> omega))) rfl rfl (setX hne0 hdx 0 rfl rfl) (dP rfl rfl (o_idxR0 td25 sz3 (by decide) rfl rfl hi5 ?_)))
        refine dL (E := ([], [(q0, k0)])) rfl rfl (by simp) (cfo (by kernel_rfl) (cfo (by kernel_rfl) (cfo (by kernel_rfl) (cfn)))) (o_storeR1 (atX hne0 hdx 0 rfl) sz3 (by decide) (x' := (at' data2 j)) (fun _ => rfl) rfl rfl (lt_of hi5 (by first | rfl | omega | (simp only [go_sem] <;> omega))) rfl rfl (setX hne0 hdx 0 rfl rfl) (dN (rZ (mvZ (.int .i64 j) rfl (wZ rg (o_subG rfl rfl h.1 ?_))))))
        replace h := h.2
        refine asZ (.int .i64 (j - 1)) rfl (nZ ?_)
        exact ⟨((j - 1), (set' (set' data2 j (at' data2 (j - 1))) (j - 1) (at' data2 j))), (canon (fc (VW.slen (by first | rfl | omega | (simp only [go_sem] <;> omega))) (fc vr (fc vr (fc vr (fc vr (fc vr (fn))))))) (sn)), h⟩
      replace h := h.2 hb2
      refine Vc.exit' (exB_self ?_)
      refine rZ ?_
      refine mvZ (.int .i64 i) rfl (wZ rg (o_addG rfl rfl h.1 ?_))
      replace h := h.2
      refine asZ (.int .i64 (i + 1)) rfl (nZ ?_)
      exact ⟨((i + 1), data2), (canon (fc vr (fc vr (fc vr (fc vr (fc vr (fn)))))) (sn)), h⟩
    replace h := h.2 hb1
    refine Vc.drawn' mixed rg (fun _ => jcr2) (by kernel_rfl) ?_
    refine dP rfl rfl (o_move (v := .int .i64 j) rfl (dP rfl rfl (o_move (v := .int .i64 a) rfl (dP rfl rfl (o_gtr rfl rfl (dP rfl rfl (o_move (v := .bool (decide (a < j))) rfl ?_)))))))
    refine dGF rfl rfl hb1 rfl ?_
    refine dGF rfl rfl rfl rfl ?_
    refine dGF rfl rfl rfl rfl ?_
    refine dGF rfl rfl rfl rfl ?_
    refine dGF rfl rfl rfl rfl ?_
    refine dGF rfl rfl rfl rfl ?_
    refine dGF rfl rfl rfl rfl ?_
    refine dGF rfl rfl rfl rfl ?_
    refine dGF rfl rfl rfl rfl ?_
    refine dGF rfl rfl rfl rfl ?_
    refine dGF rfl rfl rfl rfl ?_
    refine dGF rfl rfl rfl rfl ?_
    refine dP rfl rfl (o_pickF rfl rfl (v := .bool false) rfl (dN ?_))
    refine Vc.cond' rfl (fun hb => Bool.noConfusion hb) (fun _ => ?_)
    refine Vc.exit' (exB_self ?_)
    refine rZ ?_
    refine mvZ (.int .i64 i) rfl (wZ rg (o_addG rfl rfl h.1 ?_))
    replace h := h.2
    refine asZ (.int .i64 (i + 1)) rfl (nZ ?_)
    exact ⟨((i + 1), data2), (canon (fc vr (fc vr (fc vr (fc vr (fc vr (fn)))))) (sn)), h⟩
  replace h := h.2 hb
  refine Vc.exit' (exB_self ?_)
  refine res_nil ?_
  show Gives _ (.tuple []) _
  exact gives_out (hfr _ rfl) (VW.refl _) (hQ _ h)
theorem slices_stableCmpFunc_int__e2_ctr {n : Int} {data : List Int} {u : List GRat} {q0 k0 g0 q1 k1 g1 q2 k2 g2 : Nat} (hdk : DK [(q0, k0), (q1, k1), (q2, k2)]) {Q : List Int → Prop} {S : St} {R : AV → St → Prop} (h : slices_stableCmpFunc_int__e2_W n data u Q) (hQ : ∀ r1, Q r1 → R (.tuple []) (stX S [(q0, k0, .arr 1 (List.map (AV.int .i64) r1), g0), (q1, k1, .arr 1 [.sl 3 q2 k2 g2 0 u.length], g1), (q2, k2, .arr 3 (List.map eRat u), g2)])) :
    Ctr Try.prog 131 [.sl 1 q0 k0 g0 0 data.length, AV.int .i64 n, .fn (.func 114) [] [.ptr q1 k1 g1 0 0]] (stX S [(q0, k0, .arr 1 (List.map (AV.int .i64) data), g0), (q1, k1, .arr 1 [.sl 3 q2 k2 g2 0 u.length], g1), (q2, k2, .arr 3 (List.map eRat u), g2)]) R := by
  unfold slices_stableCmpFunc_int__e2_W at h
  refine enterT Try.func131 rfl Try.ntmps131 Try.results131 (by kernel_rfl) (fun rg hrg => ?_)
  have hdx : DX [(q0, k0, .arr 1 (List.map (AV.int .i64) data), g0), (q1, k1, .arr 1 [.sl 3 q2 k2 g2 0 u.length], g1), (q2, k2, .arr 3 (List.map eRat u), g2)] := hdk
  have hfr := fun X' e => fresh_set (S := S) (rg := rg) (X := [(q0, k0, .arr 1 (List.map (AV.int .i64) data), g0), (q1, k1, .arr 1 [.sl 3 q2 k2 g2 0 u.length], g1), (q2, k2, .arr 3 (List.map eRat u), g2)]) (X' := X') e hrg
  have hne0 := fresh_ne hdx hrg 0 rfl
  have hne1 := fresh_ne hdx hrg 1 rfl
  have hne2 := fresh_ne hdx hrg 2 rfl
  refine qZ (rZ (asZ (.int .i64 20) rfl (nZ (qZ (rZ (mvZ (.int .i64 20) rfl (asZ (.int .i64 0) rfl (asZ (.int .i64 20) rfl (nZ (qZ ?_))))))))))
  refine Vc.blk ?_
  obtain ⟨I, μ, h0, hI⟩ := h
  refine Vc.loop' (σ := (Int × Int × (List Int))) (fun y => I y) (fun y => μ y) (fun y => envOf [(0, .sl 1 q0 k0 g0 0 y.2.2.length), (1, .int .i64 n), (2, .fn (.func 114) [] [.ptr q1 k1 g1 0 0]), (6, .int .i64 20), (7, .int .i64 y.1), (8, .int .i64 y.2.1)]) (fun y => stL (stX S [(q0, k0, .arr 1 (List.map (AV.int .i64) y.2.2), g0), (q1, k1, .arr 1 [.sl 3 q2 k2 g2 0 u.length], g1), (q2, k2, .arr 3 (List.map eRat u), g2)]) rg []) (0, 20, data) (canon (fc vr (fc vr (fc vr (fc vr (fc vr (fc vr (fn))))))) (sn)) h0 (fun y h => ?_)
  obtain ⟨a, b, data1⟩ := y
  replace h := hI (a, b, data1) h
  show Vc _ _ _ _ (envOf [(0, .sl 1 q0 k0 g0 0 data1.length), (1, .int .i64 n), (2, .fn (.func 114) [] [.ptr q1 k1 g1 0 0]), (6, .int .i64 20), (7, .int .i64 a), (8, .int .i64 b)]) (stL (stX S [(q0, k0, .arr 1 (List.map (AV.int .i64) data1), g0), (q1, k1, .arr 1 [.sl 3 q2 k2 g2 0 u.length], g1), (q2, k2, .arr 3 (List.map eRat u), g2)]) rg [])
  refine qZ (qZ (rZ (mvZ (.int .i64 b) rfl (mvZ (.int .i64 n) rfl (wZ rg (o_leq rfl rfl (nZ ?_)))))))
  refine Vc.cond' rfl (fun hb => ?_) (fun hb => ?_)
  · replace h := h.1 hb
    refine Vc.skip' ?_
    refine Vc.blk ?_
    refine qZ (rZ (mvZ (.sl 1 q0 k0 g0 0 data1.length) rfl (mvZ (.int .i64 a) rfl (mvZ (.int .i64 b) rfl (mvZ (.fn (.func 114) [] [.ptr q1 k1 g1 0 0]) rfl ?_)))))
    refine wZ rg (o_call (us := [.sl 1 q0 k0 g0 0 data1.length, AV.int .i64 a, AV.int .i64 b, .fn (.func 114) [] [.ptr q1 k1 g1 0 0]]) rfl (vl' vr (vl' vr (vl' vr (vl' vr (vn))))) (ctrX (sx_c (atX hne0 hdx 0 rfl) (sx_c (atX hne1 hdx 1 rfl) (sx_c (atX hne2 hdx 2 rfl) (sx_n)))) (slices_insertionSortCmpFunc_int__e2_ctr (dk_c (ni_c (dk_at 0 1 hdk rfl rfl rfl) (ni_c (dk_at 0 2 hdk rfl rfl rfl) (ni_n))) (dk_c (ni_c (dk_at 1 2 hdk rfl rfl rfl) (ni_n)) (dk_c (ni_n) (dk_n)))) h fun data2 h => ?_)))
    refine Wl.eqS (sy_c (sx_c (atX hne1 hdx 1 rfl) (sx_c (atX hne2 hdx 2 rfl) (sx_n))) (setX hne0 hdx 0 rfl rfl)) ?_
    have hl := h.1
    replace h := h.2
    refine nZ (qZ (rZ (mvZ (.int .i64 b) rfl (asZ (.int .i64 b) rfl (nZ (rZ (mvZ (.int .i64 b) rfl (mvZ (.int .i64 20) rfl (wZ rg (o_addG rfl rfl h.1 ?_))))))))))
    replace h := h.2
    refine asZ (.int .i64 (b + 20)) rfl (nZ ?_)
    exact ⟨(b, (b + 20), data2), (canon (fc (VW.slen (by first | rfl | omega | (simp only [go_sem] <;> omega))) (fc vr (fc vr (fc vr (fc vr (fc vr (fn))))))) (sn)), h⟩
  replace h := h.2 hb
  refine Vc.exit' (exB_self ?_)
  refine qZ (rZ (mvZ (.sl 1 q0 k0 g0 0 data1.length) rfl (mvZ (.int .i64 a) rfl (mvZ (.int .i64 n) rfl (mvZ (.fn (.func 114) [] [.ptr q1 k1 g1 0 0]) rfl ?_)))))
  refine wZ rg (o_call (us := [.sl 1 q0 k0 g0 0 data1.length, AV.int .i64 a, AV.int .i64 n, .fn (.func 114) [] [.ptr q1 k1 g1 0 0]]) rfl (vl' vr (vl' vr (vl' vr (vl' vr (vn))))) (ctrX (sx_c (atX hne0 hdx 0 rfl) (sx_c (atX hne1 hdx 1 rfl) (sx_c (atX hne2 hdx 2 rfl) (sx_n)))) (slices_insertionSortCmpFunc_int__e2_ctr (dk_c (ni_c (dk_at 0 1 hdk rfl rfl rfl) (ni_c (dk_at 0 2 hdk rfl rfl rfl) (ni_n))) (dk_c (ni_c (dk_at 1 2 hdk rfl rfl rfl) (ni_n)) (dk_c (ni_n) (dk_n)))) h fun data3 h => ?_)))
  refine Wl.eqS (sy_c (sx_c (atX hne1 hdx 1 rfl) (sx_c (atX hne2 hdx 2 rfl) (sx_n))) (setX hne0 hdx 0 rfl rfl)) ?_
  have hl1 := h.1
  replace h := h.2
  refine nZ ?_
  refine Vc.blk ?_
  obtain ⟨I, μ, h0, hI⟩ := h
  refine Vc.loop' (σ := (Int)) (fun y => I y) (fun y => μ y) (fun y => envOf [(0, .sl 1 q0 k0 g0 0 data1.length), (1, .int .i64 n), (2, .fn (.func 114) [] [.ptr q1 k1 g1 0 0]), (6, .int .i64 y)]) (fun y => stL (stX S [(q0, k0, .arr 1 (List.map (AV.int .i64) data3), g0), (q1, k1, .arr 1 [.sl 3 q2 k2 g2 0 u.length], g1), (q2, k2, .arr 3 (List.map eRat u), g2)]) rg []) 20 (canon (fc vr (fc vr (fc vr (fc vr (fn))))) (sn)) h0 (fun blockSize h => ?_)
  replace h := hI blockSize h
  show Vc _ _ _ _ (envOf [(0, .sl 1 q0 k0 g0 0 data1.length), (1, .int .i64 n), (2, .fn (.func 114) [] [.ptr q1 k1 g1 0 0]), (6, .int .i64 blockSize)]) (stL (stX S [(q0, k0, .arr 1 (List.map (AV.int .i64) data3), g0), (q1, k1, .arr 1 [.sl 3 q2 k2 g2 0 u.length], g1), (q2, k2, .arr 3 (List.map eRat u), g2)]) rg [])
  refine qZ (qZ (rZ (mvZ (.int .i64 blockSize) rfl (mvZ (.int .i64 n) rfl (wZ rg (o_lss rfl rfl (nZ ?_)))))))
  refine Vc.cond' rfl (fun hb1 => ?_) (fun hb1 => ?_)
  · replace h := h.1 hb1
    refine Vc.skip' ?_
    refine Vc.blk ?_
    refine qZ (rZ (mvZ (.int .i64 blockSize) rfl (wZ rg (o_mulG rfl rfl h.1 ?_))))
    replace h := h.2
    refine asZ (.int .i64 0) rfl (asZ (.int .i64 (2 * blockSize)) rfl (nZ (qZ ?_)))
    refine Vc.blk ?_
    obtain ⟨I, μ, h0, hI⟩ := h
    refine Vc.loop' (σ := (Unit)) (fun y => I y) (fun y => μ y) (fun y => envOf [(0, .sl 1 q0 k0 g0 0 data1.length), (1, .int .i64 n), (2, .fn (.func 114) [] [.ptr q1 k1 g1 0 0]), (6, .int .i64 blockSize), (7, .int .i64 0), (8, .int .i64 (2 * blockSize))]) (fun y => stL (stX S [(q0, k0, .arr 1 (List.map (AV.int .i64) data3), g0), (q1, k1, .arr 1 [.sl 3 q2 k2 g2 0 u.length], g1), (q2, k2, .arr 3 (List.map eRat u), g2)]) rg []) () (canon (fc vr (fc vr (fc vr (fc vr (fc vr (fc vr (fn))))))) (sn)) h0 (fun _ h => ?_)
    replace h := hI () h
    show Vc _ _ _ _ (envOf [(0, .sl 1 q0 k0 g0 0 data1.length), (1, .int .i64 n), (2, .fn (.func 114) [] [.ptr q1 k1 g1 0 0]), (6, .int .i64 blockSize), (7, .int .i64 0), (8, .int .i64 (2 * blockSize))]) (stL (stX S [(q0, k0, .arr 1 (List.map (AV.int .i64) data3), g0), (q1, k1, .arr 1 [.sl 3 q2 k2 g2 0 u.length], g1), (q2, k2, .arr 3 (List.map eRat u), g2)]) rg [])
    refine qZ (qZ (rZ (mvZ (.int .i64 (2 * blockSize)) rfl (mvZ (.int .i64 n) rfl (wZ rg (o_leq rfl rfl (nZ ?_)))))))
    refine Vc.cond' rfl (fun hb2 => ?_) (fun hb2 => ?_)
    · replace h := h.1 hb2
      refine Vc.skip' ?_
      refine Vc.blk ?_
      refine qZ (rZ (mvZ (.sl 1 q0 k0 g0 0 data1.length) rfl (mvZ (.int .i64 0) rfl (mvZ (.int .i64 0) rfl (mvZ (.int .i64 blockSize) rfl (wZ rg (o_addG rfl rfl h.1 ?_)))))))
      replace h := h.2
      refine mvZ (.int .i64 (2 * blockSize)) rfl (mvZ (.fn (.func 114) [] [.ptr q1 k1 g1 0 0]) rfl ?_)
      exact h.elim
    replace h := h.2 hb2
    refine Vc.exit' (exB_self ?_)
    refine qZ (qZ (rZ (mvZ (.int .i64 0) rfl (mvZ (.int .i64 blockSize) rfl (wZ rg (o_addG rfl rfl h.1 ?_))))))
    replace h := h.2
    refine asZ (.int .i64 (0 + blockSize)) rfl (nZ (qZ (rZ (mvZ (.int .i64 (0 + blockSize)) rfl (mvZ (.int .i64 n) rfl (wZ rg (o_lss rfl rfl (nZ ?_))))))))
    refine Vc.cond' rfl (fun hb3 => ?_) (fun hb3 => ?_)
    · replace h := h.1 hb3
      refine rZ ?_
      refine mvZ (.sl 1 q0 k0 g0 0 data1.length) rfl (mvZ (.int .i64 0) rfl (mvZ (.int .i64 (0 + blockSize)) rfl (mvZ (.int .i64 n) rfl (mvZ (.fn (.func 114) [] [.ptr q1 k1 g1 0 0]) rfl ?_))))
      exact h.elim
    replace h := h.2 hb3
    refine Vc.skip' ?_
    refine rZ ?_
    refine mvZ (.int .i64 blockSize) rfl (wZ rg (o_mulG rfl rfl h.1 ?_))
    replace h := h.2
    refine asZ (.int .i64 (blockSize * 2)) rfl (nZ ?_)
    exact ⟨(blockSize * 2), (canon (fc vr (fc vr (fc vr (fc vr (fn))))) (sn)), h⟩
  replace h := h.2 hb1
  refine Vc.exit' (exB_self ?_)
  refine res_nil ?_
  show Gives _ (.tuple []) _
  exact gives_out (hfr _ rfl) (VW.refl _) (hQ _ h)
theorem slices_SortStableFunc___int_int__e2_ctr {x : List Int} {u : List GRat} {q0 k0 g0 q1 k1 g1 q2 k2 g2 : Nat} (hdk : DK [(q0, k0), (q1, k1), (q2, k2)]) {Q : List Int → Prop} {S : St} {R : AV → St → Prop} (h : slices_SortStableFunc___int_int__e2_W x u Q) (hQ : ∀ r1, Q r1 → R (.tuple []) (stX S [(q0, k0, .arr 1 (List.map (AV.int .i64) r1), g0), (q1, k1, .arr 1 [.sl 3 q2 k2 g2 0 u.length], g1), (q2, k2, .arr 3 (List.map eRat u), g2)])) :
    Ctr Try.prog 88 [.sl 1 q0 k0 g0 0 x.length, .fn (.func 114) [] [.ptr q1 k1 g1 0 0]] (stX S [(q0, k0, .arr 1 (List.map (AV.int .i64) x), g0), (q1, k1, .arr 1 [.sl 3 q2 k2 g2 0 u.length], g1), (q2, k2, .arr 3 (List.map eRat u), g2)]) R := by
  unfold slices_SortStableFunc___int_int__e2_W at h
  refine enterT Try.func88 rfl Try.ntmps88 Try.results88 (by kernel_rfl) (fun rg hrg => ?_)
  have hdx : DX [(q0, k0, .arr 1 (List.map (AV.int .i64) x), g0), (q1, k1, .arr 1 [.sl 3 q2 k2 g2 0 u.length], g1), (q2, k2, .arr 3 (List.map eRat u), g2)] := hdk
  have hfr := fun X' e => fresh_set (S := S) (rg := rg) (X := [(q0, k0, .arr 1 (List.map (AV.int .i64) x), g0), (q1, k1, .arr 1 [.sl 3 q2 k2 g2 0 u.length], g1), (q2, k2, .arr 3 (List.map eRat u), g2)]) (X' := X') e hrg
  have hne0 := fresh_ne hdx hrg 0 rfl
  have hne1 := fresh_ne hdx hrg 1 rfl
  have hne2 := fresh_ne hdx hrg 2 rfl
  refine rZ ?_
  refine mvZ (.sl 1 q0 k0 g0 0 x.length) rfl (mvZ (.sl 1 q0 k0 g0 0 x.length) rfl (wZ rg (o_lenR td25 rfl (mvZ (.fn (.func 114) [] [.ptr q1 k1 g1 0 0]) rfl ?_))))
  refine wZ rg (o_call (us := [.sl 1 q0 k0 g0 0 x.length, AV.int .i64 (x.length : Int), .fn (.func 114) [] [.ptr q1 k1 g1 0 0]]) rfl (vl' vr (vl' vr (vl' vr (vn)))) (ctrX (sx_c (atX hne0 hdx 0 rfl) (sx_c (atX hne1 hdx 1 rfl) (sx_c (atX hne2 hdx 2 rfl) (sx_n)))) (slices_stableCmpFunc_int__e2_ctr (dk_c (ni_c (dk_at 0 1 hdk rfl rfl rfl) (ni_c (dk_at 0 2 hdk rfl rfl rfl) (ni_n))) (dk_c (ni_c (dk_at 1 2 hdk rfl rfl rfl) (ni_n)) (dk_c (ni_n) (dk_n)))) h fun x1 h => ?_)))
  refine Wl.eqS (sy_c (sx_c (atX hne1 hdx 1 rfl) (sx_c (atX hne2 hdx 2 rfl) (sx_n))) (setX hne0 hdx 0 rfl rfl)) ?_
  have hl := h.1
  replace h := h.2
  refine nZ ?_
  refine res_nil ?_
  show Gives _ (.tuple []) _
  exact gives_out (hfr _ rfl) (VW.refl _) (hQ _ h)
theorem order_Weighted_ctr {f : GFormula} {Q : List Int → Option Int → Prop} {S : St} {R : AV → St → Prop} (h : order_Weighted_W f Q) (hQ : ∀ r1 r2, Q r1 r2 → R (.tuple [eL (AV.int .i64) r1, eErr 73 r2]) S) :
    Ctr Try.prog 68 [eFormula f] S R := by
  unfold order_Weighted_W at h
  refine enterT Try.func68 rfl Try.ntmps68 Try.results68 (by kernel_rfl) (fun rg hrg => ?_)
  refine qZ (rZ (wZ rg (o_box (v := eFormula f) rfl rfl (kk := 3) rfl (by decide) (fun g1 => (wZ rg (o_alloc zav25 ok25 (kk := 1) rfl (fun g2 => (wZ rg (o_alloc zav32 ok32 (kk := 1) rfl (fun g3 => (nZ (qZ (qZ (rZ (wZ rg (o_loadBA (atL (k := 1) rfl) sz24 (by decide) ag24 rfl rfl (v := eFormula f) rfl (wZ rg (o_call (us := [eFormula f]) rfl (vl' vr (vn)) (formula_Check_ctr h fun err h => ?_)))))))))))))))))))
  refine asZ (eErr 73 err) rfl (nZ (qZ (rZ (mvZ (eErr 73 err) rfl (wZ rg (o_isnon td32 (E := 73) rfl rfl rfl (nZ ?_)))))))
  refine Vc.cond' rfl (fun hb => ?_) (fun hb => ?_)
  · replace h := h.1 hb
    refine qZ (rZ (mvZ (eErr 73 err) rfl (wZ rg (o_storeB (atL (k := 2) rfl) sz25 (by decide) rfl (w := .nil) rfl rfl rfl (v := .nil) rfl setL (wZ rg (o_storeB (atL (k := 3) rfl) sz32 (by decide) rfl (w := eErr 73 err) rfl sE0 (sE1 rfl) (v := eErr 73 err) rfl setL (nZ ?_)))))))
    refine Vc.ret' ?_
    refine res_cell1 (atL (k := 2) rfl) sz25 ag25 rfl rfl (v := .nil) rfl (res_cell1 (atL (k := 3) rfl) sz32 ag32 rfl rfl (v := eErr 73 err) sE2 (res_nil ?_))
    show Gives _ (.tuple [.nil, eErr 73 err]) _
    exact gives_out hrg (VW.tupL (vl' (VW.nilL) (vl' vr (vn)))) (hQ _ _ h)
  replace h := h.2 hb
  refine Vc.skip' ?_
  refine qZ (rZ (wZ rg (o_faP td24 rfl rfl (by rw [sz3]; decide) rfl (wZ rg (o_loadB1 (atL (k := 1) rfl) sz3 ag3 rfl rfl (v := .int .i64 f.Vars) rfl (wZ rg (o_faP td24 rfl rfl (by rw [sz22]; decide) rfl (wZ rg (o_loadB1 (atL (k := 1) rfl) sz22 ag22 rfl rfl (v := eL eNode f.Nodes) rfl (wZ rg (o_len td22 rfl (wZ rg (o_addG rfl rfl h.1 ?_)))))))))))))
  replace h := h.2
  refine wZ rg (o_makeZ td137 bts140 ok140 zav140 (kk := 3) rfl rfl rfl h.1 (fun g4 => ?_))
  replace h := h.2
  refine Wl.wk (EWk.ow (k := 25) (o' := .arr 3 (List.map eRat (rep' (f.Vars + (f.Nodes.length : Int)) (⟨false, [], []⟩ : GRat)))) rfl (OW.rep (VWL.vwc (vl' vr (vl' (VW.nilL) (vl' (VW.nilL) (vn))))))) ?_
  refine wZ rg (o_alloc zav137 ok137 (kk := 1) rfl (fun g5 => (wZ rg (o_storeB (atL (k := 5) rfl) sz137 (by decide) rfl (w := .sl 3 rg 25 g4 0 (Int.toNat (f.Vars + (f.Nodes.length : Int)))) rfl rfl rfl (v := .sl 3 rg 25 g4 0 (Int.toNat (f.Vars + (f.Nodes.length : Int)))) rfl setL (nZ (qZ ?_))))))
  obtain ⟨r, hc, h⟩ := h
  have hi := h.1
  replace h := h.2
  refine Vc.drawn' mixed rg (usOf [(3, pc (eRat r))]) (by kernel_rfl) ?_
  refine dL (E := ([(rg, 5)], [])) rfl rfl (by simp) (cfn) (o_loadB1 (atL (k := 5) rfl) sz137 ag137 rfl rfl (v := .sl 3 rg 25 g4 0 (Int.toNat (f.Vars + (f.Nodes.length : Int)))) rfl (dP rfl rfl (o_faP td24 rfl rfl (by rw [sz3]; decide) rfl (dL (E := ([(rg, 1)], [])) rfl rfl (by simp) (cfa (by simp [apartE]) (cfn)) (o_loadB1 (atL (k := 1) rfl) sz3 ag3 rfl rfl (v := .int .i64 f.Top) rfl ?_)))))
  refine dC (vs := [AV.int .i64 1]) rfl (vl' vr (vn)) (fun _ => rational_Of_ctr hc (fun _ hr => ⟨by rw [hr], rfl⟩)) rfl ?_
  refine dP rfl rfl (o_idxR0 td137 sz140 (by decide) rfl rfl hi (dL (E := ([], [(rg, 25)])) rfl rfl (by simp) (cfo (by kernel_rfl) (cfo (by kernel_rfl) (cfn))) (o_storeRA (atL (k := 25) rfl) sz140 (by decide) (x' := r) (fun _ => rfl) rfl rfl (lt_of hi (by first | rfl | omega | (simp only [go_sem] <;> omega))) rfl rfl setL (dN (qZ (qZ (rZ (wZ rg (o_faP td24 rfl rfl (by rw [sz22]; decide) rfl ?_)))))))))
  refine wZ rg (o_loadB1 (atL (k := 1) rfl) sz22 ag22 rfl rfl (v := eL eNode f.Nodes) rfl (wZ rg (o_call (us := [eL eNode f.Nodes]) rfl (vl' vr (vn)) (slices_Backward___api_Node_api_Node_ctr (nZ ?_)))))
  refine Vc.blk ?_
  obtain ⟨hlr, I, h0, hI, hk⟩ := h
  refine Vc.rangeBack (σ := (List GRat)) (es0 := [(1, .ptr rg 1 g1 0 0), (2, .ptr rg 2 g2 0 0), (3, .ptr rg 3 g3 0 0), (5, .ptr rg 5 g5 0 0), (33, .fn (.func 145) [] [.iptr (AV.cells (eL eNode f.Nodes))])]) (fun n y => I n y) (fun y => [(1, .arr 3 [eFormula f], g1), (2, .arr 1 [.nil], g2), (3, .arr 1 [.niface], g3), (5, .arr 1 [.sl 3 rg 25 g4 0 y.length], g5), (25, .arr 3 (List.map eRat y), g4)]) (set' (rep' (f.Vars + (f.Nodes.length : Int)) (⟨false, [], []⟩ : GRat)) f.Top r) (EWk.trans (EWk.ow (k := 5) (o' := .arr 1 [.sl 3 rg 25 g4 0 ((set' (rep' (f.Vars + (f.Nodes.length : Int)) (⟨false, [], []⟩ : GRat)) f.Top r).length)]) rfl (OW.one (VWL.vwc (vl' (VW.slen (by first | rfl | omega | (simp only [go_sem] <;> omega))) (vn))))) (canon (fc vr (fc vr (fc vr (fc vr (fc vr (fn)))))) (sc rfl (sc rfl (sc rfl (sc rfl (sc rfl (sn)))))))) rfl (slices_Backward___api_Node_api_Node_iter hlr) (by kernel_rfl) h0 (fun n hi i x1 hj hx x h S => ?_) (fun x4 h => ?_)
  · replace h := hI n hi i x1 hj hx x h
    show Vc _ _ _ _ (upd (upd (envOf [(1, .ptr rg 1 g1 0 0), (2, .ptr rg 2 g2 0 0), (3, .ptr rg 3 g3 0 0), (5, .ptr rg 5 g5 0 0), (33, .fn (.func 145) [] [.iptr (AV.cells (eL eNode f.Nodes))])]) 34 (.int .i64 i)) 35 (eNode x1)) (stL S rg [(1, .arr 3 [eFormula f], g1), (2, .arr 1 [.nil], g2), (3, .arr 1 [.niface], g3), (5, .arr 1 [.sl 3 rg 25 g4 0 x.length], g5), (25, .arr 3 (List.map eRat x), g4)])
    refine qZ (rZ (asZ (.int .i64 i) rfl (nZ (rZ (wZ rg (o_alloc zav105 ok105 (kk := 3) rfl (fun g6 => (wZ rg (o_storeB (atL (k := 7) rfl) sz105 (by decide) rfl (w := eNode x1) rfl rfl rfl (v := eNode x1) rfl setL (nZ ?_))))))))))
    refine ⟨_, rfl, fun S => ?_⟩
    refine Vc.blk ?_
    refine qZ (rZ (wZ rg (o_loadB1 (atL (k := 5) rfl) sz137 ag137 rfl rfl (v := .sl 3 rg 25 g4 0 x.length) rfl (wZ rg (o_faP td24 rfl rfl (by rw [sz3]; decide) rfl (wZ rg (o_loadB1 (atL (k := 1) rfl) sz3 ag3 rfl rfl (v := .int .i64 f.Vars) rfl (mvZ (.int .i64 i) rfl (wZ rg (o_addG rfl rfl h.1 ?_))))))))))
    replace h := h.2
    refine wZ rg (o_idxR0 td137 sz140 (by decide) rfl rfl h.1 ?_)
    have hi1 := h.1
    replace h := h.2
    refine wZ rg (o_loadRA (atL (k := 25) rfl) sz140 (by decide) ag140 rfl (lt_of hi1 (by first | rfl | omega | (simp only [go_sem] <;> omega))) rfl (v := eRat (at' x (f.Vars + i))) rfl (wZ rg (o_alloc zav140 ok140 (kk := 3) rfl (fun g7 => (wZ rg (o_storeB (atL (k := 8) rfl) sz140 (by decide) rfl (w := eRat (at' x (f.Vars + i))) rfl rfl rfl (v := eRat (at' x (f.Vars + i))) rfl setL (nZ (qZ (qZ (rZ ?_))))))))))
    refine wZ rg (o_loadBA (atL (k := 8) rfl) sz140 (by decide) ag140 rfl rfl (v := eRat (at' x (f.Vars + i))) rfl (wZ rg (o_call (us := [eRat (at' x (f.Vars + i))]) rfl (vl' vr (vn)) (rational_Sign_ctr h fun r1 h => (wZ rg (o_eql rfl rfl (mvZ (.bool (r1 == 0)) rfl ?_)))))))
    refine Wl.guard rfl rfl (fun hb1 => ?_) (fun hb1 => ?_)
    · replace h := h.2 hb1
      refine wZ rg (o_faP td105 rfl rfl (by rw [sz25]; decide) rfl ?_)
      refine Wl.guardT rfl rfl hb1 ?_
      refine wZ rg (o_loadB1 (atL (k := 7) rfl) sz25 ag25 rfl rfl (v := eL (AV.int .i64) x1.Args) rfl ?_)
      refine Wl.guardT rfl rfl hb1 ?_
      refine wZ rg (o_len td25 rfl ?_)
      refine Wl.guardT rfl rfl hb1 ?_
      refine wZ rg (o_eql rfl rfl (wZ rg (o_pickF rfl hb1 (v := .bool ((x1.Args.length : Int) == 0)) rfl (nZ ?_))))
      refine Vc.cond' rfl (fun hb2 => ?_) (fun hb2 => ?_)
      · replace h := h.1 hb2
        refine Vc.exit' (exB_self ?_)
        exact ⟨x, canon (fn) (sc rfl (sc rfl (sc rfl (sc rfl (sc rfl (sn)))))), h⟩
      replace h := h.2 hb2
      refine Vc.skip' ?_
      refine qZ ?_
      obtain ⟨r2, hc1, h⟩ := h
      obtain ⟨r3, r4, hc2, h⟩ := h
      refine Vc.drawn' mixed rg (usOf [(4, pc (eRat r2)), (5, pc (.tuple [eRat r3, eErr 73 r4]))]) (by kernel_rfl) ?_
      refine dL (E := ([(rg, 8)], [])) rfl rfl (by simp) (cfn) (o_loadBA (atL (k := 8) rfl) sz140 (by decide) ag140 rfl rfl (v := eRat (at' x (f.Vars + i))) rfl (dP rfl rfl (o_faP td105 rfl rfl (by rw [sz25]; decide) rfl (dL (E := ([(rg, 7)], [])) rfl rfl (by simp) (cfa (by simp [apartE]) (cfn)) (o_loadB1 (atL (k := 7) rfl) sz25 ag25 rfl rfl (v := eL (AV.int .i64) x1.Args) rfl (dP rfl rfl (o_len td25 rfl ?_)))))))
      refine dC (vs := [AV.int .i64 (x1.Args.length : Int)]) rfl (vl' vr (vn)) (fun _ => rational_Of_ctr hc1 (fun _ hr => ⟨by rw [hr], rfl⟩)) rfl ?_
      refine dC (vs := [eRat (at' x (f.Vars + i)), eRat r2]) rfl (vl' vr (vl' vr (vn))) (fun _ => rational_Div_ctr hc2 (fun _ _ hr => ⟨by rw [hr.1, hr.2], rfl⟩)) rfl ?_
      refine dP rfl rfl (o_move (v := .tuple [eRat r3, eErr 73 r4]) rfl (dP rfl rfl (o_extract (v := eRat r3) rfl rfl rfl (dP rfl rfl (o_extract (v := eErr 73 r4) rfl rfl rfl (dL (E := ([], [(rg, 9)])) rfl rfl (by simp) (cfa (by simp [apartE]) (cfa (by simp [apartE]) (cfn))) (o_alloc zav140 ok140 (kk := 3) rfl (fun g8 => ?_))))))))
      refine dL (E := ([], [(rg, 9)])) rfl rfl (by simp) (cfo (by kernel_rfl) (cfo (by kernel_rfl) (cfo (by kernel_rfl) (cfn)))) (o_storeB (atL (k := 9) rfl) sz140 (by decide) rfl (w := eRat r3) rfl rfl rfl (v := eRat r3) rfl setL (dP rfl rfl (o_assign (v := eErr 73 r4) rfl (dN (qZ (qZ (rZ (mvZ (eErr 73 r4) rfl (wZ rg (o_isnon td32 (E := 73) rfl rfl rfl (nZ ?_)))))))))))
      refine Vc.cond' rfl (fun hb3 => ?_) (fun hb3 => ?_)
      · replace h := h.1 hb3
        refine qZ (rZ (mvZ (eErr 73 r4) rfl (wZ rg (o_storeB (atL (k := 2) rfl) sz25 (by decide) rfl (w := .nil) rfl rfl rfl (v := .nil) rfl setL (wZ rg (o_storeB (atL (k := 3) rfl) sz32 (by decide) rfl (w := eErr 73 r4) rfl sE0 (sE1 rfl) (v := eErr 73 r4) rfl setL (nZ ?_)))))))
        refine Vc.ret' ?_
        exact h.elim
      replace h := h.2 hb3
      refine Vc.skip' ?_
      refine qZ (rZ (wZ rg (o_faP td105 rfl rfl (by rw [sz25]; decide) rfl (wZ rg (o_loadB1 (atL (k := 7) rfl) sz25 ag25 rfl rfl (v := eL (AV.int .i64) x1.Args) rfl (wZ rg (o_len td25 rfl (mvZ (.int .i64 0) rfl (nZ ?_)))))))))
      refine Vc.blk ?_
      obtain ⟨I, μ, h0, hI⟩ := h
      refine Vc.loop' (σ := (Int × (List GRat))) (fun y => I y) (fun y => μ y) (fun y => envOf [(1, .ptr rg 1 g1 0 0), (2, .ptr rg 2 g2 0 0), (3, .ptr rg 3 g3 0 0), (5, .ptr rg 5 g5 0 0), (9, .ptr rg 9 g8 0 0), (33, .fn (.func 145) [] [.iptr (AV.cells (eL eNode f.Nodes))]), (65, eL (AV.int .i64) x1.Args), (66, .int .i64 (x1.Args.length : Int)), (67, .int .i64 y.1)]) (fun y => stL S rg [(1, .arr 3 [eFormula f], g1), (2, .arr 1 [.nil], g2), (3, .arr 1 [.niface], g3), (5, .arr 1 [.sl 3 rg 25 g4 0 y.2.length], g5), (9, .arr 3 [eRat r3], g8), (25, .arr 3 (List.map eRat y.2), g4)]) (0, x) (canon (fc vr (fc vr (fc vr (fc vr (fc vr (fc vr (fc vr (fc vr (fc vr (fn)))))))))) (sc rfl (sc rfl (sc rfl (sc rfl (sc rfl (sc rfl (sn)))))))) h0 (fun y h => ?_)
      obtain ⟨x2, x3⟩ := y
      replace h := hI (x2, x3) h
      show Vc _ _ _ _ (envOf [(1, .ptr rg 1 g1 0 0), (2, .ptr rg 2 g2 0 0), (3, .ptr rg 3 g3 0 0), (5, .ptr rg 5 g5 0 0), (9, .ptr rg 9 g8 0 0), (33, .fn (.func 145) [] [.iptr (AV.cells (eL eNode f.Nodes))]), (65, eL (AV.int .i64) x1.Args), (66, .int .i64 (x1.Args.length : Int)), (67, .int .i64 x2)]) (stL S rg [(1, .arr 3 [eFormula f], g1), (2, .arr 1 [.nil], g2), (3, .arr 1 [.niface], g3), (5, .arr 1 [.sl 3 rg 25 g4 0 x3.length], g5), (9, .arr 3 [eRat r3], g8), (25, .arr 3 (List.map eRat x3), g4)])
      refine qZ (rZ (wZ rg (o_lss rfl rfl (nZ (qZ ?_)))))
      refine Vc.cond' rfl (fun hb4 => ?_) (fun hb4 => ?_)
      · replace h := h.1 hb4
        refine Vc.skip' ?_
        refine qZ ?_
        refine Vc.blk ?_
        refine qZ (rZ (wZ rg (o_idxL td25 sz3 (by decide) (fun _ => rfl) rfl rfl h.1 ?_)))
        replace h := h.2
        refine wZ rg (o_loadI1 sz3 ag3 rfl rfl (v := .int .i64 (at' x1.Args x2)) rfl (asZ (.int .i64 (at' x1.Args x2)) rfl (nZ ?_)))
        have hi2 := h.1
        replace h := h.2
        obtain ⟨r5, hc3, h⟩ := h
        have hi3 := h.1
        replace h := h.2
        refine Vc.drawn' mixed rg (usOf [(7, pc (eRat r5))]) (by kernel_rfl) ?_
        refine dL (E := ([(rg, 5)], [])) rfl rfl (by simp) (cfn) (o_loadB1 (atL (k := 5) rfl) sz137 ag137 rfl rfl (v := .sl 3 rg 25 g4 0 x3.length) rfl (dP rfl rfl (o_move (v := .int .i64 (at' x1.Args x2)) rfl (dL (E := ([(rg, 5)], [])) rfl rfl (by simp) (cfa (by simp [apartE]) (cfn)) (o_loadB1 (atL (k := 5) rfl) sz137 ag137 rfl rfl (v := .sl 3 rg 25 g4 0 x3.length) rfl ?_)))))
        refine dP rfl rfl (o_move (v := .int .i64 (at' x1.Args x2)) rfl (dP rfl rfl (o_idxR0 td137 sz140 (by decide) rfl rfl hi2 (dL (E := ([(rg, 25)], [])) rfl rfl (by simp) (cfo (by kernel_rfl) (cfa (by simp [apartE]) (cfn))) (o_loadRA (atL (k := 25) rfl) sz140 (by decide) ag140 rfl (lt_of hi2 (by first | rfl | omega | (simp only [go_sem] <;> omega))) rfl (v := eRat (at' x3 (at' x1.Args x2))) rfl ?_)))))
        refine dL (E := ([(rg, 9)], [])) rfl rfl (by simp) (cfa (by simp [apartE]) (cfa (by simp [apartE]) (cfa (by simp [apartE]) (cfn)))) (o_loadBA (atL (k := 9) rfl) sz140 (by decide) ag140 rfl rfl (v := eRat r3) rfl ?_)
        refine dC (vs := [eRat (at' x3 (at' x1.Args x2)), eRat r3]) rfl (vl' vr (vl' vr (vn))) (fun _ => rational_Add_ctr hc3 (fun _ hr => ⟨by rw [hr], rfl⟩)) rfl ?_
        refine dP rfl rfl (o_idxR0 td137 sz140 (by decide) rfl rfl hi3 (dL (E := ([], [(rg, 25)])) rfl rfl (by simp) (cfo (by kernel_rfl) (cfo (by kernel_rfl) (cfo (by kernel_rfl) (cfo (by kernel_rfl) (cfn))))) (o_storeRA (atL (k := 25) rfl) sz140 (by decide) (x' := r5) (fun _ => rfl) rfl rfl (lt_of hi3 (by first | rfl | omega | (simp only [go_sem] <;> omega))) rfl rfl setL (dN (rZ ?_)))))
        refine wZ rg (o_addG rfl rfl h.1 ?_)
        replace h := h.2
        refine mvZ (.int .i64 (x2 + 1)) rfl (nZ ?_)
        exact ⟨((x2 + 1), (set' x3 (at' x1.Args x2) r5)), (EWk.trans (EWk.ow (k := 5) (o' := .arr 1 [.sl 3 rg 25 g4 0 ((set' x3 (at' x1.Args x2) r5).length)]) rfl (OW.one (VWL.vwc (vl' (VW.slen (by first | rfl | omega | (simp only [go_sem] <;> omega))) (vn))))) (canon (fc vr (fc vr (fc vr (fc vr (fc vr (fc vr (fc vr (fc vr (fc vr (fn)))))))))) (sc rfl (sc rfl (sc rfl (sc rfl (sc rfl (sc rfl (sn))))))))), h⟩
      replace h := h.2 hb4
      refine Vc.exit' (exB_self ?_)
      exact ⟨x3, canon (fn) (sc rfl (sc rfl (sc rfl (sc rfl (sc rfl (sn)))))), h⟩
    replace h := h.1 hb1
    refine Wl.guardF rfl rfl hb1 rfl ?_
    refine Wl.guardF rfl rfl hb1 rfl ?_
    refine Wl.guardF rfl rfl hb1 rfl ?_
    refine wZ rg (o_pickT rfl hb1 (v := .bool true) rfl (nZ ?_))
    refine Vc.cond' rfl (fun _ => ?_) (fun hb => Bool.noConfusion hb)
    refine Vc.exit' (exB_self ?_)
    exact ⟨x, canon (fn) (sc rfl (sc rfl (sc rfl (sc rfl (sc rfl (sn)))))), h⟩
  replace h := hk x4 h
  show Vc _ _ _ _ (envOf [(1, .ptr rg 1 g1 0 0), (2, .ptr rg 2 g2 0 0), (3, .ptr rg 3 g3 0 0), (5, .ptr rg 5 g5 0 0), (33, .fn (.func 145) [] [.iptr (AV.cells (eL eNode f.Nodes))])]) (stL S rg [(1, .arr 3 [eFormula f], g1), (2, .arr 1 [.nil], g2), (3, .arr 1 [.niface], g3), (5, .arr 1 [.sl 3 rg 25 g4 0 x4.length], g5), (25, .arr 3 (List.map eRat x4), g4)])
  refine qZ (rZ (wZ rg (o_faP td24 rfl rfl (by rw [sz3]; decide) rfl (wZ rg (o_loadB1 (atL (k := 1) rfl) sz3 ag3 rfl rfl (v := .int .i64 f.Vars) rfl (wZ rg (o_call (us := [AV.int .i64 f.Vars]) rfl (vl' vr (vn)) (order_natural_ctrO rg 83 h fun out g9 h => ?_))))))))
  refine Wl.eqS setL ?_
  refine asZ (.sl 1 rg 83 g9 0 out.length) rfl (nZ (qZ (rZ (mvZ (.sl 1 rg 83 g9 0 out.length) rfl (wZ rg (o_func (vs := []) (us := [.ptr rg 5 g5 0 0]) rfl rfl ?_))))))
  refine wZ rg (o_call (us := [.sl 1 rg 83 g9 0 out.length, .fn (.func 114) [] [.ptr rg 5 g5 0 0]]) rfl (vl' vr (vl' vr (vn))) (ctrX (sx_c (atL (k := 83) rfl) (sx_c (atL (k := 5) rfl) (sx_c (atL (k := 25) rfl) (sx_n)))) (slices_SortStableFunc___int_int__e2_ctr (dk_c (ni_c (ni_o rfl) (ni_c (ni_o rfl) (ni_n))) (dk_c (ni_c (ni_o rfl) (ni_n)) (dk_c (ni_n) (dk_n)))) h fun out1 h => ?_)))
  refine Wl.eqS (sy_c (sx_c (atL (k := 5) rfl) (sx_c (atL (k := 25) rfl) (sx_n))) setL) ?_
  have hl := h.1
  replace h := h.2
  refine nZ (qZ (rZ (mvZ (.sl 1 rg 83 g9 0 out.length) rfl (wZ rg (o_storeB (atL (k := 2) rfl) sz25 (by decide) rfl (w := .sl 1 rg 83 g9 0 out.length) rfl rfl rfl (v := .sl 1 rg 83 g9 0 out.length) rfl setL (wZ rg (o_storeB (atL (k := 3) rfl) sz32 (by decide) rfl (w := .niface) rfl rfl rfl (v := .niface) rfl setL (nZ ?_))))))))
  refine Vc.ret' ?_
  refine res_cell1 (atL (k := 2) rfl) sz25 ag25 rfl rfl (v := .sl 1 rg 83 g9 0 out.length) rfl (res_cell1 (atL (k := 3) rfl) sz32 ag32 rfl rfl (v := .niface) rfl (res_nil ?_))
  show Gives _ (.tuple [.sl 1 rg 83 g9 0 out.length, .niface]) _
  refine gives_freeze (k := 83) (xs := List.map (AV.int .i64) out1) rfl (v' := .tuple [eL (AV.int .i64) out1, .niface]) (VW.tupL (vl' (frz_full (by first | rfl | omega | (simp only [go_sem] <;> omega))) (vl' vr (vn)))) ?_
  exact gives_out hrg (VW.tupL (vl' vr (vl' vr (vn)))) (hQ _ _ h)
end Go.Proofs.Ytiamkdpljeemkaa
/- Walks of functions. Conditions: none. -/
namespace Go.Proofs.Ytiamkdpljeemkaa
open Go.Gg
set_option maxRecDepth 100000
theorem ref14_Check_ctr {o : List Int} {vars : Int} {Q : Int → Prop} {S : St} {R : AV → St → Prop} (h : ref14_Check_W o vars Q) (hQ : ∀ r1, Q r1 → R (AV.int .i64 r1) S) :
    Ctr Try.prog 43 [eL (AV.int .i64) o, AV.int .i64 vars] S R := by
  unfold ref14_Check_W at h
  refine enterT Try.func43 rfl Try.ntmps43 Try.results43 (by kernel_rfl) (fun rg hrg => ?_)
  refine qZ (rZ (asZ (.int .i64 0) rfl (nZ (qZ (qZ (rZ (mvZ (.int .i64 vars) rfl (wZ rg (o_lss rfl rfl (mvZ (.bool (decide (vars < 0))) rfl ?_))))))))))
  refine Wl.guard rfl rfl (fun hb => ?_) (fun hb => ?_)
  · replace h := h.2 hb
    refine mvZ (.int .i64 vars) rfl ?_
    refine Wl.guardT rfl rfl hb ?_
    refine wZ rg (o_gtr rfl rfl (wZ rg (o_pickF rfl hb (v := .bool (decide (24 < vars))) rfl (nZ ?_))))
    refine Vc.cond' rfl (fun hb1 => ?_) (fun hb1 => ?_)
    · replace h := h.1 hb1
      refine qZ (rZ (asZ (.int .i64 3) rfl (nZ ?_)))
      refine Vc.ret' ?_
      refine res_tmp (v := .int .i64 3) rfl (res_nil ?_)
      show Gives _ (.int .i64 3) _
      exact gives_out hrg (VW.refl _) (hQ _ h)
    replace h := h.2 hb1
    refine Vc.skip' ?_
    refine qZ (qZ (rZ (mvZ (eL (AV.int .i64) o) rfl (wZ rg (o_len td25 rfl (mvZ (.int .i64 vars) rfl (wZ rg (o_neq rfl rfl (nZ ?_)))))))))
    refine Vc.cond' rfl (fun hb2 => ?_) (fun hb2 => ?_)
    · replace h := h.1 hb2
      refine qZ (rZ (asZ (.int .i64 11) rfl (nZ ?_)))
      refine Vc.ret' ?_
      refine res_tmp (v := .int .i64 11) rfl (res_nil ?_)
      show Gives _ (.int .i64 11) _
      exact gives_out hrg (VW.refl _) (hQ _ h)
    replace h := h.2 hb2
    refine Vc.skip' ?_
    refine qZ (qZ (rZ (asZ (.int .i64 0) rfl (nZ ?_))))
    refine Vc.blk ?_
    obtain ⟨I, μ, h0, hI⟩ := h
    refine Vc.loop' (σ := (Int)) (fun y => I y) (fun y => μ y) (fun y => envOf [(0, eL (AV.int .i64) o), (1, .int .i64 vars), (5, .int .i64 y)]) (fun y => stL S rg []) 0 (canon (fc vr (fc vr (fc vr (fn)))) (sn)) h0 (fun i h => ?_)
    replace h := hI i h
    show Vc _ _ _ _ (envOf [(0, eL (AV.int .i64) o), (1, .int .i64 vars), (5, .int .i64 i)]) (stL S rg [])
    refine qZ (qZ (rZ (mvZ (.int .i64 i) rfl (mvZ (.int .i64 vars) rfl (wZ rg (o_lss rfl rfl (nZ ?_)))))))
    refine Vc.cond' rfl (fun hb3 => ?_) (fun hb3 => ?_)
    · replace h := h.1 hb3
      refine Vc.skip' ?_
      refine qZ ?_
      refine Vc.blk ?_
      refine qZ (qZ (rZ (mvZ (eL (AV.int .i64) o) rfl (mvZ (.int .i64 i) rfl (wZ rg (o_idxL td25 sz3 (by decide) (fun _ => rfl) rfl rfl h.1 ?_))))))
      replace h := h.2
      refine wZ rg (o_loadI1 sz3 ag3 rfl rfl (v := .int .i64 (at' o i)) rfl (wZ rg (o_lss rfl rfl (mvZ (.bool (decide ((at' o i) < 0))) rfl ?_))))
      refine Wl.guard rfl rfl (fun hb4 => ?_) (fun hb4 => ?_)
      · replace h := h.2 hb4
        refine mvZ (eL (AV.int .i64) o) rfl ?_
        refine Wl.guardT rfl rfl hb4 ?_
        refine mvZ (.int .i64 i) rfl ?_
        refine Wl.guardT rfl rfl hb4 ?_
        refine wZ rg (o_idxL td25 sz3 (by decide) (fun _ => rfl) rfl rfl h.1 ?_)
        replace h := h.2
        refine Wl.guardT rfl rfl hb4 ?_
        refine wZ rg (o_loadI1 sz3 ag3 rfl rfl (v := .int .i64 (at' o i)) rfl ?_)
        refine Wl.guardT rfl rfl hb4 ?_
        refine mvZ (.int .i64 vars) rfl ?_
        refine Wl.guardT rfl rfl hb4 ?_
        refine wZ rg (o_geq rfl rfl (wZ rg (o_pickF rfl hb4 (v := .bool (decide (vars ≤ (at' o i)))) rfl (nZ ?_))))
        refine Vc.cond' rfl (fun hb5 => ?_) (fun hb5 => ?_)
        · replace h := h.1 hb5
          refine qZ (rZ (asZ (.int .i64 3) rfl (nZ ?_)))
          refine Vc.ret' ?_
          refine res_tmp (v := .int .i64 3) rfl (res_nil ?_)
          show Gives _ (.int .i64 3) _
          exact gives_out hrg (VW.refl _) (hQ _ h)
        replace h := h.2 hb5
        refine Vc.skip' ?_
        refine qZ (rZ (asZ (.int .i64 0) rfl (nZ ?_)))
        refine Vc.blk ?_
        obtain ⟨I, μ, h0, hI⟩ := h
        refine Vc.loop' (σ := (Int)) (fun y => I y) (fun y => μ y) (fun y => envOf [(0, eL (AV.int .i64) o), (1, .int .i64 vars), (5, .int .i64 i), (6, .int .i64 y)]) (fun y => stL S rg []) 0 (canon (fc vr (fc vr (fc vr (fc vr (fn))))) (sn)) h0 (fun k1 h => ?_)
        replace h := hI k1 h
        show Vc _ _ _ _ (envOf [(0, eL (AV.int .i64) o), (1, .int .i64 vars), (5, .int .i64 i), (6, .int .i64 k1)]) (stL S rg [])
        refine qZ (qZ (rZ (mvZ (.int .i64 k1) rfl (mvZ (.int .i64 i) rfl (wZ rg (o_lss rfl rfl (nZ ?_)))))))
        refine Vc.cond' rfl (fun hb6 => ?_) (fun hb6 => ?_)
        · replace h := h.1 hb6
          refine Vc.skip' ?_
          refine qZ ?_
          refine Vc.blk ?_
          refine qZ ?_
          have hg := h.1
          replace h := h.2
          have hg1 := h.1
          replace h := h.2
          refine Vc.drawn' mixed rg (fun _ => jcr2) (by kernel_rfl) ?_
          refine dP rfl rfl (o_move (v := eL (AV.int .i64) o) rfl (dP rfl rfl (o_move (v := .int .i64 k1) rfl (dP rfl rfl (o_idxL td25 sz3 (by decide) (fun _ => rfl) rfl rfl hg (dP rfl rfl (o_loadI1 sz3 ag3 rfl rfl (v := .int .i64 (at' o k1)) rfl (dP rfl rfl (o_move (v := eL (AV.int .i64) o) rfl (dP rfl rfl (o_move (v := .int .i64 i) rfl ?_)))))))))))
          refine dP rfl rfl (o_idxL td25 sz3 (by decide) (fun _ => rfl) rfl rfl hg1 (dP rfl rfl (o_loadI1 sz3 ag3 rfl rfl (v := .int .i64 (at' o i)) rfl (dP rfl rfl (o_eql rfl rfl (dN ?_))))))
          refine Vc.cond' rfl (fun hb7 => ?_) (fun hb7 => ?_)
          · replace h := h.1 hb7
            refine qZ (rZ (asZ (.int .i64 6) rfl (nZ ?_)))
            refine Vc.ret' ?_
            refine res_tmp (v := .int .i64 6) rfl (res_nil ?_)
            show Gives _ (.int .i64 6) _
            exact gives_out hrg (VW.refl _) (hQ _ h)
          replace h := h.2 hb7
          refine Vc.skip' ?_
          refine rZ ?_
          refine mvZ (.int .i64 k1) rfl (wZ rg (o_addG rfl rfl h.1 ?_))
          replace h := h.2
          refine asZ (.int .i64 (k1 + 1)) rfl (nZ ?_)
          exact ⟨(k1 + 1), (canon (fc vr (fc vr (fc vr (fc vr (fn))))) (sn)), h⟩
        replace h := h.2 hb6
        refine Vc.exit' (exB_self ?_)
        refine rZ ?_
        refine mvZ (.int .i64 i) rfl (wZ rg (o_addG rfl rfl h.1 ?_))
        replace h := h.2
        refine asZ (.int .i64 (i + 1)) rfl (nZ ?_)
        exact ⟨(i + 1), (canon (fc vr (fc vr (fc vr (fn)))) (sn)), h⟩
      replace h := h.1 hb4
      refine Wl.guardF rfl rfl hb4 rfl ?_
      refine Wl.guardF rfl rfl hb4 rfl ?_
      refine Wl.guardF rfl rfl hb4 rfl ?_
      refine Wl.guardF rfl rfl hb4 rfl ?_
      refine Wl.guardF rfl rfl hb4 rfl ?_
      refine wZ rg (o_pickT rfl hb4 (v := .bool true) rfl (nZ ?_))
      refine Vc.cond' rfl (fun _ => ?_) (fun hb => Bool.noConfusion hb)
      refine qZ (rZ (asZ (.int .i64 3) rfl (nZ ?_)))
      refine Vc.ret' ?_
      refine res_tmp (v := .int .i64 3) rfl (res_nil ?_)
      show Gives _ (.int .i64 3) _
      exact gives_out hrg (VW.refl _) (hQ _ h)
    replace h := h.2 hb3
    refine Vc.exit' (exB_self ?_)
    refine qZ (rZ (asZ (.int .i64 0) rfl (nZ ?_)))
    refine Vc.ret' ?_
    refine res_tmp (v := .int .i64 0) rfl (res_nil ?_)
    show Gives _ (.int .i64 0) _
    exact gives_out hrg (VW.refl _) (hQ _ h)
  replace h := h.1 hb
  refine Wl.guardF rfl rfl hb rfl ?_
  refine wZ rg (o_pickT rfl hb (v := .bool true) rfl (nZ ?_))
  refine Vc.cond' rfl (fun _ => ?_) (fun hb => Bool.noConfusion hb)
  refine qZ (rZ (asZ (.int .i64 3) rfl (nZ ?_)))
  refine Vc.ret' ?_
  refine res_tmp (v := .int .i64 3) rfl (res_nil ?_)
  show Gives _ (.int .i64 3) _
  exact gives_out hrg (VW.refl _) (hQ _ h)
end Go.Proofs.Ytiamkdpljeemkaa
/- Walks of functions. Conditions: none. -/
namespace Go.Proofs.Ytiamkdpljeemkaa
open Go.Gg
set_option maxRecDepth 100000
theorem law14_example_ctr {Q : GFormula → Prop} {S : St} {R : AV → St → Prop} (h : law14_example_W Q) (hQ : ∀ r1, Q r1 → R (eFormula r1) S) :
    Ctr Try.prog 100 [] S R := by
  unfold law14_example_W at h
  refine enterT Try.func100 rfl Try.ntmps100 Try.results100 (by kernel_rfl) (fun rg hrg => ?_)
  refine qZ (rZ (wZ rg (o_alloc zav24 ok24 (kk := 3) rfl (fun g1 => (nZ (qZ (rZ (wZ rg (o_bslice td25 ok3 zav3 (es := [.int .i64 0, .int .i64 2, .int .i64 1]) rfl (kk := 1) rfl rfl rfl rfl rfl rfl (fun g2 => ?_))))))))))
  refine wZ rg (o_build td105 zav105 bok105 szs105 sz105 (ps := [(0, .int .i64 3), (2, .sl 1 rg 1 g2 0 ([0, 2, 1].length))]) rfl rfl (v := .agg [.int .i64 3, .int .i64 0, .sl 1 rg 1 g2 0 ([0, 2, 1].length)]) rfl (wZ rg (o_bslice td25 ok3 zav3 (es := [.int .i64 2, .int .i64 3]) rfl (kk := 1) rfl rfl rfl rfl rfl rfl (fun g3 => ?_))))
  refine wZ rg (o_build td105 zav105 bok105 szs105 sz105 (ps := [(0, .int .i64 2), (2, .sl 1 rg 3 g3 0 ([2, 3].length))]) rfl rfl (v := .agg [.int .i64 2, .int .i64 0, .sl 1 rg 3 g3 0 ([2, 3].length)]) rfl ?_)
  refine Wl.wk (canon_freeze (k := 1) (xs := List.map (AV.int .i64) [0, 2, 1]) rfl (es := [(0, .ptr rg 0 g1 0 0), (2, .agg [.int .i64 3, .int .i64 0, eL (AV.int .i64) [0, 2, 1]]), (4, .agg [.int .i64 2, .int .i64 0, .sl 1 rg 3 g3 0 ([2, 3].length)])]) (fc vr (fc (VW.aggL (vl' vr (vl' vr (vl' (frz_full rfl) (vn))))) (fc (VW.aggL (vl' vr (vl' vr (vl' (frz_ne rfl) (vn))))) (fn)))) (m := [(0, .arr 3 [.agg [.int .i64 0, .nil, .int .i64 0]], g1), (3, .arr 1 (List.map (AV.int .i64) [2, 3]), g3)]) (sc rfl (sc rfl (sn)))) ?_
  refine Wl.wk (canon_freeze (k := 3) (xs := List.map (AV.int .i64) [2, 3]) rfl (es := [(0, .ptr rg 0 g1 0 0), (2, .agg [.int .i64 3, .int .i64 0, eL (AV.int .i64) [0, 2, 1]]), (4, .agg [.int .i64 2, .int .i64 0, eL (AV.int .i64) [2, 3]])]) (fc vr (fc vr (fc (VW.aggL (vl' vr (vl' vr (vl' (frz_full rfl) (vn))))) (fn)))) (m := [(0, .arr 3 [.agg [.int .i64 0, .nil, .int .i64 0]], g1)]) (sc rfl (sn))) ?_
  refine wZ rg (o_bslice td22 ok105 zav105 (es := [.agg [.int .i64 3, .int .i64 0, eL (AV.int .i64) [0, 2, 1]], .agg [.int .i64 2, .int .i64 0, eL (AV.int .i64) [2, 3]]]) rfl (kk := 3) rfl rfl rfl rfl rfl rfl (fun g6 => ?_))
  refine wZ rg (o_build td24 zav24 bok24 szs24 sz24 (ps := [(0, .int .i64 3), (1, .sl 3 rg 5 g6 0 ([(⟨3, 0, [0, 2, 1]⟩ : GNode), (⟨2, 0, [2, 3]⟩ : GNode)].length)), (2, .int .i64 4)]) rfl rfl (v := .agg [.int .i64 3, .sl 3 rg 5 g6 0 ([(⟨3, 0, [0, 2, 1]⟩ : GNode), (⟨2, 0, [2, 3]⟩ : GNode)].length), .int .i64 4]) rfl ?_)
  refine wZ rg (o_storeB (atL (k := 0) rfl) sz24 (by decide) rfl (w := .agg [.int .i64 3, .sl 3 rg 5 g6 0 ([(⟨3, 0, [0, 2, 1]⟩ : GNode), (⟨2, 0, [2, 3]⟩ : GNode)].length), .int .i64 4]) rfl rfl rfl (v := .agg [.int .i64 3, .sl 3 rg 5 g6 0 ([(⟨3, 0, [0, 2, 1]⟩ : GNode), (⟨2, 0, [2, 3]⟩ : GNode)].length), .int .i64 4]) rfl setL (nZ ?_))
  refine Vc.ret' ?_
  refine res_cellA (atL (k := 0) rfl) sz24 (by decide) ag24 rfl rfl (v := .agg [.int .i64 3, .sl 3 rg 5 g6 0 ([(⟨3, 0, [0, 2, 1]⟩ : GNode), (⟨2, 0, [2, 3]⟩ : GNode)].length), .int .i64 4]) rfl (res_nil ?_)
  show Gives _ (.agg [.int .i64 3, .sl 3 rg 5 g6 0 ([(⟨3, 0, [0, 2, 1]⟩ : GNode), (⟨2, 0, [2, 3]⟩ : GNode)].length), .int .i64 4]) _
  refine gives_freeze (k := 5) (xs := List.map eNode [(⟨3, 0, [0, 2, 1]⟩ : GNode), (⟨2, 0, [2, 3]⟩ : GNode)]) rfl (v' := .agg [.int .i64 3, eL eNode [(⟨3, 0, [0, 2, 1]⟩ : GNode), (⟨2, 0, [2, 3]⟩ : GNode)], .int .i64 4]) (VW.aggL (vl' vr (vl' (frz_full rfl) (vl' vr (vn))))) ?_
  exact gives_out hrg (VW.refl _) (hQ _ h)
theorem law14_awake_ctr {Q : Bool → Prop} {S : St} {R : AV → St → Prop} (h : law14_awake_W Q) (hQ : ∀ r1, Q r1 → R (AV.bool r1) S) :
    Ctr Try.prog 46 [] S R := by
  unfold law14_awake_W at h
  refine enterT Try.func46 rfl Try.ntmps46 Try.results46 (by kernel_rfl) (fun rg hrg => ?_)
  refine qZ (rZ (asZ (.bool false) rfl (nZ (qZ (rZ (wZ rg (o_call (us := []) rfl (vn) (law14_example_ctr h fun r h => (wZ rg (o_call (us := [eFormula r]) rfl (vl' vr (vn)) (order_Depth_ctr h fun r1 r2 h => (mvZ (.tuple [eL (AV.int .i64) r1, eErr 73 r2]) rfl (wZ rg (o_extract (v := eL (AV.int .i64) r1) rfl rfl rfl (wZ rg (o_extract (v := eErr 73 r2) rfl rfl rfl (asZ (eL (AV.int .i64) r1) rfl ?_)))))))))))))))))
  refine asZ (eErr 73 r2) rfl (nZ (qZ (rZ (wZ rg (o_call (us := []) rfl (vn) (law14_example_ctr h fun r3 h => (wZ rg (o_call (us := [eFormula r3]) rfl (vl' vr (vn)) (order_Weighted_ctr h fun r4 r5 h => (mvZ (.tuple [eL (AV.int .i64) r4, eErr 73 r5]) rfl (wZ rg (o_extract (v := eL (AV.int .i64) r4) rfl rfl rfl (wZ rg (o_extract (v := eErr 73 r5) rfl rfl rfl (asZ (eL (AV.int .i64) r4) rfl ?_)))))))))))))))
  refine asZ (eErr 73 r5) rfl (nZ (qZ (rZ (wZ rg (o_bslice td25 ok3 zav3 (es := [.int .i64 0, .int .i64 1, .int .i64 2]) rfl (kk := 1) rfl rfl rfl rfl rfl rfl (fun g1 => (wZ rg (o_bslice td25 ok3 zav3 (es := [.int .i64 2, .int .i64 1, .int .i64 0]) rfl (kk := 1) rfl rfl rfl rfl rfl rfl (fun g2 => ?_)))))))))
  refine Wl.wk (canon_freeze (k := 18) (xs := List.map (AV.int .i64) [0, 1, 2]) rfl (es := [(1, eL (AV.int .i64) r1), (2, eErr 73 r2), (3, eL (AV.int .i64) r4), (4, eErr 73 r5), (18, eL (AV.int .i64) [0, 1, 2]), (19, .sl 1 rg 19 g2 0 ([2, 1, 0].length))]) (fc vr (fc (fzE0) (fc vr (fc (fzE0) (fc (frz_full rfl) (fc (frz_ne rfl) (fn))))))) (m := [(19, .arr 1 (List.map (AV.int .i64) [2, 1, 0]), g2)]) (sc rfl (sn))) ?_
  refine Wl.wk (canon_freeze (k := 19) (xs := List.map (AV.int .i64) [2, 1, 0]) rfl (es := [(1, eL (AV.int .i64) r1), (2, eErr 73 r2), (3, eL (AV.int .i64) r4), (4, eErr 73 r5), (18, eL (AV.int .i64) [0, 1, 2]), (19, eL (AV.int .i64) [2, 1, 0])]) (fc vr (fc (fzE0) (fc vr (fc (fzE0) (fc vr (fc (frz_full rfl) (fn))))))) (m := []) (sn)) ?_
  refine wZ rg (o_call (us := [eL (AV.int .i64) [0, 1, 2], eL (AV.int .i64) [2, 1, 0]]) rfl (vl' vr (vl' vr (vn))) (order_Distance_ctr h fun r6 r7 h => (mvZ (.tuple [.int .i64 r6, eErr 73 r7]) rfl (wZ rg (o_extract (v := .int .i64 r6) rfl rfl rfl (wZ rg (o_extract (v := eErr 73 r7) rfl rfl rfl (asZ (.int .i64 r6) rfl (asZ (eErr 73 r7) rfl (nZ (qZ (rZ (mvZ (eErr 73 r2) rfl ?_)))))))))))))
  refine wZ rg (o_isnil td32 (E := 73) rfl rfl rfl (mvZ (.bool (Option.isNone r2)) rfl ?_))
  refine Wl.guard rfl rfl (fun hb => ?_) (fun hb => ?_)
  · replace h := h.1 hb
    refine mvZ (eErr 73 r5) rfl ?_
    refine Wl.guardT rfl rfl hb ?_
    refine wZ rg (o_isnil td32 (E := 73) rfl rfl rfl (wZ rg (o_pickT rfl hb (v := .bool (Option.isNone r5)) rfl (mvZ (.bool (Option.isNone r5)) rfl ?_))))
    refine Wl.guard rfl rfl (fun hb1 => ?_) (fun hb1 => ?_)
    · replace h := h.1 hb1
      refine mvZ (eErr 73 r7) rfl ?_
      refine Wl.guardT rfl rfl hb1 ?_
      refine wZ rg (o_isnil td32 (E := 73) rfl rfl rfl (wZ rg (o_pickT rfl hb1 (v := .bool (Option.isNone r7)) rfl (mvZ (.bool (Option.isNone r7)) rfl ?_))))
      refine Wl.guard rfl rfl (fun hb2 => ?_) (fun hb2 => ?_)
      · replace h := h.1 hb2
        refine mvZ (.int .i64 r6) rfl ?_
        refine Wl.guardT rfl rfl hb2 ?_
        refine wZ rg (o_eql rfl rfl (wZ rg (o_pickT rfl hb2 (v := .bool (r6 == 3)) rfl (mvZ (.bool (r6 == 3)) rfl ?_))))
        refine Wl.guard rfl rfl (fun hb3 => ?_) (fun hb3 => ?_)
        · replace h := h.1 hb3
          refine mvZ (eL (AV.int .i64) r1) rfl ?_
          refine Wl.guardT rfl rfl hb3 ?_
          refine wZ rg (o_bslice td25 ok3 zav3 (es := [.int .i64 2, .int .i64 0, .int .i64 1]) rfl (kk := 1) rfl rfl rfl rfl rfl rfl (fun g3 => ?_))
          refine Wl.guardT rfl rfl hb3 ?_
          refine Wl.wk (canon_freeze (k := 39) (xs := List.map (AV.int .i64) [2, 0, 1]) rfl (es := [(3, eL (AV.int .i64) r4), (37, .bool (r6 == 3)), (38, eL (AV.int .i64) r1), (39, eL (AV.int .i64) [2, 0, 1])]) (fc vr (fc vr (fc vr (fc (frz_full rfl) (fn))))) (m := []) (sn)) ?_
          refine wZ rg (o_call (us := [eL (AV.int .i64) r1, eL (AV.int .i64) [2, 0, 1]]) rfl (vl' vr (vl' vr (vn))) (base_Ints_ctr h fun r8 h => (wZ rg (o_pickT rfl hb3 (v := .bool r8) rfl (mvZ (.bool r8) rfl ?_)))))
          refine Wl.guard rfl rfl (fun hb4 => ?_) (fun hb4 => ?_)
          · replace h := h.1 hb4
            refine mvZ (eL (AV.int .i64) r4) rfl ?_
            refine Wl.guardT rfl rfl hb4 ?_
            refine wZ rg (o_bslice td25 ok3 zav3 (es := [.int .i64 2, .int .i64 0, .int .i64 1]) rfl (kk := 1) rfl rfl rfl rfl rfl rfl (fun g4 => ?_))
            refine Wl.guardT rfl rfl hb4 ?_
            refine Wl.wk (canon_freeze (k := 44) (xs := List.map (AV.int .i64) [2, 0, 1]) rfl (es := [(42, .bool r8), (43, eL (AV.int .i64) r4), (44, eL (AV.int .i64) [2, 0, 1])]) (fc vr (fc vr (fc (frz_full rfl) (fn)))) (m := []) (sn)) ?_
            refine wZ rg (o_call (us := [eL (AV.int .i64) r4, eL (AV.int .i64) [2, 0, 1]]) rfl (vl' vr (vl' vr (vn))) (base_Ints_ctr h fun r9 h => (wZ rg (o_pickT rfl hb4 (v := .bool r9) rfl (asZ (.bool r9) rfl (nZ ?_))))))
            refine Vc.ret' ?_
            refine res_tmp (v := .bool r9) rfl (res_nil ?_)
            show Gives _ (.bool r9) _
            exact gives_out hrg (VW.refl _) (hQ _ h)
          replace h := h.2 hb4
          refine Wl.guardF rfl rfl hb4 rfl ?_
          refine Wl.guardF rfl rfl hb4 rfl ?_
          refine wZ rg (o_pickF rfl hb4 (v := .bool false) rfl (asZ (.bool false) rfl (nZ ?_)))
          refine Vc.ret' ?_
          refine res_tmp (v := .bool false) rfl (res_nil ?_)
          show Gives _ (.bool false) _
          exact gives_out hrg (VW.refl _) (hQ _ h)
        replace h := h.2 hb3
        refine Wl.guardF rfl rfl hb3 rfl ?_
        refine Wl.guardF rfl rfl hb3 rfl ?_
        refine wZ rg (o_pickF rfl hb3 (v := .bool false) rfl (mvZ (.bool false) rfl ?_))
        refine Wl.guardF rfl rfl rfl rfl ?_
        refine Wl.guardF rfl rfl rfl rfl ?_
        refine Wl.guardF rfl rfl rfl rfl ?_
        refine wZ rg (o_pickF rfl rfl (v := .bool false) rfl (asZ (.bool false) rfl (nZ ?_)))
        refine Vc.ret' ?_
        refine res_tmp (v := .bool false) rfl (res_nil ?_)
        show Gives _ (.bool false) _
        exact gives_out hrg (VW.refl _) (hQ _ h)
      replace h := h.2 hb2
      refine Wl.guardF rfl rfl hb2 rfl ?_
      refine wZ rg (o_pickF rfl hb2 (v := .bool false) rfl (mvZ (.bool false) rfl ?_))
      refine Wl.guardF rfl rfl rfl rfl ?_
      refine Wl.guardF rfl rfl rfl rfl ?_
      refine Wl.guardF rfl rfl rfl rfl ?_
      refine wZ rg (o_pickF rfl rfl (v := .bool false) rfl (mvZ (.bool false) rfl ?_))
      refine Wl.guardF rfl rfl rfl rfl ?_
      refine Wl.guardF rfl rfl rfl rfl ?_
      refine Wl.guardF rfl rfl rfl rfl ?_
      refine wZ rg (o_pickF rfl rfl (v := .bool false) rfl (asZ (.bool false) rfl (nZ ?_)))
      refine Vc.ret' ?_
      refine res_tmp (v := .bool false) rfl (res_nil ?_)
      show Gives _ (.bool false) _
      exact gives_out hrg (VW.refl _) (hQ _ h)
    replace h := h.2 hb1
    refine Wl.guardF rfl rfl hb1 rfl ?_
    refine wZ rg (o_pickF rfl hb1 (v := .bool false) rfl (mvZ (.bool false) rfl ?_))
    refine Wl.guardF rfl rfl rfl rfl ?_
    refine Wl.guardF rfl rfl rfl rfl ?_
    refine wZ rg (o_pickF rfl rfl (v := .bool false) rfl (mvZ (.bool false) rfl ?_))
    refine Wl.guardF rfl rfl rfl rfl ?_
    refine Wl.guardF rfl rfl rfl rfl ?_
    refine Wl.guardF rfl rfl rfl rfl ?_
    refine wZ rg (o_pickF rfl rfl (v := .bool false) rfl (mvZ (.bool false) rfl ?_))
    refine Wl.guardF rfl rfl rfl rfl ?_
    refine Wl.guardF rfl rfl rfl rfl ?_
    refine Wl.guardF rfl rfl rfl rfl ?_
    refine wZ rg (o_pickF rfl rfl (v := .bool false) rfl (asZ (.bool false) rfl (nZ ?_)))
    refine Vc.ret' ?_
    refine res_tmp (v := .bool false) rfl (res_nil ?_)
    show Gives _ (.bool false) _
    exact gives_out hrg (VW.refl _) (hQ _ h)
  replace h := h.2 hb
  refine Wl.guardF rfl rfl hb rfl ?_
  refine wZ rg (o_pickF rfl hb (v := .bool false) rfl (mvZ (.bool false) rfl ?_))
  refine Wl.guardF rfl rfl rfl rfl ?_
  refine Wl.guardF rfl rfl rfl rfl ?_
  refine wZ rg (o_pickF rfl rfl (v := .bool false) rfl (mvZ (.bool false) rfl ?_))
  refine Wl.guardF rfl rfl rfl rfl ?_
  refine Wl.guardF rfl rfl rfl rfl ?_
  refine wZ rg (o_pickF rfl rfl (v := .bool false) rfl (mvZ (.bool false) rfl ?_))
  refine Wl.guardF rfl rfl rfl rfl ?_
  refine Wl.guardF rfl rfl rfl rfl ?_
  refine Wl.guardF rfl rfl rfl rfl ?_
  refine wZ rg (o_pickF rfl rfl (v := .bool false) rfl (mvZ (.bool false) rfl ?_))
  refine Wl.guardF rfl rfl rfl rfl ?_
  refine Wl.guardF rfl rfl rfl rfl ?_
  refine Wl.guardF rfl rfl rfl rfl ?_
  refine wZ rg (o_pickF rfl rfl (v := .bool false) rfl (asZ (.bool false) rfl (nZ ?_)))
  refine Vc.ret' ?_
  refine res_tmp (v := .bool false) rfl (res_nil ?_)
  show Gives _ (.bool false) _
  exact gives_out hrg (VW.refl _) (hQ _ h)
theorem law14_valid_ctr {o : List Int} {Q : Bool → Prop} {S : St} {R : AV → St → Prop} (h : law14_valid_W o Q) (hQ : ∀ r1, Q r1 → R (AV.bool r1) S) :
    Ctr Try.prog 47 [eL (AV.int .i64) o] S R := by
  unfold law14_valid_W at h
  refine enterT Try.func47 rfl Try.ntmps47 Try.results47 (by kernel_rfl) (fun rg hrg => ?_)
  refine qZ (rZ (asZ (.bool false) rfl (nZ (qZ (rZ (mvZ (eL (AV.int .i64) o) rfl (wZ rg (o_len td25 rfl (wZ rg (o_leq rfl rfl (mvZ (.bool (decide ((o.length : Int) ≤ 24))) rfl ?_)))))))))))
  refine Wl.guard rfl rfl (fun hb => ?_) (fun hb => ?_)
  · replace h := h.1 hb
    refine mvZ (eL (AV.int .i64) o) rfl ?_
    refine Wl.guardT rfl rfl hb ?_
    refine mvZ (eL (AV.int .i64) o) rfl ?_
    refine Wl.guardT rfl rfl hb ?_
    refine wZ rg (o_len td25 rfl ?_)
    refine Wl.guardT rfl rfl hb ?_
    refine wZ rg (o_call (us := [eL (AV.int .i64) o, AV.int .i64 (o.length : Int)]) rfl (vl' vr (vl' vr (vn))) (ref14_Check_ctr h fun r h => ?_))
    refine Wl.guardT rfl rfl hb ?_
    refine wZ rg (o_eql rfl rfl (wZ rg (o_pickT rfl hb (v := .bool (r == 0)) rfl (asZ (.bool (r == 0)) rfl (nZ ?_)))))
    refine Vc.ret' ?_
    refine res_tmp (v := .bool (r == 0)) rfl (res_nil ?_)
    show Gives _ (.bool (r == 0)) _
    exact gives_out hrg (VW.refl _) (hQ _ h)
  replace h := h.2 hb
  refine Wl.guardF rfl rfl hb rfl ?_
  refine Wl.guardF rfl rfl hb rfl ?_
  refine Wl.guardF rfl rfl hb rfl ?_
  refine Wl.guardF rfl rfl hb rfl ?_
  refine wZ rg (o_pickF rfl hb (v := .bool false) rfl (asZ (.bool false) rfl (nZ ?_)))
  refine Vc.ret' ?_
  refine res_tmp (v := .bool false) rfl (res_nil ?_)
  show Gives _ (.bool false) _
  exact gives_out hrg (VW.refl _) (hQ _ h)
end Go.Proofs.Ytiamkdpljeemkaa
