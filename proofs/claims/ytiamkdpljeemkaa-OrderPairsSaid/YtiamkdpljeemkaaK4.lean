/- Walks of functions. Conditions: none. -/
import Derived.Test.YtiamkdpljeemkaaWa
import Derived.Test.YtiamkdpljeemkaaGgTy
import Derived.Test.YtiamkdpljeemkaaGd
import Derived.Test.YtiamkdpljeemkaaK2
/- Walks of functions. Conditions: none. -/
namespace Go.Proofs.Ytiamkdpljeemkaa
open Go.Gg
set_option maxRecDepth 100000
theorem order_Exchange_ctr {o : List Int} {level : Int} {Q : List Int → Option Int → Prop} {S : St} {R : AV → St → Prop} (h : order_Exchange_W o level Q) (hQ : ∀ r1 r2, Q r1 r2 → R (.tuple [eL (AV.int .i64) r1, eErr 73 r2]) S) :
    Ctr Try.prog 57 [eL (AV.int .i64) o, AV.int .i64 level] S R := by
  unfold order_Exchange_W at h
  refine enterT Try.func57 rfl Try.ntmps57 Try.results57 (by kernel_rfl) (fun rg hrg => ?_)
  refine qZ (rZ (asZ .nil rfl (asZ .niface rfl (nZ (qZ (qZ (rZ (mvZ (eL (AV.int .i64) o) rfl (mvZ (eL (AV.int .i64) o) rfl (wZ rg (o_len td25 rfl (wZ rg (o_call (us := [eL (AV.int .i64) o, AV.int .i64 (o.length : Int)]) rfl (vl' vr (vl' vr (vn))) (order_Check_ctr h fun err h => (asZ (eErr 73 err) rfl (nZ (qZ (rZ (mvZ (eErr 73 err) rfl (wZ rg (o_isnon td32 (E := 73) rfl rfl rfl (nZ ?_))))))))))))))))))))))
  refine Vc.cond' rfl (fun hb => ?_) (fun hb => ?_)
  · replace h := h.1 hb
    refine qZ (rZ (mvZ (eErr 73 err) rfl (asZ .nil rfl (asZ (eErr 73 err) rfl (nZ ?_)))))
    refine Vc.ret' ?_
    refine res_tmp (v := .nil) rfl (res_tmp (v := eErr 73 err) rfl (res_nil ?_))
    show Gives _ (.tuple [.nil, eErr 73 err]) _
    exact gives_out hrg (VW.tupL (vl' (VW.nilL) (vl' vr (vn)))) (hQ _ _ h)
  replace h := h.2 hb
  refine Vc.skip' ?_
  refine qZ ?_
  obtain ⟨J, h, hJ⟩ := h
  refine Vc.join' (σ := (Bool)) (fun y => J y) (fun y => envOf [(0, eL (AV.int .i64) o), (1, .int .i64 level), (23, .bool y)]) (fun y => stL S rg []) (fun x h => ?_) ?_
  · replace h := hJ x h
    show Vc _ _ _ _ (envOf [(0, eL (AV.int .i64) o), (1, .int .i64 level), (23, .bool x)]) (stL S rg [])
    refine Vc.cond' rfl (fun hb1 => ?_) (fun hb1 => ?_)
    · replace h := h.1 hb1
      refine qZ (rZ (wZ rg (o_iface (by rw [td73]; trivial) (v := .int .i64 10) rfl (asZ .nil rfl (asZ (.iface 73 (.int .i64 10)) rfl (nZ ?_))))))
      refine Vc.ret' ?_
      refine res_tmp (v := .nil) rfl (res_tmp (v := .iface 73 (.int .i64 10)) rfl (res_nil ?_))
      show Gives _ (.tuple [.nil, .iface 73 (.int .i64 10)]) _
      exact gives_out hrg (VW.tupL (vl' (VW.nilL) (vl' vr (vn)))) (hQ _ _ h)
    replace h := h.2 hb1
    refine Vc.skip' ?_
    refine qZ (rZ (mvZ (eL (AV.int .i64) o) rfl (wZ rg (o_len td25 rfl (wZ rg (o_make td25 bts3 ok3 (enc := AV.int .i64) (z' := 0) zav3 (kk := 1) rfl rfl rfl h.1 (fun g1 => ?_)))))))
    replace h := h.2
    refine asZ (.sl 1 rg 27 g1 0 (Int.toNat (o.length : Int))) rfl (nZ (qZ (rZ (mvZ (.sl 1 rg 27 g1 0 (Int.toNat (o.length : Int))) rfl (mvZ (eL (AV.int .i64) o) rfl ?_)))))
    refine Wl.copy td25 sz3 (fun _ => rfl) (fun _ => rfl) rfl (by first | rfl | omega | (simp only [go_sem] <;> omega)) rfl (by first | rfl | omega | (simp only [go_sem] <;> omega)) (atL (k := 27) rfl) setL ?_
    refine nZ (qZ ?_)
    have hg := h.1
    replace h := h.2
    have hg1 := h.1
    replace h := h.2
    have hi := h.1
    replace h := h.2
    have hi1 := h.1
    replace h := h.2
    have hi2 := h.1
    replace h := h.2
    have hi3 := h.1
    replace h := h.2
    refine Vc.drawn' mixed rg (fun _ => jcr2) (by kernel_rfl) ?_
    refine dP rfl rfl (o_move (v := .sl 1 rg 27 g1 0 (Int.toNat (o.length : Int))) rfl (dP rfl rfl (o_move (v := .int .i64 level) rfl (dP rfl rfl (o_move (v := .sl 1 rg 27 g1 0 (Int.toNat (o.length : Int))) rfl (dP rfl rfl (o_move (v := .int .i64 level) rfl (dP rfl rfl (o_addG rfl rfl hg (dP rfl rfl (o_move (v := .sl 1 rg 27 g1 0 (Int.toNat (o.length : Int))) rfl ?_)))))))))))
    refine dP rfl rfl (o_move (v := .int .i64 level) rfl (dP rfl rfl (o_addG rfl rfl hg1 (dP rfl rfl (o_idxR0 td25 sz3 (by decide) rfl rfl hi (dL (E := ([(rg, 27)], [])) rfl rfl (by simp) (cfn) (o_loadR1 (atL (k := 27) rfl) sz3 ag3 rfl (lt_of hi (by first | rfl | omega | (simp only [go_sem] <;> omega))) rfl (v := .int .i64 (at' o (level + 1))) rfl ?_)))))))
    refine dP rfl rfl (o_move (v := .sl 1 rg 27 g1 0 (Int.toNat (o.length : Int))) rfl (dP rfl rfl (o_move (v := .int .i64 level) rfl (dP rfl rfl (o_idxR0 td25 sz3 (by decide) rfl rfl hi1 ?_)))))
    refine dL (E := ([(rg, 27)], [])) rfl rfl (by simp) (cfa (by simp [apartE]) (cfn)) (o_loadR1 (atL (k := 27) rfl) sz3 ag3 rfl (lt_of hi1 (by first | rfl | omega | (simp only [go_sem] <;> omega))) rfl (v := .int .i64 (at' o level)) rfl (dP rfl rfl (o_idxR0 td25 sz3 (by decide) rfl rfl hi2 ?_)))
    refine dL (E := ([], [(rg, 27)])) rfl rfl (by simp) (cfo (by kernel_rfl) (cfo (by kernel_rfl) (cfn))) (o_storeR1 (atL (k := 27) rfl) sz3 (by decide) (x' := (at' o (level + 1))) (fun _ => rfl) rfl rfl (lt_of hi2 (by first | rfl | omega | (simp only [go_sem] <;> omega))) rfl rfl setL (dP rfl rfl (o_idxR0 td25 sz3 (by decide) rfl rfl hi3 ?_)))
    refine dL (E := ([], [(rg, 27)])) rfl rfl (by simp) (cfo (by kernel_rfl) (cfo (by kernel_rfl) (cfo (by kernel_rfl) (cfn)))) (o_storeR1 (atL (k := 27) rfl) sz3 (by decide) (x' := (at' o level)) (fun _ => rfl) rfl rfl (lt_of hi3 (by first | rfl | omega | (simp only [go_sem] <;> omega))) rfl rfl setL (dN (qZ (rZ (mvZ (.sl 1 rg 27 g1 0 (Int.toNat (o.length : Int))) rfl ?_)))))
    refine asZ (.sl 1 rg 27 g1 0 (Int.toNat (o.length : Int))) rfl (asZ .niface rfl (nZ ?_))
    refine Vc.ret' ?_
    refine res_tmp (v := .sl 1 rg 27 g1 0 (Int.toNat (o.length : Int))) rfl (res_tmp (v := .niface) rfl (res_nil ?_))
    show Gives _ (.tuple [.sl 1 rg 27 g1 0 (Int.toNat (o.length : Int)), .niface]) _
    refine gives_freeze (k := 27) (xs := List.map (AV.int .i64) (set' (set' o level (at' o (level + 1))) (level + 1) (at' o level))) rfl (v' := .tuple [eL (AV.int .i64) (set' (set' o level (at' o (level + 1))) (level + 1) (at' o level)), .niface]) (VW.tupL (vl' (frz_full (by first | rfl | omega | (simp only [go_sem] <;> omega))) (vl' vr (vn)))) ?_
    exact gives_out hrg (VW.tupL (vl' vr (vl' vr (vn)))) (hQ _ _ h)
  refine rZ ?_
  refine mvZ (.int .i64 level) rfl (wZ rg (o_lss rfl rfl (mvZ (.bool (decide (level < 0))) rfl ?_)))
  refine Wl.guard rfl rfl (fun hb2 => ?_) (fun hb2 => ?_)
  · replace h := h.2 hb2
    refine mvZ (.int .i64 level) rfl ?_
    refine Wl.guardT rfl rfl hb2 ?_
    refine mvZ (eL (AV.int .i64) o) rfl ?_
    refine Wl.guardT rfl rfl hb2 ?_
    refine wZ rg (o_len td25 rfl ?_)
    refine Wl.guardT rfl rfl hb2 ?_
    refine wZ rg (o_subG rfl rfl h.1 ?_)
    replace h := h.2
    refine Wl.guardT rfl rfl hb2 ?_
    refine wZ rg (o_gtr rfl rfl (wZ rg (o_pickF rfl hb2 (v := .bool (decide (((o.length : Int) - 2) < level))) rfl (nZ ?_))))
    exact ⟨(decide (((o.length : Int) - 2) < level)), (canon (fc vr (fc vr (fc vr (fn)))) (sn)), h⟩
  replace h := h.1 hb2
  refine Wl.guardF rfl rfl hb2 rfl ?_
  refine Wl.guardF rfl rfl hb2 rfl ?_
  refine Wl.guardF rfl rfl hb2 rfl ?_
  refine Wl.guardF rfl rfl hb2 rfl ?_
  refine wZ rg (o_pickT rfl hb2 (v := .bool true) rfl (nZ ?_))
  exact ⟨true, (canon (fc vr (fc vr (fc vr (fn)))) (sn)), h⟩
end Go.Proofs.Ytiamkdpljeemkaa
