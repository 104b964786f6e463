/- Walks of functions. Conditions: none. -/
import Derived.Test.YtiamkdpljeemkaaWa
import Derived.Test.YtiamkdpljeemkaaGgTy
import Derived.Test.YtiamkdpljeemkaaGd
import Derived.Test.YtiamkdpljeemkaaK5
/- Walks of functions. Conditions: none. -/
namespace Go.Proofs.Ytiamkdpljeemkaa
open Go.Gg
set_option maxRecDepth 100000
theorem ref17_Moved_ctr {o : List Int} {event : Int} {place : Int} {Q : List Int → Prop} {S : St} {R : AV → St → Prop} (h : ref17_Moved_W o event place Q) (hQ : ∀ r1, Q r1 → R (eL (AV.int .i64) r1) S) :
    Ctr Try.prog 104 [eL (AV.int .i64) o, AV.int .i64 event, AV.int .i64 place] S R := by
  unfold ref17_Moved_W at h
  refine enterT Try.func104 rfl Try.ntmps104 Try.results104 (by kernel_rfl) (fun rg hrg => ?_)
  refine qZ (rZ (asZ .nil rfl (nZ (qZ (rZ (asZ .nil rfl (asZ .nil rfl (nZ (qZ (qZ (rZ (asZ (.int .i64 0) rfl (nZ ?_)))))))))))))
  refine Vc.blk ?_
  refine Vc.mat 7 28 1 rfl (by decide) (fun g1 => ?_)
  obtain ⟨I, μ, h0, hI⟩ := h
  refine Vc.loop' (σ := ((Int × (List Int)) × (Nat))) (fun y => I y.1) (fun y => μ y.1) (fun y => envOf [(0, eL (AV.int .i64) o), (1, .int .i64 event), (2, .int .i64 place), (7, .sl 1 rg 28 y.2 0 y.1.2.length), (8, .nil), (9, .int .i64 y.1.1)]) (fun y => stL S rg [(28, .arr 1 (List.map (AV.int .i64) y.1.2), y.2)]) ((0, []), g1) (canon (fc vr (fc vr (fc vr (fc (VW.slen (by first | rfl | omega | (simp only [go_sem] <;> omega))) (fc vr (fc vr (fn))))))) (sc rfl (sn))) h0 (fun y h => ?_)
  obtain ⟨⟨i, rest⟩, g2⟩ := y
  replace h := hI (i, rest) h
  show Vc _ _ _ _ (envOf [(0, eL (AV.int .i64) o), (1, .int .i64 event), (2, .int .i64 place), (7, .sl 1 rg 28 g2 0 rest.length), (8, .nil), (9, .int .i64 i)]) (stL S rg [(28, .arr 1 (List.map (AV.int .i64) rest), g2)])
  refine qZ (qZ (rZ (mvZ (.int .i64 i) rfl (mvZ (eL (AV.int .i64) o) rfl (wZ rg (o_len td25 rfl (wZ rg (o_lss rfl rfl (nZ ?_)))))))))
  refine Vc.cond' rfl (fun hb => ?_) (fun hb => ?_)
  · replace h := h.1 hb
    refine Vc.skip' ?_
    refine qZ ?_
    refine Vc.blk ?_
    refine qZ (rZ (mvZ (eL (AV.int .i64) o) rfl (mvZ (.int .i64 i) rfl (wZ rg (o_idxL td25 sz3 (by decide) (fun _ => rfl) rfl rfl h.1 ?_)))))
    replace h := h.2
    refine wZ rg (o_loadI1 sz3 ag3 rfl rfl (v := .int .i64 (at' o i)) rfl (mvZ (.int .i64 event) rfl (wZ rg (o_neq rfl rfl (nZ ?_)))))
    refine Vc.cond' rfl (fun hb1 => ?_) (fun hb1 => ?_)
    · replace h := h.1 hb1
      refine rZ ?_
      refine mvZ (.sl 1 rg 28 g2 0 rest.length) rfl (mvZ (eL (AV.int .i64) o) rfl (mvZ (.int .i64 i) rfl (wZ rg (o_idxL td25 sz3 (by decide) (fun _ => rfl) rfl rfl h.1 ?_))))
      replace h := h.2
      refine wZ rg (o_loadI1 sz3 ag3 rfl rfl (v := .int .i64 (at' o i)) rfl (wZ rg (o_bslice td25 ok3 zav3 (es := [.int .i64 (at' o i)]) rfl (kk := 1) rfl rfl rfl rfl rfl rfl (fun g3 => ?_))))
      refine wZ rg (o_appR td25 bts3 ok3 zav3 (es := rest) (xs := [(at' o i)]) (enc := AV.int .i64) (atL (k := 28) rfl) (by first | rfl | omega | (simp only [go_sem] <;> omega)) (view_rowE (atL (k := 27) rfl) (by first | rfl | omega | (simp only [go_sem] <;> omega))) (kk := 1) rfl rfl (fun _ => rfl) (fun _ => rfl) h.1 rfl (fun _ => setL) (fun g4 => ?_))
      replace h := h.2
      refine asZ (.sl 1 rg 28 g4 0 ((rest ++ [(at' o i)]).length)) rfl (nZ (rZ (mvZ (.int .i64 i) rfl (wZ rg (o_addG rfl rfl h.1 ?_)))))
      replace h := h.2
      refine asZ (.int .i64 (i + 1)) rfl (nZ ?_)
      exact ⟨(((i + 1), (rest ++ [(at' o i)])), g4), (canon (fc vr (fc vr (fc vr (fc vr (fc vr (fc vr (fn))))))) (sc rfl (sn))), h⟩
    replace h := h.2 hb1
    refine Vc.skip' ?_
    refine rZ ?_
    refine mvZ (.int .i64 i) rfl (wZ rg (o_addG rfl rfl h.1 ?_))
    replace h := h.2
    refine asZ (.int .i64 (i + 1)) rfl (nZ ?_)
    exact ⟨(((i + 1), rest), g2), (canon (fc vr (fc vr (fc vr (fc vr (fc vr (fc vr (fn))))))) (sc rfl (sn))), h⟩
  replace h := h.2 hb
  refine Vc.exit' (exB_self ?_)
  refine qZ (rZ (mvZ .nil rfl (mvZ (.sl 1 rg 28 g2 0 rest.length) rfl (mvZ (.int .i64 place) rfl (wZ rg (o_sliceH td25 sz3 (by decide) rfl (h := place) rfl h.1 ?_))))))
  have hsl := h.1
  replace h := h.2
  refine wZ rg (o_appN td25 bts3 ok3 zav3 (xs := (List.take (Int.toNat place) (List.drop 0 rest))) (enc := AV.int .i64) (view_rowP (atL (k := 28) rfl) (by first | rfl | omega | (simp only [go_sem] <;> omega))) (kk := 1) rfl rfl (fun _ => rfl) (fun _ => rfl) h.1 rfl (fun g5 => ?_))
  replace h := h.2
  refine asZ (.sl 1 rg 33 g5 0 ((List.take (Int.toNat place) (List.drop 0 rest)).length)) rfl (nZ (qZ (rZ (mvZ (.sl 1 rg 33 g5 0 ((List.take (Int.toNat place) (List.drop 0 rest)).length)) rfl (mvZ (.int .i64 event) rfl (wZ rg (o_bslice td25 ok3 zav3 (es := [.int .i64 event]) rfl (kk := 1) rfl rfl rfl rfl rfl rfl (fun g6 => ?_))))))))
  refine wZ rg (o_appR td25 bts3 ok3 zav3 (es := (List.take (Int.toNat place) (List.drop 0 rest))) (xs := [event]) (enc := AV.int .i64) (atL (k := 33) rfl) (by first | rfl | omega | (simp only [go_sem] <;> omega)) (view_rowE (atL (k := 36) rfl) (by first | rfl | omega | (simp only [go_sem] <;> omega))) (kk := 1) rfl rfl (fun _ => rfl) (fun _ => rfl) h.1 rfl (fun _ => setL) (fun g7 => ?_))
  replace h := h.2
  refine asZ (.sl 1 rg 33 g7 0 (((List.take (Int.toNat place) (List.drop 0 rest)) ++ [event]).length)) rfl (nZ (qZ (rZ (mvZ (.sl 1 rg 33 g7 0 (((List.take (Int.toNat place) (List.drop 0 rest)) ++ [event]).length)) rfl (mvZ (.sl 1 rg 28 g2 0 rest.length) rfl (mvZ (.int .i64 place) rfl (wZ rg (o_sliceR td25 sz3 (by decide) rfl (l := place) (h := (rest.length : Int)) rfl rfl h.1 ?_))))))))
  have hsl1 := h.1
  replace h := h.2
  refine wZ rg (o_appR td25 bts3 ok3 zav3 (es := ((List.take (Int.toNat place) (List.drop 0 rest)) ++ [event])) (xs := (List.take (Int.toNat (rest.length : Int) - Int.toNat place) (List.drop (0 + Int.toNat place) rest))) (enc := AV.int .i64) (atL (k := 33) rfl) (by first | rfl | omega | (simp only [go_sem] <;> omega)) (view_rowP (atL (k := 28) rfl) (by first | rfl | omega | (simp only [go_sem] <;> omega))) (kk := 1) rfl rfl (fun _ => rfl) (fun _ => rfl) h.1 rfl (fun _ => setL) (fun g8 => ?_))
  replace h := h.2
  refine asZ (.sl 1 rg 33 g8 0 ((((List.take (Int.toNat place) (List.drop 0 rest)) ++ [event]) ++ (List.take (Int.toNat (rest.length : Int) - Int.toNat place) (List.drop (0 + Int.toNat place) rest))).length)) rfl (nZ ?_)
  refine Vc.ret' ?_
  refine res_tmp (v := .sl 1 rg 33 g8 0 ((((List.take (Int.toNat place) (List.drop 0 rest)) ++ [event]) ++ (List.take (Int.toNat (rest.length : Int) - Int.toNat place) (List.drop (0 + Int.toNat place) rest))).length)) rfl (res_nil ?_)
  show Gives _ (.sl 1 rg 33 g8 0 ((((List.take (Int.toNat place) (List.drop 0 rest)) ++ [event]) ++ (List.take (Int.toNat (rest.length : Int) - Int.toNat place) (List.drop (0 + Int.toNat place) rest))).length)) _
  refine gives_freeze (k := 33) (xs := List.map (AV.int .i64) (((List.take (Int.toNat place) (List.drop 0 rest)) ++ [event]) ++ (List.take (Int.toNat (rest.length : Int) - Int.toNat place) (List.drop (0 + Int.toNat place) rest)))) rfl (v' := eL (AV.int .i64) (((List.take (Int.toNat place) (List.drop 0 rest)) ++ [event]) ++ (List.take (Int.toNat (rest.length : Int) - Int.toNat place) (List.drop (0 + Int.toNat place) rest)))) (frz_full rfl) ?_
  exact gives_out hrg (VW.refl _) (hQ _ h)
theorem ref17_Move_ctr {d : GDiagram} {event : Int} {place : Int} {Q : GDiagram → Prop} {S : St} {R : AV → St → Prop} (h : ref17_Move_W d event place Q) (hQ : ∀ r1, Q r1 → R (eDiagram r1) S) :
    Ctr Try.prog 64 [eDiagram d, AV.int .i64 event, AV.int .i64 place] S R := by
  unfold ref17_Move_W at h
  refine enterT Try.func64 rfl Try.ntmps64 Try.results64 (by kernel_rfl) (fun rg hrg => ?_)
  refine qZ (rZ (wZ rg (o_box (v := eDiagram d) rfl rfl (kk := 3) rfl (by decide) (fun g1 => (wZ rg (o_alloc zav30 ok30 (kk := 3) rfl (fun g2 => (nZ (qZ ?_)))))))))
  obtain ⟨r, hc, h⟩ := h
  obtain ⟨r1, hc1, h⟩ := h
  refine Vc.drawn' mixed rg (usOf [(5, pc (eL (AV.int .i64) r)), (6, pc (eDiagram r1))]) (by kernel_rfl) ?_
  refine dL (E := ([(rg, 3)], [])) rfl rfl (by simp) (cfn) (o_loadBA (atL (k := 3) rfl) sz30 (by decide) ag30 rfl rfl (v := eDiagram d) rfl (dP rfl rfl (o_faP td30 rfl rfl (by rw [sz25]; decide) rfl (dL (E := ([(rg, 3)], [])) rfl rfl (by simp) (cfa (by simp [apartE]) (cfn)) (o_loadB1 (atL (k := 3) rfl) sz25 ag25 rfl rfl (v := eL (AV.int .i64) d.Order) rfl (dP rfl rfl (o_move (v := .int .i64 event) rfl ?_)))))))
  refine dP rfl rfl (o_move (v := .int .i64 place) rfl ?_)
  refine dC (vs := [eL (AV.int .i64) d.Order, AV.int .i64 event, AV.int .i64 place]) rfl (vl' vr (vl' vr (vl' vr (vn)))) (fun _ => ref17_Moved_ctr hc (fun _ hr => ⟨by rw [hr], rfl⟩)) rfl ?_
  refine dC (vs := [eDiagram d, eL (AV.int .i64) r]) rfl (vl' vr (vl' vr (vn))) (fun _ => ref17_Reorder_ctr hc1 (fun _ hr => ⟨by rw [hr], rfl⟩)) rfl ?_
  refine dL (E := ([], [(rg, 6)])) rfl rfl (by simp) (cfo (by kernel_rfl) (cfo (by kernel_rfl) (cfn))) (o_storeB (atL (k := 6) rfl) sz30 (by decide) rfl (w := eDiagram r1) rfl rfl rfl (v := eDiagram r1) rfl setL (dN ?_))
  refine Vc.ret' ?_
  refine res_cellA (atL (k := 6) rfl) sz30 (by decide) ag30 rfl rfl (v := eDiagram r1) rfl (res_nil ?_)
  show Gives _ (eDiagram r1) _
  exact gives_out hrg (VW.refl _) (hQ _ h)
end Go.Proofs.Ytiamkdpljeemkaa
