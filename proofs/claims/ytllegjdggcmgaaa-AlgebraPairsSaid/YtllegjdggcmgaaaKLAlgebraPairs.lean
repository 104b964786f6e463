/- Walks of functions. Conditions: none. -/
import Derived.Test.YtllegjdggcmgaaaWa
import Derived.Test.YtllegjdggcmgaaaGgTy
import Derived.Test.YtllegjdggcmgaaaK1
import Derived.Test.YtllegjdggcmgaaaK3
import Derived.Test.YtllegjdggcmgaaaK4
/- Walks of functions. Conditions: none. -/
namespace Go.Proofs.Ytllegjdggcmgaaa
open Go.Gg
set_option maxRecDepth 100000
set_option maxHeartbeats 4000000 in
theorem law16_AlgebraPairs_ctr {a : GDiagram} {b : GDiagram} {Q : Bool → Prop} {S : St} {R : AV → St → Prop} (h : law16_AlgebraPairs_W a b Q) (hQ : ∀ r1, Q r1 → R (AV.bool r1) S) :
    Ctr Try.prog 5 [eDiagram a, eDiagram b] S R := by
  unfold law16_AlgebraPairs_W at h
  refine enterT Try.func5 rfl Try.ntmps5 Try.results5 (by kernel_rfl) (fun rg hrg => ?_)
  refine qZ (rZ (wZ rg (o_box (v := eDiagram a) rfl rfl (kk := 3) rfl (by decide) (fun g1 => (wZ rg (o_box (v := eDiagram b) rfl rfl (kk := 3) rfl (by decide) (fun g2 => (asZ (.bool false) rfl (nZ (qZ ?_))))))))))
  obtain ⟨J, h, hJ⟩ := h
  refine Vc.join' (σ := ((Bool) × (Nat × Nat))) (fun y => J y.1) (fun y => envOf [(2, .ptr rg 2 y.2.1 0 0), (3, .ptr rg 3 y.2.2 0 0), (23, .bool y.1)]) (fun y => stL S rg [(2, .arr 3 [eDiagram a], y.2.1), (3, .arr 3 [eDiagram b], y.2.2)]) (fun y h => ?_) ?_
  · obtain ⟨x, ⟨g3, g4⟩⟩ := y
    replace h := hJ x h
    show Vc _ _ _ _ (envOf [(2, .ptr rg 2 g3 0 0), (3, .ptr rg 3 g4 0 0), (23, .bool x)]) (stL S rg [(2, .arr 3 [eDiagram a], g3), (3, .arr 3 [eDiagram b], g4)])
    refine Vc.cond' rfl (fun hb => ?_) (fun hb => ?_)
    · replace h := h.1 hb
      refine qZ (rZ (wZ rg (o_call (us := []) rfl (vn) (law16_awake_ctr h fun r h => (asZ (.bool r) rfl (nZ ?_))))))
      refine Vc.ret' ?_
      refine res_tmp (v := .bool r) rfl (res_nil ?_)
      show Gives _ (.bool r) _
      exact gives_out hrg (VW.refl _) (hQ _ h)
    replace h := h.2 hb
    refine Vc.skip' ?_
    refine qZ (rZ (wZ rg (o_loadBA (atL (k := 2) rfl) sz25 (by decide) ag25 rfl rfl (v := eDiagram a) rfl (wZ rg (o_loadBA (atL (k := 3) rfl) sz25 (by decide) ag25 rfl rfl (v := eDiagram b) rfl (wZ rg (o_call (us := [eDiagram a, eDiagram b]) rfl (vl' vr (vl' vr (vn))) (algebra_And_ctr h fun r1 r2 h => (mvZ (.tuple [eDiagram r1, eErr 83 r2]) rfl (wZ rg (o_extract (v := eDiagram r1) rfl rfl rfl ?_)))))))))))
    refine wZ rg (o_extract (v := eErr 83 r2) rfl rfl rfl (wZ rg (o_alloc zav25 ok25 (kk := 3) rfl (fun g5 => (wZ rg (o_storeB (atL (k := 5) rfl) sz25 (by decide) rfl (w := eDiagram r1) rfl rfl rfl (v := eDiagram r1) rfl setL (asZ (eErr 83 r2) rfl (nZ (qZ (rZ (wZ rg (o_loadBA (atL (k := 2) rfl) sz25 (by decide) ag25 rfl rfl (v := eDiagram a) rfl ?_))))))))))))
    refine wZ rg (o_loadBA (atL (k := 3) rfl) sz25 (by decide) ag25 rfl rfl (v := eDiagram b) rfl (wZ rg (o_call (us := [eDiagram a, eDiagram b]) rfl (vl' vr (vl' vr (vn))) (algebra_Or_ctr h fun r3 r4 h => (mvZ (.tuple [eDiagram r3, eErr 83 r4]) rfl (wZ rg (o_extract (v := eDiagram r3) rfl rfl rfl (wZ rg (o_extract (v := eErr 83 r4) rfl rfl rfl (wZ rg (o_alloc zav25 ok25 (kk := 3) rfl (fun g6 => ?_))))))))))))
    refine wZ rg (o_storeB (atL (k := 7) rfl) sz25 (by decide) rfl (w := eDiagram r3) rfl rfl rfl (v := eDiagram r3) rfl setL (asZ (eErr 83 r4) rfl (nZ (qZ (rZ (wZ rg (o_loadBA (atL (k := 2) rfl) sz25 (by decide) ag25 rfl rfl (v := eDiagram a) rfl (wZ rg (o_loadBA (atL (k := 3) rfl) sz25 (by decide) ag25 rfl rfl (v := eDiagram b) rfl ?_)))))))))
    refine wZ rg (o_call (us := [eDiagram a, eDiagram b]) rfl (vl' vr (vl' vr (vn))) (algebra_Xor_ctr h fun r5 r6 h => (mvZ (.tuple [eDiagram r5, eErr 83 r6]) rfl (wZ rg (o_extract (v := eDiagram r5) rfl rfl rfl (wZ rg (o_extract (v := eErr 83 r6) rfl rfl rfl (wZ rg (o_alloc zav25 ok25 (kk := 3) rfl (fun g7 => ?_))))))))))
    refine wZ rg (o_storeB (atL (k := 9) rfl) sz25 (by decide) rfl (w := eDiagram r5) rfl rfl rfl (v := eDiagram r5) rfl setL (asZ (eErr 83 r6) rfl (nZ (qZ (rZ (wZ rg (o_loadBA (atL (k := 2) rfl) sz25 (by decide) ag25 rfl rfl (v := eDiagram a) rfl (wZ rg (o_loadBA (atL (k := 3) rfl) sz25 (by decide) ag25 rfl rfl (v := eDiagram b) rfl ?_)))))))))
    refine wZ rg (o_call (us := [eDiagram a, eDiagram b]) rfl (vl' vr (vl' vr (vn))) (algebra_Implies_ctr h fun r7 r8 h => (mvZ (.tuple [.bool r7, eErr 83 r8]) rfl (wZ rg (o_extract (v := .bool r7) rfl rfl rfl (wZ rg (o_extract (v := eErr 83 r8) rfl rfl rfl (asZ (.bool r7) rfl (asZ (eErr 83 r8) rfl (nZ (qZ (qZ (rZ ?_)))))))))))))
    refine wZ rg (o_loadBA (atL (k := 2) rfl) sz25 (by decide) ag25 rfl rfl (v := eDiagram a) rfl (wZ rg (o_loadBA (atL (k := 3) rfl) sz25 (by decide) ag25 rfl rfl (v := eDiagram b) rfl (wZ rg (o_bslice td142 ok25 zav25 (es := [eDiagram a, eDiagram b]) rfl (kk := 3) rfl rfl rfl rfl rfl rfl (fun g8 => ?_))))))
    refine Wl.wk (canon_freeze (k := 51) (xs := List.map eDiagram [a, b]) rfl (es := [(2, .ptr rg 2 g3 0 0), (3, .ptr rg 3 g4 0 0), (5, .ptr rg 5 g5 0 0), (6, eErr 83 r2), (7, .ptr rg 7 g6 0 0), (8, eErr 83 r4), (9, .ptr rg 9 g7 0 0), (10, eErr 83 r6), (11, .bool r7), (12, eErr 83 r8), (51, eL eDiagram [a, b])]) (fc vr (fc vr (fc vr (fc (fzE0) (fc vr (fc (fzE0) (fc vr (fc (fzE0) (fc vr (fc (fzE0) (fc (frz_full rfl) (fn)))))))))))) (m := [(2, .arr 3 [eDiagram a], g3), (3, .arr 3 [eDiagram b], g4), (5, .arr 3 [eDiagram r1], g5), (7, .arr 3 [eDiagram r3], g6), (9, .arr 3 [eDiagram r5], g7)]) (sc rfl (sc rfl (sc rfl (sc rfl (sc rfl (sn))))))) ?_
    refine wZ rg (o_call (us := [eL eDiagram [a, b]]) rfl (vl' vr (vn)) (ref16_Check_ctr h fun code h => (asZ (.int .i64 code) rfl (nZ (qZ (rZ (mvZ (.int .i64 code) rfl (wZ rg (o_neq rfl rfl (nZ ?_))))))))))
    refine Vc.cond' rfl (fun hb1 => ?_) (fun hb1 => ?_)
    · replace h := h.1 hb1
      refine qZ (rZ (wZ rg (o_loadBA (atL (k := 5) rfl) sz25 (by decide) ag25 rfl rfl (v := eDiagram r1) rfl (mvZ (eErr 83 r2) rfl (mvZ (.int .i64 code) rfl (wZ rg (o_call (us := [eDiagram r1, eErr 83 r2, AV.int .i64 code]) rfl (vl' vr (vl' vr (vl' vr (vn)))) (law16_none_ctr h fun r9 h => (mvZ (.bool r9) rfl ?_)))))))))
      refine Wl.guard rfl rfl (fun hb2 => ?_) (fun hb2 => ?_)
      · replace h := h.1 hb2
        refine wZ rg (o_loadBA (atL (k := 7) rfl) sz25 (by decide) ag25 rfl rfl (v := eDiagram r3) rfl ?_)
        refine Wl.guardT rfl rfl hb2 ?_
        refine mvZ (eErr 83 r4) rfl ?_
        refine Wl.guardT rfl rfl hb2 ?_
        refine mvZ (.int .i64 code) rfl ?_
        refine Wl.guardT rfl rfl hb2 ?_
        refine wZ rg (o_call (us := [eDiagram r3, eErr 83 r4, AV.int .i64 code]) rfl (vl' vr (vl' vr (vl' vr (vn)))) (law16_none_ctr h fun r10 h => (wZ rg (o_pickT rfl hb2 (v := .bool r10) rfl (mvZ (.bool r10) rfl ?_)))))
        refine Wl.guard rfl rfl (fun hb3 => ?_) (fun hb3 => ?_)
        · replace h := h.1 hb3
          refine wZ rg (o_loadBA (atL (k := 9) rfl) sz25 (by decide) ag25 rfl rfl (v := eDiagram r5) rfl ?_)
          refine Wl.guardT rfl rfl hb3 ?_
          refine mvZ (eErr 83 r6) rfl ?_
          refine Wl.guardT rfl rfl hb3 ?_
          refine mvZ (.int .i64 code) rfl ?_
          refine Wl.guardT rfl rfl hb3 ?_
          refine wZ rg (o_call (us := [eDiagram r5, eErr 83 r6, AV.int .i64 code]) rfl (vl' vr (vl' vr (vl' vr (vn)))) (law16_none_ctr h fun r11 h => (wZ rg (o_pickT rfl hb3 (v := .bool r11) rfl (mvZ (.bool r11) rfl ?_)))))
          refine Wl.guard rfl rfl (fun hb4 => ?_) (fun hb4 => ?_)
          · replace h := h.1 hb4
            refine mvZ (.bool r7) rfl ?_
            refine Wl.guardT rfl rfl hb4 ?_
            refine wZ rg (o_not rfl (wZ rg (o_pickT rfl hb4 (v := .bool (!r7)) rfl (mvZ (.bool (!r7)) rfl ?_))))
            refine Wl.guard rfl rfl (fun hb5 => ?_) (fun hb5 => ?_)
            · replace h := h.1 hb5
              refine mvZ (eErr 83 r8) rfl ?_
              refine Wl.guardT rfl rfl hb5 ?_
              refine wZ rg (o_call (us := [eErr 83 r8]) rfl (vl' vr (vn)) (base_Num_ctr h fun r12 h => ?_))
              refine Wl.guardT rfl rfl hb5 ?_
              refine mvZ (.int .i64 code) rfl ?_
              refine Wl.guardT rfl rfl hb5 ?_
              refine wZ rg (o_eql rfl rfl (wZ rg (o_pickT rfl hb5 (v := .bool (r12 == code)) rfl (asZ (.bool (r12 == code)) rfl (nZ ?_)))))
              refine Vc.ret' ?_
              refine res_tmp (v := .bool (r12 == code)) rfl (res_nil ?_)
              show Gives _ (.bool (r12 == code)) _
              exact gives_out hrg (VW.refl _) (hQ _ h)
            replace h := h.2 hb5
            refine Wl.guardF rfl rfl hb5 rfl ?_
            refine Wl.guardF rfl rfl hb5 rfl ?_
            refine Wl.guardF rfl rfl hb5 rfl ?_
            refine wZ rg (o_pickF rfl hb5 (v := .bool false) rfl (asZ (.bool false) rfl (nZ ?_)))
            refine Vc.ret' ?_
            refine res_tmp (v := .bool false) rfl (res_nil ?_)
            show Gives _ (.bool false) _
            exact gives_out hrg (VW.refl _) (hQ _ h)
          replace h := h.2 hb4
          refine Wl.guardF rfl rfl hb4 rfl ?_
          refine wZ rg (o_pickF rfl hb4 (v := .bool false) rfl (mvZ (.bool false) rfl ?_))
          refine Wl.guardF rfl rfl rfl rfl ?_
          refine Wl.guardF rfl rfl rfl rfl ?_
          refine Wl.guardF rfl rfl rfl rfl ?_
          refine Wl.guardF rfl rfl rfl rfl ?_
          refine wZ rg (o_pickF rfl rfl (v := .bool false) rfl (asZ (.bool false) rfl (nZ ?_)))
          refine Vc.ret' ?_
          refine res_tmp (v := .bool false) rfl (res_nil ?_)
          show Gives _ (.bool false) _
          exact gives_out hrg (VW.refl _) (hQ _ h)
        replace h := h.2 hb3
        refine Wl.guardF rfl rfl hb3 rfl ?_
        refine Wl.guardF rfl rfl hb3 rfl ?_
        refine Wl.guardF rfl rfl hb3 rfl ?_
        refine wZ rg (o_pickF rfl hb3 (v := .bool false) rfl (mvZ (.bool false) rfl ?_))
        refine Wl.guardF rfl rfl rfl rfl ?_
        refine Wl.guardF rfl rfl rfl rfl ?_
        refine wZ rg (o_pickF rfl rfl (v := .bool false) rfl (mvZ (.bool false) rfl ?_))
        refine Wl.guardF rfl rfl rfl rfl ?_
        refine Wl.guardF rfl rfl rfl rfl ?_
        refine Wl.guardF rfl rfl rfl rfl ?_
        refine Wl.guardF rfl rfl rfl rfl ?_
        refine wZ rg (o_pickF rfl rfl (v := .bool false) rfl (asZ (.bool false) rfl (nZ ?_)))
        refine Vc.ret' ?_
        refine res_tmp (v := .bool false) rfl (res_nil ?_)
        show Gives _ (.bool false) _
        exact gives_out hrg (VW.refl _) (hQ _ h)
      replace h := h.2 hb2
      refine Wl.guardF rfl rfl hb2 rfl ?_
      refine Wl.guardF rfl rfl hb2 rfl ?_
      refine Wl.guardF rfl rfl hb2 rfl ?_
      refine wZ rg (o_pickF rfl hb2 (v := .bool false) rfl (mvZ (.bool false) rfl ?_))
      refine Wl.guardF rfl rfl rfl rfl ?_
      refine Wl.guardF rfl rfl rfl rfl ?_
      refine Wl.guardF rfl rfl rfl rfl ?_
      refine Wl.guardF rfl rfl rfl rfl ?_
      refine wZ rg (o_pickF rfl rfl (v := .bool false) rfl (mvZ (.bool false) rfl ?_))
      refine Wl.guardF rfl rfl rfl rfl ?_
      refine Wl.guardF rfl rfl rfl rfl ?_
      refine wZ rg (o_pickF rfl rfl (v := .bool false) rfl (mvZ (.bool false) rfl ?_))
      refine Wl.guardF rfl rfl rfl rfl ?_
      refine Wl.guardF rfl rfl rfl rfl ?_
      refine Wl.guardF rfl rfl rfl rfl ?_
      refine Wl.guardF rfl rfl rfl rfl ?_
      refine wZ rg (o_pickF rfl rfl (v := .bool false) rfl (asZ (.bool false) rfl (nZ ?_)))
      refine Vc.ret' ?_
      refine res_tmp (v := .bool false) rfl (res_nil ?_)
      show Gives _ (.bool false) _
      exact gives_out hrg (VW.refl _) (hQ _ h)
    replace h := h.2 hb1
    refine Vc.skip' ?_
    refine qZ (qZ (rZ (mvZ (eErr 83 r2) rfl (wZ rg (o_isnon td29 (E := 83) rfl rfl rfl (mvZ (.bool (Option.isSome r2)) rfl ?_))))))
    refine Wl.guard rfl rfl (fun hb6 => ?_) (fun hb6 => ?_)
    · replace h := h.2 hb6
      refine mvZ (eErr 83 r4) rfl ?_
      refine Wl.guardT rfl rfl hb6 ?_
      refine wZ rg (o_isnon td29 (E := 83) rfl rfl rfl (wZ rg (o_pickF rfl hb6 (v := .bool (Option.isSome r4)) rfl (mvZ (.bool (Option.isSome r4)) rfl ?_))))
      refine Wl.guard rfl rfl (fun hb7 => ?_) (fun hb7 => ?_)
      · replace h := h.2 hb7
        refine mvZ (eErr 83 r6) rfl ?_
        refine Wl.guardT rfl rfl hb7 ?_
        refine wZ rg (o_isnon td29 (E := 83) rfl rfl rfl (wZ rg (o_pickF rfl hb7 (v := .bool (Option.isSome r6)) rfl (mvZ (.bool (Option.isSome r6)) rfl ?_))))
        refine Wl.guard rfl rfl (fun hb8 => ?_) (fun hb8 => ?_)
        · replace h := h.2 hb8
          refine mvZ (eErr 83 r8) rfl ?_
          refine Wl.guardT rfl rfl hb8 ?_
          refine wZ rg (o_isnon td29 (E := 83) rfl rfl rfl (wZ rg (o_pickF rfl hb8 (v := .bool (Option.isSome r8)) rfl (mvZ (.bool (Option.isSome r8)) rfl ?_))))
          refine Wl.guard rfl rfl (fun hb9 => ?_) (fun hb9 => ?_)
          · replace h := h.2 hb9
            refine mvZ (.bool r7) rfl ?_
            refine Wl.guardT rfl rfl hb9 ?_
            refine wZ rg (o_loadBA (atL (k := 2) rfl) sz25 (by decide) ag25 rfl rfl (v := eDiagram a) rfl ?_)
            refine Wl.guardT rfl rfl hb9 ?_
            refine wZ rg (o_loadBA (atL (k := 3) rfl) sz25 (by decide) ag25 rfl rfl (v := eDiagram b) rfl ?_)
            refine Wl.guardT rfl rfl hb9 ?_
            refine wZ rg (o_call (us := [eDiagram a, eDiagram b]) rfl (vl' vr (vl' vr (vn))) (ref16_Implies_ctr h fun r13 h => ?_))
            refine Wl.guardT rfl rfl hb9 ?_
            refine wZ rg (o_neqB td4 rfl rfl (wZ rg (o_pickF rfl hb9 (v := .bool (r7 != r13)) rfl (nZ ?_))))
            refine Vc.cond' rfl (fun hb10 => ?_) (fun hb10 => ?_)
            · replace h := h.1 hb10
              refine qZ (rZ (asZ (.bool false) rfl (nZ ?_)))
              refine Vc.ret' ?_
              refine res_tmp (v := .bool false) rfl (res_nil ?_)
              show Gives _ (.bool false) _
              exact gives_out hrg (VW.refl _) (hQ _ h)
            replace h := h.2 hb10
            refine Vc.skip' ?_
            refine qZ ?_
            obtain ⟨r14, hc, h⟩ := h
            obtain ⟨r15, hc1, h⟩ := h
            rcases Bool.eq_false_or_eq_true r15 with hb11 | hb11
            · replace h := h.1 hb11
              obtain ⟨r16, hc2, h⟩ := h
              obtain ⟨r17, hc3, h⟩ := h
              rcases Bool.eq_false_or_eq_true r17 with hb12 | hb12
              · replace h := h.1 hb12
                obtain ⟨r18, hc4, h⟩ := h
                obtain ⟨r19, hc5, h⟩ := h
                refine Vc.drawn' mixed rg (usOf [(3, pc (eDiagram r14)), (4, pc (.bool r15)), (9, pc (eDiagram r16)), (10, pc (.bool r17)), (16, pc (eDiagram r18)), (17, pc (.bool r19))]) (by kernel_rfl) ?_
                refine dL (E := ([(rg, 5)], [])) rfl rfl (by simp) (cfn) (o_loadBA (atL (k := 5) rfl) sz25 (by decide) ag25 rfl rfl (v := eDiagram r1) rfl (dL (E := ([(rg, 2)], [])) rfl rfl (by simp) (cfa (by simp [apartE]) (cfn)) (o_loadBA (atL (k := 2) rfl) sz25 (by decide) ag25 rfl rfl (v := eDiagram a) rfl ?_)))
                refine dL (E := ([(rg, 3)], [])) rfl rfl (by simp) (cfa (by simp [apartE]) (cfa (by simp [apartE]) (cfn))) (o_loadBA (atL (k := 3) rfl) sz25 (by decide) ag25 rfl rfl (v := eDiagram b) rfl ?_)
                refine dC (vs := [AV.int .i64 0, eDiagram a, eDiagram b]) rfl (vl' vr (vl' vr (vl' vr (vn)))) (fun _ => ref16_Apply_ctr hc (fun _ hr => ⟨by rw [hr], rfl⟩)) rfl ?_
                refine dC (vs := [eDiagram r1, eDiagram r14]) rfl (vl' vr (vl' vr (vn))) (fun _ => base_Diagram_ctr hc1 (fun _ hr => ⟨by rw [hr], rfl⟩)) rfl ?_
                refine dP rfl rfl (o_move (v := .bool r15) rfl ?_)
                refine dGT rfl rfl hb11 ?_
                refine dL (E := ([(rg, 7)], [])) rfl rfl (by simp) (cfo (by kernel_rfl) (cfo (by kernel_rfl) (cfo (by kernel_rfl) (cfn)))) (o_loadBA (atL (k := 7) rfl) sz25 (by decide) ag25 rfl rfl (v := eDiagram r3) rfl ?_)
                refine dGT rfl rfl rfl ?_
                refine dL (E := ([(rg, 2)], [])) rfl rfl (by simp) (cfa (by simp [apartE]) (cfo (by kernel_rfl) (cfo (by kernel_rfl) (cfo (by kernel_rfl) (cfn))))) (o_loadBA (atL (k := 2) rfl) sz25 (by decide) ag25 rfl rfl (v := eDiagram a) rfl ?_)
                refine dGT rfl rfl rfl ?_
                refine dL (E := ([(rg, 3)], [])) rfl rfl (by simp) (cfa (by simp [apartE]) (cfa (by simp [apartE]) (cfo (by kernel_rfl) (cfo (by kernel_rfl) (cfo (by kernel_rfl) (cfn)))))) (o_loadBA (atL (k := 3) rfl) sz25 (by decide) ag25 rfl rfl (v := eDiagram b) rfl ?_)
                refine dGT rfl rfl rfl ?_
                refine dC (vs := [AV.int .i64 1, eDiagram a, eDiagram b]) rfl (vl' vr (vl' vr (vl' vr (vn)))) (fun _ => ref16_Apply_ctr hc2 (fun _ hr => ⟨by rw [hr], rfl⟩)) rfl ?_
                refine dGT rfl rfl rfl ?_
                refine dC (vs := [eDiagram r3, eDiagram r16]) rfl (vl' vr (vl' vr (vn))) (fun _ => base_Diagram_ctr hc3 (fun _ hr => ⟨by rw [hr], rfl⟩)) rfl ?_
                refine dP rfl rfl (o_pickT rfl rfl (v := .bool r17) rfl (dP rfl rfl (o_move (v := .bool r17) rfl ?_)))
                refine dGT rfl rfl hb12 ?_
                refine dL (E := ([(rg, 9)], [])) rfl rfl (by simp) (cfo (by kernel_rfl) (cfo (by kernel_rfl) (cfo (by kernel_rfl) (cfo (by kernel_rfl) (cfo (by kernel_rfl) (cfo (by kernel_rfl) (cfn))))))) (o_loadBA (atL (k := 9) rfl) sz25 (by decide) ag25 rfl rfl (v := eDiagram r5) rfl ?_)
                refine dGT rfl rfl rfl ?_
                refine dL (E := ([(rg, 2)], [])) rfl rfl (by simp) (cfa (by simp [apartE]) (cfo (by kernel_rfl) (cfo (by kernel_rfl) (cfo (by kernel_rfl) (cfo (by kernel_rfl) (cfo (by kernel_rfl) (cfo (by kernel_rfl) (cfn)))))))) (o_loadBA (atL (k := 2) rfl) sz25 (by decide) ag25 rfl rfl (v := eDiagram a) rfl ?_)
                refine dGT rfl rfl rfl ?_
                refine dL (E := ([(rg, 3)], [])) rfl rfl (by simp) (cfa (by simp [apartE]) (cfa (by simp [apartE]) (cfo (by kernel_rfl) (cfo (by kernel_rfl) (cfo (by kernel_rfl) (cfo (by kernel_rfl) (cfo (by kernel_rfl) (cfo (by kernel_rfl) (cfn))))))))) (o_loadBA (atL (k := 3) rfl) sz25 (by decide) ag25 rfl rfl (v := eDiagram b) rfl ?_)
                refine dGT rfl rfl rfl ?_
                refine dC (vs := [AV.int .i64 2, eDiagram a, eDiagram b]) rfl (vl' vr (vl' vr (vl' vr (vn)))) (fun _ => ref16_Apply_ctr hc4 (fun _ hr => ⟨by rw [hr], rfl⟩)) rfl ?_
                refine dGT rfl rfl rfl ?_
                refine dC (vs := [eDiagram r5, eDiagram r18]) rfl (vl' vr (vl' vr (vn))) (fun _ => base_Diagram_ctr hc5 (fun _ hr => ⟨by rw [hr], rfl⟩)) rfl ?_
                refine dP rfl rfl (o_pickT rfl rfl (v := .bool r19) rfl (dP rfl rfl (o_assign (v := .bool r19) rfl (dN ?_))))
                refine Vc.ret' ?_
                refine res_tmp (v := .bool r19) rfl (res_nil ?_)
                show Gives _ (.bool r19) _
                exact gives_out hrg (VW.refl _) (hQ _ h)
              replace h := h.2 hb12
              refine Vc.drawn' mixed rg (usOf [(3, pc (eDiagram r14)), (4, pc (.bool r15)), (9, pc (eDiagram r16)), (10, pc (.bool r17))]) (by kernel_rfl) ?_
              refine dL (E := ([(rg, 5)], [])) rfl rfl (by simp) (cfn) (o_loadBA (atL (k := 5) rfl) sz25 (by decide) ag25 rfl rfl (v := eDiagram r1) rfl (dL (E := ([(rg, 2)], [])) rfl rfl (by simp) (cfa (by simp [apartE]) (cfn)) (o_loadBA (atL (k := 2) rfl) sz25 (by decide) ag25 rfl rfl (v := eDiagram a) rfl ?_)))
              refine dL (E := ([(rg, 3)], [])) rfl rfl (by simp) (cfa (by simp [apartE]) (cfa (by simp [apartE]) (cfn))) (o_loadBA (atL (k := 3) rfl) sz25 (by decide) ag25 rfl rfl (v := eDiagram b) rfl ?_)
              refine dC (vs := [AV.int .i64 0, eDiagram a, eDiagram b]) rfl (vl' vr (vl' vr (vl' vr (vn)))) (fun _ => ref16_Apply_ctr hc (fun _ hr => ⟨by rw [hr], rfl⟩)) rfl ?_
              refine dC (vs := [eDiagram r1, eDiagram r14]) rfl (vl' vr (vl' vr (vn))) (fun _ => base_Diagram_ctr hc1 (fun _ hr => ⟨by rw [hr], rfl⟩)) rfl ?_
              refine dP rfl rfl (o_move (v := .bool r15) rfl ?_)
              refine dGT rfl rfl hb11 ?_
              refine dL (E := ([(rg, 7)], [])) rfl rfl (by simp) (cfo (by kernel_rfl) (cfo (by kernel_rfl) (cfo (by kernel_rfl) (cfn)))) (o_loadBA (atL (k := 7) rfl) sz25 (by decide) ag25 rfl rfl (v := eDiagram r3) rfl ?_)
              refine dGT rfl rfl rfl ?_
              refine dL (E := ([(rg, 2)], [])) rfl rfl (by simp) (cfa (by simp [apartE]) (cfo (by kernel_rfl) (cfo (by kernel_rfl) (cfo (by kernel_rfl) (cfn))))) (o_loadBA (atL (k := 2) rfl) sz25 (by decide) ag25 rfl rfl (v := eDiagram a) rfl ?_)
              refine dGT rfl rfl rfl ?_
              refine dL (E := ([(rg, 3)], [])) rfl rfl (by simp) (cfa (by simp [apartE]) (cfa (by simp [apartE]) (cfo (by kernel_rfl) (cfo (by kernel_rfl) (cfo (by kernel_rfl) (cfn)))))) (o_loadBA (atL (k := 3) rfl) sz25 (by decide) ag25 rfl rfl (v := eDiagram b) rfl ?_)
              refine dGT rfl rfl rfl ?_
              refine dC (vs := [AV.int .i64 1, eDiagram a, eDiagram b]) rfl (vl' vr (vl' vr (vl' vr (vn)))) (fun _ => ref16_Apply_ctr hc2 (fun _ hr => ⟨by rw [hr], rfl⟩)) rfl ?_
              refine dGT rfl rfl rfl ?_
              refine dC (vs := [eDiagram r3, eDiagram r16]) rfl (vl' vr (vl' vr (vn))) (fun _ => base_Diagram_ctr hc3 (fun _ hr => ⟨by rw [hr], rfl⟩)) rfl ?_
              refine dP rfl rfl (o_pickT rfl rfl (v := .bool r17) rfl (dP rfl rfl (o_move (v := .bool r17) rfl ?_)))
              refine dGF rfl rfl hb12 rfl ?_
              refine dGF rfl rfl rfl rfl ?_
              refine dGF rfl rfl rfl rfl ?_
              refine dGF rfl rfl rfl rfl ?_
              refine dGF rfl rfl rfl rfl ?_
              refine dP rfl rfl (o_pickF rfl rfl (v := .bool false) rfl (dP rfl rfl (o_assign (v := .bool false) rfl (dN ?_))))
              refine Vc.ret' ?_
              refine res_tmp (v := .bool false) rfl (res_nil ?_)
              show Gives _ (.bool false) _
              exact gives_out hrg (VW.refl _) (hQ _ h)
            replace h := h.2 hb11
            refine Vc.drawn' mixed rg (usOf [(3, pc (eDiagram r14)), (4, pc (.bool r15))]) (by kernel_rfl) ?_
            refine dL (E := ([(rg, 5)], [])) rfl rfl (by simp) (cfn) (o_loadBA (atL (k := 5) rfl) sz25 (by decide) ag25 rfl rfl (v := eDiagram r1) rfl (dL (E := ([(rg, 2)], [])) rfl rfl (by simp) (cfa (by simp [apartE]) (cfn)) (o_loadBA (atL (k := 2) rfl) sz25 (by decide) ag25 rfl rfl (v := eDiagram a) rfl ?_)))
            refine dL (E := ([(rg, 3)], [])) rfl rfl (by simp) (cfa (by simp [apartE]) (cfa (by simp [apartE]) (cfn))) (o_loadBA (atL (k := 3) rfl) sz25 (by decide) ag25 rfl rfl (v := eDiagram b) rfl ?_)
            refine dC (vs := [AV.int .i64 0, eDiagram a, eDiagram b]) rfl (vl' vr (vl' vr (vl' vr (vn)))) (fun _ => ref16_Apply_ctr hc (fun _ hr => ⟨by rw [hr], rfl⟩)) rfl ?_
            refine dC (vs := [eDiagram r1, eDiagram r14]) rfl (vl' vr (vl' vr (vn))) (fun _ => base_Diagram_ctr hc1 (fun _ hr => ⟨by rw [hr], rfl⟩)) rfl ?_
            refine dP rfl rfl (o_move (v := .bool r15) rfl ?_)
            refine dGF rfl rfl hb11 rfl ?_
            refine dGF rfl rfl rfl rfl ?_
            refine dGF rfl rfl rfl rfl ?_
            refine dGF rfl rfl rfl rfl ?_
            refine dGF rfl rfl rfl rfl ?_
            refine dP rfl rfl (o_pickF rfl rfl (v := .bool false) rfl (dP rfl rfl (o_move (v := .bool false) rfl ?_)))
            refine dGF rfl rfl rfl rfl ?_
            refine dGF rfl rfl rfl rfl ?_
            refine dGF rfl rfl rfl rfl ?_
            refine dGF rfl rfl rfl rfl ?_
            refine dGF rfl rfl rfl rfl ?_
            refine dP rfl rfl (o_pickF rfl rfl (v := .bool false) rfl (dP rfl rfl (o_assign (v := .bool false) rfl (dN ?_))))
            refine Vc.ret' ?_
            refine res_tmp (v := .bool false) rfl (res_nil ?_)
            show Gives _ (.bool false) _
            exact gives_out hrg (VW.refl _) (hQ _ h)
          replace h := h.1 hb9
          refine Wl.guardF rfl rfl hb9 rfl ?_
          refine Wl.guardF rfl rfl hb9 rfl ?_
          refine Wl.guardF rfl rfl hb9 rfl ?_
          refine Wl.guardF rfl rfl hb9 rfl ?_
          refine wZ rg (o_pickT rfl hb9 (v := .bool true) rfl (nZ ?_))
          refine Vc.cond' rfl (fun _ => ?_) (fun hb => Bool.noConfusion hb)
          refine qZ (rZ (asZ (.bool false) rfl (nZ ?_)))
          refine Vc.ret' ?_
          refine res_tmp (v := .bool false) rfl (res_nil ?_)
          show Gives _ (.bool false) _
          exact gives_out hrg (VW.refl _) (hQ _ h)
        replace h := h.1 hb8
        refine Wl.guardF rfl rfl hb8 rfl ?_
        refine wZ rg (o_pickT rfl hb8 (v := .bool true) rfl (mvZ (.bool true) rfl ?_))
        refine Wl.guardF rfl rfl rfl rfl ?_
        refine Wl.guardF rfl rfl rfl rfl ?_
        refine Wl.guardF rfl rfl rfl rfl ?_
        refine Wl.guardF rfl rfl rfl rfl ?_
        refine Wl.guardF rfl rfl rfl rfl ?_
        refine wZ rg (o_pickT rfl rfl (v := .bool true) rfl (nZ ?_))
        refine Vc.cond' rfl (fun _ => ?_) (fun hb => Bool.noConfusion hb)
        refine qZ (rZ (asZ (.bool false) rfl (nZ ?_)))
        refine Vc.ret' ?_
        refine res_tmp (v := .bool false) rfl (res_nil ?_)
        show Gives _ (.bool false) _
        exact gives_out hrg (VW.refl _) (hQ _ h)
      replace h := h.1 hb7
      refine Wl.guardF rfl rfl hb7 rfl ?_
      refine wZ rg (o_pickT rfl hb7 (v := .bool true) rfl (mvZ (.bool true) rfl ?_))
      refine Wl.guardF rfl rfl rfl rfl ?_
      refine Wl.guardF rfl rfl rfl rfl ?_
      refine wZ rg (o_pickT rfl rfl (v := .bool true) rfl (mvZ (.bool true) rfl ?_))
      refine Wl.guardF rfl rfl rfl rfl ?_
      refine Wl.guardF rfl rfl rfl rfl ?_
      refine Wl.guardF rfl rfl rfl rfl ?_
      refine Wl.guardF rfl rfl rfl rfl ?_
      refine Wl.guardF rfl rfl rfl rfl ?_
      refine wZ rg (o_pickT rfl rfl (v := .bool true) rfl (nZ ?_))
      refine Vc.cond' rfl (fun _ => ?_) (fun hb => Bool.noConfusion hb)
      refine qZ (rZ (asZ (.bool false) rfl (nZ ?_)))
      refine Vc.ret' ?_
      refine res_tmp (v := .bool false) rfl (res_nil ?_)
      show Gives _ (.bool false) _
      exact gives_out hrg (VW.refl _) (hQ _ h)
    replace h := h.1 hb6
    refine Wl.guardF rfl rfl hb6 rfl ?_
    refine wZ rg (o_pickT rfl hb6 (v := .bool true) rfl (mvZ (.bool true) rfl ?_))
    refine Wl.guardF rfl rfl rfl rfl ?_
    refine Wl.guardF rfl rfl rfl rfl ?_
    refine wZ rg (o_pickT rfl rfl (v := .bool true) rfl (mvZ (.bool true) rfl ?_))
    refine Wl.guardF rfl rfl rfl rfl ?_
    refine Wl.guardF rfl rfl rfl rfl ?_
    refine wZ rg (o_pickT rfl rfl (v := .bool true) rfl (mvZ (.bool true) rfl ?_))
    refine Wl.guardF rfl rfl rfl rfl ?_
    refine Wl.guardF rfl rfl rfl rfl ?_
    refine Wl.guardF rfl rfl rfl rfl ?_
    refine Wl.guardF rfl rfl rfl rfl ?_
    refine Wl.guardF rfl rfl rfl rfl ?_
    refine wZ rg (o_pickT rfl rfl (v := .bool true) rfl (nZ ?_))
    refine Vc.cond' rfl (fun _ => ?_) (fun hb => Bool.noConfusion hb)
    refine qZ (rZ (asZ (.bool false) rfl (nZ ?_)))
    refine Vc.ret' ?_
    refine res_tmp (v := .bool false) rfl (res_nil ?_)
    show Gives _ (.bool false) _
    exact gives_out hrg (VW.refl _) (hQ _ h)
  refine rZ ?_
  refine wZ rg (o_call (us := []) rfl (vn) (law16_awake_ctr h fun r20 h => (wZ rg (o_not rfl (mvZ (.bool (!r20)) rfl ?_)))))
  refine Wl.guard rfl rfl (fun hb13 => ?_) (fun hb13 => ?_)
  · replace h := h.2 hb13
    refine wZ rg (o_loadBA (atL (k := 2) rfl) sz25 (by decide) ag25 rfl rfl (v := eDiagram a) rfl ?_)
    refine Wl.guardT rfl rfl hb13 ?_
    refine wZ rg (o_call (us := [eDiagram a]) rfl (vl' vr (vn)) (law16_large_ctr h fun r21 h => (wZ rg (o_pickF rfl hb13 (v := .bool r21) rfl (mvZ (.bool r21) rfl ?_)))))
    refine Wl.guard rfl rfl (fun hb14 => ?_) (fun hb14 => ?_)
    · replace h := h.2 hb14
      refine wZ rg (o_loadBA (atL (k := 3) rfl) sz25 (by decide) ag25 rfl rfl (v := eDiagram b) rfl ?_)
      refine Wl.guardT rfl rfl hb14 ?_
      refine wZ rg (o_call (us := [eDiagram b]) rfl (vl' vr (vn)) (law16_large_ctr h fun r22 h => (wZ rg (o_pickF rfl hb14 (v := .bool r22) rfl (nZ ?_)))))
      exact ⟨(r22, (g1, g2)), (canon (fc vr (fc vr (fc vr (fn)))) (sc rfl (sc rfl (sn)))), h⟩
    replace h := h.1 hb14
    refine Wl.guardF rfl rfl hb14 rfl ?_
    refine wZ rg (o_pickT rfl hb14 (v := .bool true) rfl (nZ ?_))
    exact ⟨(true, (g1, g2)), (canon (fc vr (fc vr (fc vr (fn)))) (sc rfl (sc rfl (sn)))), h⟩
  replace h := h.1 hb13
  refine Wl.guardF rfl rfl hb13 rfl ?_
  refine wZ rg (o_pickT rfl hb13 (v := .bool true) rfl (mvZ (.bool true) rfl ?_))
  refine Wl.guardF rfl rfl rfl rfl ?_
  refine Wl.guardF rfl rfl rfl rfl ?_
  refine wZ rg (o_pickT rfl rfl (v := .bool true) rfl (nZ ?_))
  exact ⟨(true, (g1, g2)), (canon (fc vr (fc vr (fc vr (fn)))) (sc rfl (sc rfl (sn)))), h⟩
end Go.Proofs.Ytllegjdggcmgaaa
