/- Walks of functions. Conditions: none. -/
import Derived.Test.YtllegjdggcmgaaaWa
import Derived.Test.YtllegjdggcmgaaaGgTy
import Derived.Test.YtllegjdggcmgaaaK1
import Derived.Test.YtllegjdggcmgaaaK3
import Derived.Test.YtllegjdggcmgaaaK4
/- Walks of functions. Conditions: none. -/
namespace Go.Proofs.Ytllegjdggcmgaaa
open Go.Gg
set_option maxRecDepth 100000
set_option maxHeartbeats 4000000 in
theorem law16_AlgebraSingle_ctr {d : GDiagram} {Q : Bool → Prop} {S : St} {R : AV → St → Prop} (h : law16_AlgebraSingle_W d Q) (hQ : ∀ r1, Q r1 → R (AV.bool r1) S) :
    Ctr Try.prog 3 [eDiagram d] S R := by
  unfold law16_AlgebraSingle_W at h
  refine enterT Try.func3 rfl Try.ntmps3 Try.results3 (by kernel_rfl) (fun rg hrg => ?_)
  refine qZ (rZ (wZ rg (o_box (v := eDiagram d) rfl rfl (kk := 3) rfl (by decide) (fun g1 => (asZ (.bool false) rfl (nZ (qZ ?_)))))))
  obtain ⟨J, h, hJ⟩ := h
  refine Vc.join' (σ := ((Bool) × (Nat))) (fun y => J y.1) (fun y => envOf [(1, .ptr rg 1 y.2 0 0), (18, .bool y.1)]) (fun y => stL S rg [(1, .arr 3 [eDiagram d], y.2)]) (fun y h => ?_) ?_
  · obtain ⟨x, g2⟩ := y
    replace h := hJ x h
    show Vc _ _ _ _ (envOf [(1, .ptr rg 1 g2 0 0), (18, .bool x)]) (stL S rg [(1, .arr 3 [eDiagram d], g2)])
    refine Vc.cond' rfl (fun hb => ?_) (fun hb => ?_)
    · replace h := h.1 hb
      refine qZ (rZ (wZ rg (o_call (us := []) rfl (vn) (law16_awake_ctr h fun r h => (asZ (.bool r) rfl (nZ ?_))))))
      refine Vc.ret' ?_
      refine res_tmp (v := .bool r) rfl (res_nil ?_)
      show Gives _ (.bool r) _
      exact gives_out hrg (VW.refl _) (hQ _ h)
    replace h := h.2 hb
    refine Vc.skip' ?_
    refine qZ (rZ (wZ rg (o_loadBA (atL (k := 1) rfl) sz25 (by decide) ag25 rfl rfl (v := eDiagram d) rfl (wZ rg (o_call (us := [eDiagram d]) rfl (vl' vr (vn)) (algebra_Not_ctr h fun r1 r2 h => (mvZ (.tuple [eDiagram r1, eErr 83 r2]) rfl (wZ rg (o_extract (v := eDiagram r1) rfl rfl rfl (wZ rg (o_extract (v := eErr 83 r2) rfl rfl rfl (wZ rg (o_alloc zav25 ok25 (kk := 3) rfl (fun g3 => ?_))))))))))))))
    refine wZ rg (o_storeB (atL (k := 3) rfl) sz25 (by decide) rfl (w := eDiagram r1) rfl rfl rfl (v := eDiagram r1) rfl setL (asZ (eErr 83 r2) rfl (nZ (qZ (rZ (wZ rg (o_loadBA (atL (k := 1) rfl) sz25 (by decide) ag25 rfl rfl (v := eDiagram d) rfl (wZ rg (o_call (us := [eDiagram d]) rfl (vl' vr (vn)) (algebra_Count_ctr h fun r3 r4 h => (mvZ (.tuple [.int .i64 r3, eErr 83 r4]) rfl ?_)))))))))))
    refine wZ rg (o_extract (v := .int .i64 r3) rfl rfl rfl (wZ rg (o_extract (v := eErr 83 r4) rfl rfl rfl (asZ (.int .i64 r3) rfl (asZ (eErr 83 r4) rfl (nZ (qZ (rZ (wZ rg (o_loadBA (atL (k := 1) rfl) sz25 (by decide) ag25 rfl rfl (v := eDiagram d) rfl (wZ rg (o_call (us := [eDiagram d]) rfl (vl' vr (vn)) (algebra_Least_ctr h fun r5 r6 r7 h => ?_)))))))))))))
    refine mvZ (.tuple [.int .i64 r5, .bool r6, eErr 83 r7]) rfl (wZ rg (o_extract (v := .int .i64 r5) rfl rfl rfl (wZ rg (o_extract (v := .bool r6) rfl rfl rfl (wZ rg (o_extract (v := eErr 83 r7) rfl rfl rfl (asZ (.int .i64 r5) rfl (asZ (.bool r6) rfl (asZ (eErr 83 r7) rfl (nZ (qZ (qZ (rZ (wZ rg (o_loadBA (atL (k := 1) rfl) sz25 (by decide) ag25 rfl rfl (v := eDiagram d) rfl ?_)))))))))))))))
    refine wZ rg (o_call (us := [eDiagram d]) rfl (vl' vr (vn)) (ref15_Check_ctr h fun code h => (asZ (.int .i64 code) rfl (nZ (qZ (rZ (mvZ (.int .i64 code) rfl (wZ rg (o_neq rfl rfl (nZ ?_))))))))))
    refine Vc.cond' rfl (fun hb1 => ?_) (fun hb1 => ?_)
    · replace h := h.1 hb1
      refine qZ (rZ (wZ rg (o_loadBA (atL (k := 3) rfl) sz25 (by decide) ag25 rfl rfl (v := eDiagram r1) rfl (mvZ (eErr 83 r2) rfl (mvZ (.int .i64 code) rfl (wZ rg (o_call (us := [eDiagram r1, eErr 83 r2, AV.int .i64 code]) rfl (vl' vr (vl' vr (vl' vr (vn)))) (law16_none_ctr h fun r8 h => (mvZ (.bool r8) rfl ?_)))))))))
      refine Wl.guard rfl rfl (fun hb2 => ?_) (fun hb2 => ?_)
      · replace h := h.1 hb2
        refine mvZ (.int .i64 r3) rfl ?_
        refine Wl.guardT rfl rfl hb2 ?_
        refine wZ rg (o_eql rfl rfl (wZ rg (o_pickT rfl hb2 (v := .bool (r3 == 0)) rfl (mvZ (.bool (r3 == 0)) rfl ?_))))
        refine Wl.guard rfl rfl (fun hb3 => ?_) (fun hb3 => ?_)
        · replace h := h.1 hb3
          refine mvZ (.int .i64 r5) rfl ?_
          refine Wl.guardT rfl rfl hb3 ?_
          refine wZ rg (o_eql rfl rfl (wZ rg (o_pickT rfl hb3 (v := .bool (r5 == 0)) rfl (mvZ (.bool (r5 == 0)) rfl ?_))))
          refine Wl.guard rfl rfl (fun hb4 => ?_) (fun hb4 => ?_)
          · replace h := h.1 hb4
            refine mvZ (.bool r6) rfl ?_
            refine Wl.guardT rfl rfl hb4 ?_
            refine wZ rg (o_not rfl (wZ rg (o_pickT rfl hb4 (v := .bool (!r6)) rfl (mvZ (.bool (!r6)) rfl ?_))))
            refine Wl.guard rfl rfl (fun hb5 => ?_) (fun hb5 => ?_)
            · replace h := h.1 hb5
              refine mvZ (eErr 83 r4) rfl ?_
              refine Wl.guardT rfl rfl hb5 ?_
              refine wZ rg (o_call (us := [eErr 83 r4]) rfl (vl' vr (vn)) (base_Num_ctr h fun r9 h => ?_))
              refine Wl.guardT rfl rfl hb5 ?_
              refine mvZ (.int .i64 code) rfl ?_
              refine Wl.guardT rfl rfl hb5 ?_
              refine wZ rg (o_eql rfl rfl (wZ rg (o_pickT rfl hb5 (v := .bool (r9 == code)) rfl (mvZ (.bool (r9 == code)) rfl ?_))))
              refine Wl.guard rfl rfl (fun hb6 => ?_) (fun hb6 => ?_)
              · replace h := h.1 hb6
                refine mvZ (eErr 83 r7) rfl ?_
                refine Wl.guardT rfl rfl hb6 ?_
                refine wZ rg (o_call (us := [eErr 83 r7]) rfl (vl' vr (vn)) (base_Num_ctr h fun r10 h => ?_))
                refine Wl.guardT rfl rfl hb6 ?_
                refine mvZ (.int .i64 code) rfl ?_
                refine Wl.guardT rfl rfl hb6 ?_
                refine wZ rg (o_eql rfl rfl (wZ rg (o_pickT rfl hb6 (v := .bool (r10 == code)) rfl (asZ (.bool (r10 == code)) rfl (nZ ?_)))))
                refine Vc.ret' ?_
                refine res_tmp (v := .bool (r10 == code)) rfl (res_nil ?_)
                show Gives _ (.bool (r10 == code)) _
                exact gives_out hrg (VW.refl _) (hQ _ h)
              replace h := h.2 hb6
              refine Wl.guardF rfl rfl hb6 rfl ?_
              refine Wl.guardF rfl rfl hb6 rfl ?_
              refine Wl.guardF rfl rfl hb6 rfl ?_
              refine wZ rg (o_pickF rfl hb6 (v := .bool false) rfl (asZ (.bool false) rfl (nZ ?_)))
              refine Vc.ret' ?_
              refine res_tmp (v := .bool false) rfl (res_nil ?_)
              show Gives _ (.bool false) _
              exact gives_out hrg (VW.refl _) (hQ _ h)
            replace h := h.2 hb5
            refine Wl.guardF rfl rfl hb5 rfl ?_
            refine Wl.guardF rfl rfl hb5 rfl ?_
            refine Wl.guardF rfl rfl hb5 rfl ?_
            refine wZ rg (o_pickF rfl hb5 (v := .bool false) rfl (mvZ (.bool false) rfl ?_))
            refine Wl.guardF rfl rfl rfl rfl ?_
            refine Wl.guardF rfl rfl rfl rfl ?_
            refine Wl.guardF rfl rfl rfl rfl ?_
            refine Wl.guardF rfl rfl rfl rfl ?_
            refine wZ rg (o_pickF rfl rfl (v := .bool false) rfl (asZ (.bool false) rfl (nZ ?_)))
            refine Vc.ret' ?_
            refine res_tmp (v := .bool false) rfl (res_nil ?_)
            show Gives _ (.bool false) _
            exact gives_out hrg (VW.refl _) (hQ _ h)
          replace h := h.2 hb4
          refine Wl.guardF rfl rfl hb4 rfl ?_
          refine wZ rg (o_pickF rfl hb4 (v := .bool false) rfl (mvZ (.bool false) rfl ?_))
          refine Wl.guardF rfl rfl rfl rfl ?_
          refine Wl.guardF rfl rfl rfl rfl ?_
          refine Wl.guardF rfl rfl rfl rfl ?_
          refine Wl.guardF rfl rfl rfl rfl ?_
          refine wZ rg (o_pickF rfl rfl (v := .bool false) rfl (mvZ (.bool false) rfl ?_))
          refine Wl.guardF rfl rfl rfl rfl ?_
          refine Wl.guardF rfl rfl rfl rfl ?_
          refine Wl.guardF rfl rfl rfl rfl ?_
          refine Wl.guardF rfl rfl rfl rfl ?_
          refine wZ rg (o_pickF rfl rfl (v := .bool false) rfl (asZ (.bool false) rfl (nZ ?_)))
          refine Vc.ret' ?_
          refine res_tmp (v := .bool false) rfl (res_nil ?_)
          show Gives _ (.bool false) _
          exact gives_out hrg (VW.refl _) (hQ _ h)
        replace h := h.2 hb3
        refine Wl.guardF rfl rfl hb3 rfl ?_
        refine wZ rg (o_pickF rfl hb3 (v := .bool false) rfl (mvZ (.bool false) rfl ?_))
        refine Wl.guardF rfl rfl rfl rfl ?_
        refine Wl.guardF rfl rfl rfl rfl ?_
        refine wZ rg (o_pickF rfl rfl (v := .bool false) rfl (mvZ (.bool false) rfl ?_))
        refine Wl.guardF rfl rfl rfl rfl ?_
        refine Wl.guardF rfl rfl rfl rfl ?_
        refine Wl.guardF rfl rfl rfl rfl ?_
        refine Wl.guardF rfl rfl rfl rfl ?_
        refine wZ rg (o_pickF rfl rfl (v := .bool false) rfl (mvZ (.bool false) rfl ?_))
        refine Wl.guardF rfl rfl rfl rfl ?_
        refine Wl.guardF rfl rfl rfl rfl ?_
        refine Wl.guardF rfl rfl rfl rfl ?_
        refine Wl.guardF rfl rfl rfl rfl ?_
        refine wZ rg (o_pickF rfl rfl (v := .bool false) rfl (asZ (.bool false) rfl (nZ ?_)))
        refine Vc.ret' ?_
        refine res_tmp (v := .bool false) rfl (res_nil ?_)
        show Gives _ (.bool false) _
        exact gives_out hrg (VW.refl _) (hQ _ h)
      replace h := h.2 hb2
      refine Wl.guardF rfl rfl hb2 rfl ?_
      refine wZ rg (o_pickF rfl hb2 (v := .bool false) rfl (mvZ (.bool false) rfl ?_))
      refine Wl.guardF rfl rfl rfl rfl ?_
      refine Wl.guardF rfl rfl rfl rfl ?_
      refine wZ rg (o_pickF rfl rfl (v := .bool false) rfl (mvZ (.bool false) rfl ?_))
      refine Wl.guardF rfl rfl rfl rfl ?_
      refine Wl.guardF rfl rfl rfl rfl ?_
      refine wZ rg (o_pickF rfl rfl (v := .bool false) rfl (mvZ (.bool false) rfl ?_))
      refine Wl.guardF rfl rfl rfl rfl ?_
      refine Wl.guardF rfl rfl rfl rfl ?_
      refine Wl.guardF rfl rfl rfl rfl ?_
      refine Wl.guardF rfl rfl rfl rfl ?_
      refine wZ rg (o_pickF rfl rfl (v := .bool false) rfl (mvZ (.bool false) rfl ?_))
      refine Wl.guardF rfl rfl rfl rfl ?_
      refine Wl.guardF rfl rfl rfl rfl ?_
      refine Wl.guardF rfl rfl rfl rfl ?_
      refine Wl.guardF rfl rfl rfl rfl ?_
      refine wZ rg (o_pickF rfl rfl (v := .bool false) rfl (asZ (.bool false) rfl (nZ ?_)))
      refine Vc.ret' ?_
      refine res_tmp (v := .bool false) rfl (res_nil ?_)
      show Gives _ (.bool false) _
      exact gives_out hrg (VW.refl _) (hQ _ h)
    replace h := h.2 hb1
    refine Vc.skip' ?_
    refine qZ (rZ (wZ rg (o_loadBA (atL (k := 1) rfl) sz25 (by decide) ag25 rfl rfl (v := eDiagram d) rfl (wZ rg (o_call (us := [eDiagram d]) rfl (vl' vr (vn)) (ref16_Least_ctr h fun r11 r12 h => (mvZ (.tuple [.int .i64 r11, .bool r12]) rfl (wZ rg (o_extract (v := .int .i64 r11) rfl rfl rfl (wZ rg (o_extract (v := .bool r12) rfl rfl rfl (asZ (.int .i64 r11) rfl (asZ (.bool r12) rfl (nZ (qZ ?_)))))))))))))))
    rcases Bool.eq_false_or_eq_true (Option.isNone r2) with hb7 | hb7
    · replace h := h.1 hb7
      rcases Bool.eq_false_or_eq_true (Option.isNone r4) with hb8 | hb8
      · replace h := h.1 hb8
        rcases Bool.eq_false_or_eq_true (Option.isNone r7) with hb9 | hb9
        · replace h := h.1 hb9
          obtain ⟨r13, hc, h⟩ := h
          obtain ⟨r14, hc1, h⟩ := h
          rcases Bool.eq_false_or_eq_true r14 with hb10 | hb10
          · replace h := h.1 hb10
            obtain ⟨r15, hc2, h⟩ := h
            rcases Bool.eq_false_or_eq_true (r3 == r15) with hb11 | hb11
            · replace h := h.1 hb11
              rcases Bool.eq_false_or_eq_true (r5 == r11) with hb12 | hb12
              · replace h := h.1 hb12
                refine Vc.drawn' mixed rg (usOf [(13, pc (eDiagram r13)), (14, pc (.bool r14)), (19, pc (.int .i64 r15))]) (by kernel_rfl) ?_
                refine dP rfl rfl (o_move (v := eErr 83 r2) rfl (dP rfl rfl (o_isnil td29 (E := 83) rfl rfl rfl (dP rfl rfl (o_move (v := .bool (Option.isNone r2)) rfl ?_)))))
                refine dGT rfl rfl hb7 ?_
                refine dP rfl rfl (o_move (v := eErr 83 r4) rfl ?_)
                refine dGT rfl rfl rfl ?_
                refine dP rfl rfl (o_isnil td29 (E := 83) rfl rfl rfl (dP rfl rfl (o_pickT rfl rfl (v := .bool (Option.isNone r4)) rfl (dP rfl rfl (o_move (v := .bool (Option.isNone r4)) rfl ?_)))))
                refine dGT rfl rfl hb8 ?_
                refine dP rfl rfl (o_move (v := eErr 83 r7) rfl ?_)
                refine dGT rfl rfl rfl ?_
                refine dP rfl rfl (o_isnil td29 (E := 83) rfl rfl rfl (dP rfl rfl (o_pickT rfl rfl (v := .bool (Option.isNone r7)) rfl (dP rfl rfl (o_move (v := .bool (Option.isNone r7)) rfl ?_)))))
                refine dGT rfl rfl hb9 ?_
                refine dL (E := ([(rg, 3)], [])) rfl rfl (by simp) (cfn) (o_loadBA (atL (k := 3) rfl) sz25 (by decide) ag25 rfl rfl (v := eDiagram r1) rfl ?_)
                refine dGT rfl rfl rfl ?_
                refine dL (E := ([(rg, 1)], [])) rfl rfl (by simp) (cfa (by simp [apartE]) (cfn)) (o_loadBA (atL (k := 1) rfl) sz25 (by decide) ag25 rfl rfl (v := eDiagram d) rfl ?_)
                refine dGT rfl rfl rfl ?_
                refine dC (vs := [eDiagram d]) rfl (vl' vr (vn)) (fun _ => ref16_Not_ctr hc (fun _ hr => ⟨by rw [hr], rfl⟩)) rfl ?_
                refine dGT rfl rfl rfl ?_
                refine dC (vs := [eDiagram r1, eDiagram r13]) rfl (vl' vr (vl' vr (vn))) (fun _ => base_Diagram_ctr hc1 (fun _ hr => ⟨by rw [hr], rfl⟩)) rfl ?_
                refine dP rfl rfl (o_pickT rfl rfl (v := .bool r14) rfl (dP rfl rfl (o_move (v := .bool r14) rfl ?_)))
                refine dGT rfl rfl hb10 ?_
                refine dP rfl rfl (o_move (v := .int .i64 r3) rfl ?_)
                refine dGT rfl rfl rfl ?_
                refine dL (E := ([(rg, 1)], [])) rfl rfl (by simp) (cfo (by kernel_rfl) (cfo (by kernel_rfl) (cfn))) (o_loadBA (atL (k := 1) rfl) sz25 (by decide) ag25 rfl rfl (v := eDiagram d) rfl ?_)
                refine dGT rfl rfl rfl ?_
                refine dC (vs := [eDiagram d]) rfl (vl' vr (vn)) (fun _ => ref16_Count_ctr hc2 (fun _ hr => ⟨by rw [hr], rfl⟩)) rfl ?_
                refine dGT rfl rfl rfl ?_
                refine dP rfl rfl (o_eql rfl rfl (dP rfl rfl (o_pickT rfl rfl (v := .bool (r3 == r15)) rfl (dP rfl rfl (o_move (v := .bool (r3 == r15)) rfl ?_)))))
                refine dGT rfl rfl hb11 ?_
                refine dP rfl rfl (o_move (v := .int .i64 r5) rfl ?_)
                refine dGT rfl rfl rfl ?_
                refine dP rfl rfl (o_move (v := .int .i64 r11) rfl ?_)
                refine dGT rfl rfl rfl ?_
                refine dP rfl rfl (o_eql rfl rfl (dP rfl rfl (o_pickT rfl rfl (v := .bool (r5 == r11)) rfl (dP rfl rfl (o_move (v := .bool (r5 == r11)) rfl ?_)))))
                refine dGT rfl rfl hb12 ?_
                refine dP rfl rfl (o_move (v := .bool r6) rfl ?_)
                refine dGT rfl rfl rfl ?_
                refine dP rfl rfl (o_move (v := .bool r12) rfl ?_)
                refine dGT rfl rfl rfl ?_
                refine dP rfl rfl (o_eqlB td4 rfl rfl (dP rfl rfl (o_pickT rfl rfl (v := .bool (r6 == r12)) rfl (dP rfl rfl (o_assign (v := .bool (r6 == r12)) rfl (dN ?_))))))
                refine Vc.ret' ?_
                refine res_tmp (v := .bool (r6 == r12)) rfl (res_nil ?_)
                show Gives _ (.bool (r6 == r12)) _
                exact gives_out hrg (VW.refl _) (hQ _ h)
              replace h := h.2 hb12
              refine Vc.drawn' mixed rg (usOf [(13, pc (eDiagram r13)), (14, pc (.bool r14)), (19, pc (.int .i64 r15))]) (by kernel_rfl) ?_
              refine dP rfl rfl (o_move (v := eErr 83 r2) rfl (dP rfl rfl (o_isnil td29 (E := 83) rfl rfl rfl (dP rfl rfl (o_move (v := .bool (Option.isNone r2)) rfl ?_)))))
              refine dGT rfl rfl hb7 ?_
              refine dP rfl rfl (o_move (v := eErr 83 r4) rfl ?_)
              refine dGT rfl rfl rfl ?_
              refine dP rfl rfl (o_isnil td29 (E := 83) rfl rfl rfl (dP rfl rfl (o_pickT rfl rfl (v := .bool (Option.isNone r4)) rfl (dP rfl rfl (o_move (v := .bool (Option.isNone r4)) rfl ?_)))))
              refine dGT rfl rfl hb8 ?_
              refine dP rfl rfl (o_move (v := eErr 83 r7) rfl ?_)
              refine dGT rfl rfl rfl ?_
              refine dP rfl rfl (o_isnil td29 (E := 83) rfl rfl rfl (dP rfl rfl (o_pickT rfl rfl (v := .bool (Option.isNone r7)) rfl (dP rfl rfl (o_move (v := .bool (Option.isNone r7)) rfl ?_)))))
              refine dGT rfl rfl hb9 ?_
              refine dL (E := ([(rg, 3)], [])) rfl rfl (by simp) (cfn) (o_loadBA (atL (k := 3) rfl) sz25 (by decide) ag25 rfl rfl (v := eDiagram r1) rfl ?_)
              refine dGT rfl rfl rfl ?_
              refine dL (E := ([(rg, 1)], [])) rfl rfl (by simp) (cfa (by simp [apartE]) (cfn)) (o_loadBA (atL (k := 1) rfl) sz25 (by decide) ag25 rfl rfl (v := eDiagram d) rfl ?_)
              refine dGT rfl rfl rfl ?_
              refine dC (vs := [eDiagram d]) rfl (vl' vr (vn)) (fun _ => ref16_Not_ctr hc (fun _ hr => ⟨by rw [hr], rfl⟩)) rfl ?_
              refine dGT rfl rfl rfl ?_
              refine dC (vs := [eDiagram r1, eDiagram r13]) rfl (vl' vr (vl' vr (vn))) (fun _ => base_Diagram_ctr hc1 (fun _ hr => ⟨by rw [hr], rfl⟩)) rfl ?_
              refine dP rfl rfl (o_pickT rfl rfl (v := .bool r14) rfl (dP rfl rfl (o_move (v := .bool r14) rfl ?_)))
              refine dGT rfl rfl hb10 ?_
              refine dP rfl rfl (o_move (v := .int .i64 r3) rfl ?_)
              refine dGT rfl rfl rfl ?_
              refine dL (E := ([(rg, 1)], [])) rfl rfl (by simp) (cfo (by kernel_rfl) (cfo (by kernel_rfl) (cfn))) (o_loadBA (atL (k := 1) rfl) sz25 (by decide) ag25 rfl rfl (v := eDiagram d) rfl ?_)
              refine dGT rfl rfl rfl ?_
              refine dC (vs := [eDiagram d]) rfl (vl' vr (vn)) (fun _ => ref16_Count_ctr hc2 (fun _ hr => ⟨by rw [hr], rfl⟩)) rfl ?_
              refine dGT rfl rfl rfl ?_
              refine dP rfl rfl (o_eql rfl rfl (dP rfl rfl (o_pickT rfl rfl (v := .bool (r3 == r15)) rfl (dP rfl rfl (o_move (v := .bool (r3 == r15)) rfl ?_)))))
              refine dGT rfl rfl hb11 ?_
              refine dP rfl rfl (o_move (v := .int .i64 r5) rfl ?_)
              refine dGT rfl rfl rfl ?_
              refine dP rfl rfl (o_move (v := .int .i64 r11) rfl ?_)
              refine dGT rfl rfl rfl ?_
              refine dP rfl rfl (o_eql rfl rfl (dP rfl rfl (o_pickT rfl rfl (v := .bool (r5 == r11)) rfl (dP rfl rfl (o_move (v := .bool (r5 == r11)) rfl ?_)))))
              refine dGF rfl rfl hb12 rfl ?_
              refine dGF rfl rfl rfl rfl ?_
              refine dGF rfl rfl rfl rfl ?_
              refine dP rfl rfl (o_pickF rfl rfl (v := .bool false) rfl (dP rfl rfl (o_assign (v := .bool false) rfl (dN ?_))))
              refine Vc.ret' ?_
              refine res_tmp (v := .bool false) rfl (res_nil ?_)
              show Gives _ (.bool false) _
              exact gives_out hrg (VW.refl _) (hQ _ h)
            replace h := h.2 hb11
            refine Vc.drawn' mixed rg (usOf [(13, pc (eDiagram r13)), (14, pc (.bool r14)), (19, pc (.int .i64 r15))]) (by kernel_rfl) ?_
            refine dP rfl rfl (o_move (v := eErr 83 r2) rfl (dP rfl rfl (o_isnil td29 (E := 83) rfl rfl rfl (dP rfl rfl (o_move (v := .bool (Option.isNone r2)) rfl ?_)))))
            refine dGT rfl rfl hb7 ?_
            refine dP rfl rfl (o_move (v := eErr 83 r4) rfl ?_)
            refine dGT rfl rfl rfl ?_
            refine dP rfl rfl (o_isnil td29 (E := 83) rfl rfl rfl (dP rfl rfl (o_pickT rfl rfl (v := .bool (Option.isNone r4)) rfl (dP rfl rfl (o_move (v := .bool (Option.isNone r4)) rfl ?_)))))
            refine dGT rfl rfl hb8 ?_
            refine dP rfl rfl (o_move (v := eErr 83 r7) rfl ?_)
            refine dGT rfl rfl rfl ?_
            refine dP rfl rfl (o_isnil td29 (E := 83) rfl rfl rfl (dP rfl rfl (o_pickT rfl rfl (v := .bool (Option.isNone r7)) rfl (dP rfl rfl (o_move (v := .bool (Option.isNone r7)) rfl ?_)))))
            refine dGT rfl rfl hb9 ?_
            refine dL (E := ([(rg, 3)], [])) rfl rfl (by simp) (cfn) (o_loadBA (atL (k := 3) rfl) sz25 (by decide) ag25 rfl rfl (v := eDiagram r1) rfl ?_)
            refine dGT rfl rfl rfl ?_
            refine dL (E := ([(rg, 1)], [])) rfl rfl (by simp) (cfa (by simp [apartE]) (cfn)) (o_loadBA (atL (k := 1) rfl) sz25 (by decide) ag25 rfl rfl (v := eDiagram d) rfl ?_)
            refine dGT rfl rfl rfl ?_
            refine dC (vs := [eDiagram d]) rfl (vl' vr (vn)) (fun _ => ref16_Not_ctr hc (fun _ hr => ⟨by rw [hr], rfl⟩)) rfl ?_
            refine dGT rfl rfl rfl ?_
            refine dC (vs := [eDiagram r1, eDiagram r13]) rfl (vl' vr (vl' vr (vn))) (fun _ => base_Diagram_ctr hc1 (fun _ hr => ⟨by rw [hr], rfl⟩)) rfl ?_
            refine dP rfl rfl (o_pickT rfl rfl (v := .bool r14) rfl (dP rfl rfl (o_move (v := .bool r14) rfl ?_)))
            refine dGT rfl rfl hb10 ?_
            refine dP rfl rfl (o_move (v := .int .i64 r3) rfl ?_)
            refine dGT rfl rfl rfl ?_
            refine dL (E := ([(rg, 1)], [])) rfl rfl (by simp) (cfo (by kernel_rfl) (cfo (by kernel_rfl) (cfn))) (o_loadBA (atL (k := 1) rfl) sz25 (by decide) ag25 rfl rfl (v := eDiagram d) rfl ?_)
            refine dGT rfl rfl rfl ?_
            refine dC (vs := [eDiagram d]) rfl (vl' vr (vn)) (fun _ => ref16_Count_ctr hc2 (fun _ hr => ⟨by rw [hr], rfl⟩)) rfl ?_
            refine dGT rfl rfl rfl ?_
            refine dP rfl rfl (o_eql rfl rfl (dP rfl rfl (o_pickT rfl rfl (v := .bool (r3 == r15)) rfl (dP rfl rfl (o_move (v := .bool (r3 == r15)) rfl ?_)))))
            refine dGF rfl rfl hb11 rfl ?_
            refine dGF rfl rfl rfl rfl ?_
            refine dGF rfl rfl rfl rfl ?_
            refine dP rfl rfl (o_pickF rfl rfl (v := .bool false) rfl (dP rfl rfl (o_move (v := .bool false) rfl ?_)))
            refine dGF rfl rfl rfl rfl ?_
            refine dGF rfl rfl rfl rfl ?_
            refine dGF rfl rfl rfl rfl ?_
            refine dP rfl rfl (o_pickF rfl rfl (v := .bool false) rfl (dP rfl rfl (o_assign (v := .bool false) rfl (dN ?_))))
            refine Vc.ret' ?_
            refine res_tmp (v := .bool false) rfl (res_nil ?_)
            show Gives _ (.bool false) _
            exact gives_out hrg (VW.refl _) (hQ _ h)
          replace h := h.2 hb10
          refine Vc.drawn' mixed rg (usOf [(13, pc (eDiagram r13)), (14, pc (.bool r14))]) (by kernel_rfl) ?_
          refine dP rfl rfl (o_move (v := eErr 83 r2) rfl (dP rfl rfl (o_isnil td29 (E := 83) rfl rfl rfl (dP rfl rfl (o_move (v := .bool (Option.isNone r2)) rfl ?_)))))
          refine dGT rfl rfl hb7 ?_
          refine dP rfl rfl (o_move (v := eErr 83 r4) rfl ?_)
          refine dGT rfl rfl rfl ?_
          refine dP rfl rfl (o_isnil td29 (E := 83) rfl rfl rfl (dP rfl rfl (o_pickT rfl rfl (v := .bool (Option.isNone r4)) rfl (dP rfl rfl (o_move (v := .bool (Option.isNone r4)) rfl ?_)))))
          refine dGT rfl rfl hb8 ?_
          refine dP rfl rfl (o_move (v := eErr 83 r7) rfl ?_)
          refine dGT rfl rfl rfl ?_
          refine dP rfl rfl (o_isnil td29 (E := 83) rfl rfl rfl (dP rfl rfl (o_pickT rfl rfl (v := .bool (Option.isNone r7)) rfl (dP rfl rfl (o_move (v := .bool (Option.isNone r7)) rfl ?_)))))
          refine dGT rfl rfl hb9 ?_
          refine dL (E := ([(rg, 3)], [])) rfl rfl (by simp) (cfn) (o_loadBA (atL (k := 3) rfl) sz25 (by decide) ag25 rfl rfl (v := eDiagram r1) rfl ?_)
          refine dGT rfl rfl rfl ?_
          refine dL (E := ([(rg, 1)], [])) rfl rfl (by simp) (cfa (by simp [apartE]) (cfn)) (o_loadBA (atL (k := 1) rfl) sz25 (by decide) ag25 rfl rfl (v := eDiagram d) rfl ?_)
          refine dGT rfl rfl rfl ?_
          refine dC (vs := [eDiagram d]) rfl (vl' vr (vn)) (fun _ => ref16_Not_ctr hc (fun _ hr => ⟨by rw [hr], rfl⟩)) rfl ?_
          refine dGT rfl rfl rfl ?_
          refine dC (vs := [eDiagram r1, eDiagram r13]) rfl (vl' vr (vl' vr (vn))) (fun _ => base_Diagram_ctr hc1 (fun _ hr => ⟨by rw [hr], rfl⟩)) rfl ?_
          refine dP rfl rfl (o_pickT rfl rfl (v := .bool r14) rfl (dP rfl rfl (o_move (v := .bool r14) rfl ?_)))
          refine dGF rfl rfl hb10 rfl ?_
          refine dGF rfl rfl rfl rfl ?_
          refine dGF rfl rfl rfl rfl ?_
          refine dGF rfl rfl rfl rfl ?_
          refine dP rfl rfl (o_pickF rfl rfl (v := .bool false) rfl (dP rfl rfl (o_move (v := .bool false) rfl ?_)))
          refine dGF rfl rfl rfl rfl ?_
          refine dGF rfl rfl rfl rfl ?_
          refine dGF rfl rfl rfl rfl ?_
          refine dP rfl rfl (o_pickF rfl rfl (v := .bool false) rfl (dP rfl rfl (o_move (v := .bool false) rfl ?_)))
          refine dGF rfl rfl rfl rfl ?_
          refine dGF rfl rfl rfl rfl ?_
          refine dGF rfl rfl rfl rfl ?_
          refine dP rfl rfl (o_pickF rfl rfl (v := .bool false) rfl (dP rfl rfl (o_assign (v := .bool false) rfl (dN ?_))))
          refine Vc.ret' ?_
          refine res_tmp (v := .bool false) rfl (res_nil ?_)
          show Gives _ (.bool false) _
          exact gives_out hrg (VW.refl _) (hQ _ h)
        replace h := h.2 hb9
        refine Vc.drawn' mixed rg (fun _ => jcr2) (by kernel_rfl) ?_
        refine dP rfl rfl (o_move (v := eErr 83 r2) rfl (dP rfl rfl (o_isnil td29 (E := 83) rfl rfl rfl (dP rfl rfl (o_move (v := .bool (Option.isNone r2)) rfl ?_)))))
        refine dGT rfl rfl hb7 ?_
        refine dP rfl rfl (o_move (v := eErr 83 r4) rfl ?_)
        refine dGT rfl rfl rfl ?_
        refine dP rfl rfl (o_isnil td29 (E := 83) rfl rfl rfl (dP rfl rfl (o_pickT rfl rfl (v := .bool (Option.isNone r4)) rfl (dP rfl rfl (o_move (v := .bool (Option.isNone r4)) rfl ?_)))))
        refine dGT rfl rfl hb8 ?_
        refine dP rfl rfl (o_move (v := eErr 83 r7) rfl ?_)
        refine dGT rfl rfl rfl ?_
        refine dP rfl rfl (o_isnil td29 (E := 83) rfl rfl rfl (dP rfl rfl (o_pickT rfl rfl (v := .bool (Option.isNone r7)) rfl (dP rfl rfl (o_move (v := .bool (Option.isNone r7)) rfl ?_)))))
        refine dGF rfl rfl hb9 rfl ?_
        refine dGF rfl rfl rfl rfl ?_
        refine dGF rfl rfl rfl rfl ?_
        refine dGF rfl rfl rfl rfl ?_
        refine dP rfl rfl (o_pickF rfl rfl (v := .bool false) rfl (dP rfl rfl (o_move (v := .bool false) rfl ?_)))
        refine dGF rfl rfl rfl rfl ?_
        refine dGF rfl rfl rfl rfl ?_
        refine dGF rfl rfl rfl rfl ?_
        refine dGF rfl rfl rfl rfl ?_
        refine dP rfl rfl (o_pickF rfl rfl (v := .bool false) rfl (dP rfl rfl (o_move (v := .bool false) rfl ?_)))
        refine dGF rfl rfl rfl rfl ?_
        refine dGF rfl rfl rfl rfl ?_
        refine dGF rfl rfl rfl rfl ?_
        refine dP rfl rfl (o_pickF rfl rfl (v := .bool false) rfl (dP rfl rfl (o_move (v := .bool false) rfl ?_)))
        refine dGF rfl rfl rfl rfl ?_
        refine dGF rfl rfl rfl rfl ?_
        refine dGF rfl rfl rfl rfl ?_
        refine dP rfl rfl (o_pickF rfl rfl (v := .bool false) rfl (dP rfl rfl (o_assign (v := .bool false) rfl (dN ?_))))
        refine Vc.ret' ?_
        refine res_tmp (v := .bool false) rfl (res_nil ?_)
        show Gives _ (.bool false) _
        exact gives_out hrg (VW.refl _) (hQ _ h)
      replace h := h.2 hb8
      refine Vc.drawn' mixed rg (fun _ => jcr2) (by kernel_rfl) ?_
      refine dP rfl rfl (o_move (v := eErr 83 r2) rfl (dP rfl rfl (o_isnil td29 (E := 83) rfl rfl rfl (dP rfl rfl (o_move (v := .bool (Option.isNone r2)) rfl ?_)))))
      refine dGT rfl rfl hb7 ?_
      refine dP rfl rfl (o_move (v := eErr 83 r4) rfl ?_)
      refine dGT rfl rfl rfl ?_
      refine dP rfl rfl (o_isnil td29 (E := 83) rfl rfl rfl (dP rfl rfl (o_pickT rfl rfl (v := .bool (Option.isNone r4)) rfl (dP rfl rfl (o_move (v := .bool (Option.isNone r4)) rfl ?_)))))
      refine dGF rfl rfl hb8 rfl ?_
      refine dGF rfl rfl rfl rfl ?_
      refine dP rfl rfl (o_pickF rfl rfl (v := .bool false) rfl (dP rfl rfl (o_move (v := .bool false) rfl ?_)))
      refine dGF rfl rfl rfl rfl ?_
      refine dGF rfl rfl rfl rfl ?_
      refine dGF rfl rfl rfl rfl ?_
      refine dGF rfl rfl rfl rfl ?_
      refine dP rfl rfl (o_pickF rfl rfl (v := .bool false) rfl (dP rfl rfl (o_move (v := .bool false) rfl ?_)))
      refine dGF rfl rfl rfl rfl ?_
      refine dGF rfl rfl rfl rfl ?_
      refine dGF rfl rfl rfl rfl ?_
      refine dGF rfl rfl rfl rfl ?_
      refine dP rfl rfl (o_pickF rfl rfl (v := .bool false) rfl (dP rfl rfl (o_move (v := .bool false) rfl ?_)))
      refine dGF rfl rfl rfl rfl ?_
      refine dGF rfl rfl rfl rfl ?_
      refine dGF rfl rfl rfl rfl ?_
      refine dP rfl rfl (o_pickF rfl rfl (v := .bool false) rfl (dP rfl rfl (o_move (v := .bool false) rfl ?_)))
      refine dGF rfl rfl rfl rfl ?_
      refine dGF rfl rfl rfl rfl ?_
      refine dGF rfl rfl rfl rfl ?_
      refine dP rfl rfl (o_pickF rfl rfl (v := .bool false) rfl (dP rfl rfl (o_assign (v := .bool false) rfl (dN ?_))))
      refine Vc.ret' ?_
      refine res_tmp (v := .bool false) rfl (res_nil ?_)
      show Gives _ (.bool false) _
      exact gives_out hrg (VW.refl _) (hQ _ h)
    replace h := h.2 hb7
    refine Vc.drawn' mixed rg (fun _ => jcr2) (by kernel_rfl) ?_
    refine dP rfl rfl (o_move (v := eErr 83 r2) rfl (dP rfl rfl (o_isnil td29 (E := 83) rfl rfl rfl (dP rfl rfl (o_move (v := .bool (Option.isNone r2)) rfl ?_)))))
    refine dGF rfl rfl hb7 rfl ?_
    refine dGF rfl rfl rfl rfl ?_
    refine dP rfl rfl (o_pickF rfl rfl (v := .bool false) rfl (dP rfl rfl (o_move (v := .bool false) rfl ?_)))
    refine dGF rfl rfl rfl rfl ?_
    refine dGF rfl rfl rfl rfl ?_
    refine dP rfl rfl (o_pickF rfl rfl (v := .bool false) rfl (dP rfl rfl (o_move (v := .bool false) rfl ?_)))
    refine dGF rfl rfl rfl rfl ?_
    refine dGF rfl rfl rfl rfl ?_
    refine dGF rfl rfl rfl rfl ?_
    refine dGF rfl rfl rfl rfl ?_
    refine dP rfl rfl (o_pickF rfl rfl (v := .bool false) rfl (dP rfl rfl (o_move (v := .bool false) rfl ?_)))
    refine dGF rfl rfl rfl rfl ?_
    refine dGF rfl rfl rfl rfl ?_
    refine dGF rfl rfl rfl rfl ?_
    refine dGF rfl rfl rfl rfl ?_
    refine dP rfl rfl (o_pickF rfl rfl (v := .bool false) rfl (dP rfl rfl (o_move (v := .bool false) rfl ?_)))
    refine dGF rfl rfl rfl rfl ?_
    refine dGF rfl rfl rfl rfl ?_
    refine dGF rfl rfl rfl rfl ?_
    refine dP rfl rfl (o_pickF rfl rfl (v := .bool false) rfl (dP rfl rfl (o_move (v := .bool false) rfl ?_)))
    refine dGF rfl rfl rfl rfl ?_
    refine dGF rfl rfl rfl rfl ?_
    refine dGF rfl rfl rfl rfl ?_
    refine dP rfl rfl (o_pickF rfl rfl (v := .bool false) rfl (dP rfl rfl (o_assign (v := .bool false) rfl (dN ?_))))
    refine Vc.ret' ?_
    refine res_tmp (v := .bool false) rfl (res_nil ?_)
    show Gives _ (.bool false) _
    exact gives_out hrg (VW.refl _) (hQ _ h)
  refine rZ ?_
  refine wZ rg (o_call (us := []) rfl (vn) (law16_awake_ctr h fun r16 h => (wZ rg (o_not rfl (mvZ (.bool (!r16)) rfl ?_)))))
  refine Wl.guard rfl rfl (fun hb13 => ?_) (fun hb13 => ?_)
  · replace h := h.2 hb13
    refine wZ rg (o_loadBA (atL (k := 1) rfl) sz25 (by decide) ag25 rfl rfl (v := eDiagram d) rfl ?_)
    refine Wl.guardT rfl rfl hb13 ?_
    refine wZ rg (o_call (us := [eDiagram d]) rfl (vl' vr (vn)) (law16_large_ctr h fun r17 h => (wZ rg (o_pickF rfl hb13 (v := .bool r17) rfl (nZ ?_)))))
    exact ⟨(r17, g1), (canon (fc vr (fc vr (fn))) (sc rfl (sn))), h⟩
  replace h := h.1 hb13
  refine Wl.guardF rfl rfl hb13 rfl ?_
  refine wZ rg (o_pickT rfl hb13 (v := .bool true) rfl (nZ ?_))
  exact ⟨(true, g1), (canon (fc vr (fc vr (fn))) (sc rfl (sn))), h⟩
end Go.Proofs.Ytllegjdggcmgaaa
