/- Walks of functions. Conditions: none. -/
import Derived.Test.YtonbnfgknijpoaaWH45
import Derived.Test.YtonbnfgknijpoaaGgTy
import Derived.Test.YtonbnfgknijpoaaKB
import Derived.Test.YtonbnfgknijpoaaKPcommon
import Derived.Test.YtonbnfgknijpoaaKS
namespace Go.Proofs.Ytonbnfgknijpoaa
open Go.Gg
set_option maxRecDepth 100000
theorem law45_part_ctr {n : Int} {d : Int} {Q : GRat → Prop} {S : St} {R : AV → St → Prop} (h : law45_part_W n d Q) (hQ : ∀ r1, Q r1 → R (eRat r1) S) :
    Ctr Try.prog 94 [AV.int .i64 n, AV.int .i64 d] S R := by
  unfold law45_part_W at h
  refine enterT Try.func94 rfl Try.ntmps94 Try.results94 (by kernel_rfl) (fun rg hrg => ?_)
  refine qZ (rZ ?_)
  refine wZ rg (o_alloc zav27 ok27 (kk := 3) rfl (fun g1 => ?_))
  refine nZ (qZ (rZ ?_))
  refine mvZ (.int .i64 n) rfl ?_
  refine mvZ (.int .i64 d) rfl ?_
  refine wZ rg (o_call (us := [AV.int .i64 n, AV.int .i64 d]) rfl (vl' vr (vl' vr (vn))) (ref02_Make_ctr h fun r r1 h => ?_))
  refine mvZ (.tuple [eRat r, .int .i64 r1]) rfl ?_
  refine wZ rg (o_extract (v := eRat r) rfl rfl rfl ?_)
  refine wZ rg (o_extract (v := .int .i64 r1) rfl rfl rfl ?_)
  refine wZ rg (o_alloc zav27 ok27 (kk := 3) rfl (fun g2 => ?_))
  refine wZ rg (o_storeB (atL (k := 5) rfl) sz27 (by decide) rfl (w := eRat r) rfl rfl rfl (v := eRat r) rfl setL ?_)
  refine asZ (.int .i64 r1) rfl ?_
  refine nZ (qZ (rZ ?_))
  refine wZ rg (o_loadBA (atL (k := 5) rfl) sz27 (by decide) ag27 rfl rfl (v := eRat r) rfl ?_)
  refine wZ rg (o_storeB (atL (k := 4) rfl) sz27 (by decide) rfl (w := eRat r) rfl rfl rfl (v := eRat r) rfl setL ?_)
  refine nZ ?_
  refine Vc.ret' ?_
  refine res_cellA (atL (k := 4) rfl) sz27 (by decide) ag27 rfl rfl (v := eRat r) rfl ?_
  refine res_nil ?_
  show Gives _ (eRat r) _
  exact gives_out hrg (VW.refl _) (hQ _ h)
theorem law45_awake_ctr {Q : Bool → Prop} {S : St} {R : AV → St → Prop} (h : law45_awake_W Q) (hQ : ∀ r1, Q r1 → R (AV.bool r1) S) :
    Ctr Try.prog 30 [] S R := by
  unfold law45_awake_W at h
  refine enterT Try.func30 rfl Try.ntmps30 Try.results30 (by kernel_rfl) (fun rg hrg => ?_)
  refine qZ (rZ ?_)
  refine asZ (.bool false) rfl ?_
  refine nZ (qZ (rZ ?_))
  refine wZ rg (o_call (us := [AV.int .i64 1, AV.int .i64 10]) rfl (vl' vr (vl' vr (vn))) (law45_part_ctr h fun r h => ?_))
  refine wZ rg (o_call (us := [AV.int .i64 1, AV.int .i64 2]) rfl (vl' vr (vl' vr (vn))) (law45_part_ctr h fun r1 h => ?_))
  refine wZ rg (o_call (us := [eRat r, eRat r1]) rfl (vl' vr (vl' vr (vn))) (common_Beta_ctr h fun r2 r3 r4 h => ?_))
  refine mvZ (.tuple [eRat r2, eRat r3, eErr 107 r4]) rfl ?_
  refine wZ rg (o_extract (v := eRat r2) rfl rfl rfl ?_)
  refine wZ rg (o_extract (v := eRat r3) rfl rfl rfl ?_)
  refine wZ rg (o_extract (v := eErr 107 r4) rfl rfl rfl ?_)
  refine wZ rg (o_alloc zav27 ok27 (kk := 3) rfl (fun g1 => ?_))
  refine wZ rg (o_alloc zav27 ok27 (kk := 3) rfl (fun g2 => ?_))
  refine wZ rg (o_storeB (atL (k := 1) rfl) sz27 (by decide) rfl (w := eRat r2) rfl rfl rfl (v := eRat r2) rfl setL ?_)
  refine wZ rg (o_storeB (atL (k := 2) rfl) sz27 (by decide) rfl (w := eRat r3) rfl rfl rfl (v := eRat r3) rfl setL ?_)
  refine asZ (eErr 107 r4) rfl ?_
  refine nZ (qZ (rZ ?_))
  refine wZ rg (o_call (us := [AV.int .i64 1]) rfl (vl' vr (vn)) (ref02_Of_ctr h fun r5 h => ?_))
  refine wZ rg (o_call (us := [AV.int .i64 1, AV.int .i64 2]) rfl (vl' vr (vl' vr (vn))) (law45_part_ctr h fun r6 h => ?_))
  refine wZ rg (o_call (us := [AV.int .i64 1, AV.int .i64 3]) rfl (vl' vr (vl' vr (vn))) (law45_part_ctr h fun r7 h => ?_))
  refine wZ rg (o_bslice td22 ok27 zav27 (es := [eRat r6, eRat r7]) rfl (kk := 3) rfl rfl rfl rfl rfl rfl (fun g3 => ?_))
  refine Wl.wk (canon_freeze (k := 17) (xs := List.map eRat [r6, r7]) rfl (es := [(1, .ptr rg 1 g1 0 0), (2, .ptr rg 2 g2 0 0), (3, eErr 107 r4), (14, eRat r5), (17, eL eRat [r6, r7])]) (fc vr (fc vr (fc (fzE0) (fc vr (fc (frz_full rfl) (fn)))))) (m := [(1, .arr 3 [eRat r2], g1), (2, .arr 3 [eRat r3], g2)]) (sc rfl (sc rfl (sn)))) ?_
  refine wZ rg (o_call (us := [eRat r5, eL eRat [r6, r7]]) rfl (vl' vr (vl' vr (vn))) (common_Greek_ctr h fun r8 r9 h => ?_))
  refine mvZ (.tuple [eL eRat r8, eErr 107 r9]) rfl ?_
  refine wZ rg (o_extract (v := eL eRat r8) rfl rfl rfl ?_)
  refine wZ rg (o_extract (v := eErr 107 r9) rfl rfl rfl ?_)
  refine asZ (eL eRat r8) rfl ?_
  refine asZ (eErr 107 r9) rfl ?_
  refine nZ (qZ ?_)
  rcases Bool.eq_false_or_eq_true (Option.isNone r4) with hb | hb
  · replace h := h.1 hb
    rcases Bool.eq_false_or_eq_true (Option.isNone r9) with hb1 | hb1
    · replace h := h.1 hb1
      obtain ⟨r10, hc, h⟩ := h
      obtain ⟨r11, hc1, h⟩ := h
      rcases Bool.eq_false_or_eq_true r11 with hb2 | hb2
      · replace h := h.1 hb2
        obtain ⟨r12, hc2, h⟩ := h
        obtain ⟨r13, hc3, h⟩ := h
        rcases Bool.eq_false_or_eq_true r13 with hb3 | hb3
        · replace h := h.1 hb3
          obtain ⟨r14, hc4, h⟩ := h
          obtain ⟨r15, hc5, h⟩ := h
          obtain ⟨r16, hc6, h⟩ := h
          obtain ⟨r17, hc7, h⟩ := h
          refine Vc.drawn' mixed rg (usOf [(8, pc (eRat r10)), (9, pc (.bool r11)), (13, pc (eRat r12)), (14, pc (.bool r13)), (18, pc (eRat r14)), (19, pc (eRat r15)), (20, pc (eRat r16)), (21, pc (.list [])), (22, pc (.bool r17))]) (by kernel_rfl) ?_
          refine dP rfl rfl (o_move (v := eErr 107 r4) rfl ?_)
          refine dP rfl rfl (o_isnil td31 (E := 107) rfl rfl rfl ?_)
          refine dP rfl rfl (o_move (v := .bool (Option.isNone r4)) rfl ?_)
          refine dGT rfl rfl hb ?_
          refine dP rfl rfl (o_move (v := eErr 107 r9) rfl ?_)
          refine dGT rfl rfl rfl ?_
          refine dP rfl rfl (o_isnil td31 (E := 107) rfl rfl rfl ?_)
          refine dP rfl rfl (o_pickT rfl rfl (v := .bool (Option.isNone r9)) rfl ?_)
          refine dP rfl rfl (o_move (v := .bool (Option.isNone r9)) rfl ?_)
          refine dGT rfl rfl hb1 ?_
          refine dL (E := ([(rg, 1)], none)) rfl rfl (by simp) (cfn) (o_loadBA (atL (k := 1) rfl) sz27 (by decide) ag27 rfl rfl (v := eRat r2) rfl ?_)
          refine dGT rfl rfl rfl ?_
          refine dC (vs := [AV.int .i64 1, AV.int .i64 19]) rfl (vl' vr (vl' vr (vn))) (fun _ => law45_part_ctr hc (fun _ hr => ⟨by rw [hr], rfl⟩)) rfl ?_
          refine dGT rfl rfl rfl ?_
          refine dC (vs := [eRat r2, eRat r10]) rfl (vl' vr (vl' vr (vn))) (fun _ => base_Rat_ctr hc1 (fun _ hr => ⟨by rw [hr], rfl⟩)) rfl ?_
          refine dP rfl rfl (o_pickT rfl rfl (v := .bool r11) rfl ?_)
          refine dP rfl rfl (o_move (v := .bool r11) rfl ?_)
          refine dGT rfl rfl hb2 ?_
          refine dL (E := ([(rg, 2)], none)) rfl rfl (by simp) (cfo (by kernel_rfl) (cfn)) (o_loadBA (atL (k := 2) rfl) sz27 (by decide) ag27 rfl rfl (v := eRat r3) rfl ?_)
          refine dGT rfl rfl rfl ?_
          refine dC (vs := [AV.int .i64 1, AV.int .i64 20]) rfl (vl' vr (vl' vr (vn))) (fun _ => law45_part_ctr hc2 (fun _ hr => ⟨by rw [hr], rfl⟩)) rfl ?_
          refine dGT rfl rfl rfl ?_
          refine dC (vs := [eRat r3, eRat r12]) rfl (vl' vr (vl' vr (vn))) (fun _ => base_Rat_ctr hc3 (fun _ hr => ⟨by rw [hr], rfl⟩)) rfl ?_
          refine dP rfl rfl (o_pickT rfl rfl (v := .bool r13) rfl ?_)
          refine dP rfl rfl (o_move (v := .bool r13) rfl ?_)
          refine dGT rfl rfl hb3 ?_
          refine dP rfl rfl (o_move (v := eL eRat r8) rfl ?_)
          refine dGT rfl rfl rfl ?_
          refine dC (vs := [AV.int .i64 1, AV.int .i64 2]) rfl (vl' vr (vl' vr (vn))) (fun _ => law45_part_ctr hc4 (fun _ hr => ⟨by rw [hr], rfl⟩)) rfl ?_
          refine dGT rfl rfl rfl ?_
          refine dC (vs := [AV.int .i64 1, AV.int .i64 6]) rfl (vl' vr (vl' vr (vn))) (fun _ => law45_part_ctr hc5 (fun _ hr => ⟨by rw [hr], rfl⟩)) rfl ?_
          refine dGT rfl rfl rfl ?_
          refine dC (vs := [AV.int .i64 1, AV.int .i64 6]) rfl (vl' vr (vl' vr (vn))) (fun _ => law45_part_ctr hc6 (fun _ hr => ⟨by rw [hr], rfl⟩)) rfl ?_
          refine dGT rfl rfl rfl ?_
          refine dB (l0 := []) rfl td22 ok27 zav27 (es := [eRat r14, eRat r15, eRat r16]) rfl (kk := 3) rfl rfl rfl rfl rfl ?_
          refine dGT rfl rfl rfl ?_
          refine dC (vs := [eL eRat r8, eL eRat [r14, r15, r16]]) rfl (vl' vr (vl' vr (vn))) (fun _ => base_Rats_ctr hc7 (fun _ hr => ⟨by rw [hr], rfl⟩)) rfl ?_
          refine dP rfl rfl (o_pickT rfl rfl (v := .bool r17) rfl ?_)
          refine dP rfl rfl (o_assign (v := .bool r17) rfl ?_)
          refine dN ?_
          refine Vc.ret' ?_
          refine res_tmp (v := .bool r17) rfl ?_
          refine res_nil ?_
          show Gives _ (.bool r17) _
          exact gives_out hrg (VW.refl _) (hQ _ h)
        replace h := h.2 hb3
        refine Vc.drawn' mixed rg (usOf [(8, pc (eRat r10)), (9, pc (.bool r11)), (13, pc (eRat r12)), (14, pc (.bool r13))]) (by kernel_rfl) ?_
        refine dP rfl rfl (o_move (v := eErr 107 r4) rfl ?_)
        refine dP rfl rfl (o_isnil td31 (E := 107) rfl rfl rfl ?_)
        refine dP rfl rfl (o_move (v := .bool (Option.isNone r4)) rfl ?_)
        refine dGT rfl rfl hb ?_
        refine dP rfl rfl (o_move (v := eErr 107 r9) rfl ?_)
        refine dGT rfl rfl rfl ?_
        refine dP rfl rfl (o_isnil td31 (E := 107) rfl rfl rfl ?_)
        refine dP rfl rfl (o_pickT rfl rfl (v := .bool (Option.isNone r9)) rfl ?_)
        refine dP rfl rfl (o_move (v := .bool (Option.isNone r9)) rfl ?_)
        refine dGT rfl rfl hb1 ?_
        refine dL (E := ([(rg, 1)], none)) rfl rfl (by simp) (cfn) (o_loadBA (atL (k := 1) rfl) sz27 (by decide) ag27 rfl rfl (v := eRat r2) rfl ?_)
        refine dGT rfl rfl rfl ?_
        refine dC (vs := [AV.int .i64 1, AV.int .i64 19]) rfl (vl' vr (vl' vr (vn))) (fun _ => law45_part_ctr hc (fun _ hr => ⟨by rw [hr], rfl⟩)) rfl ?_
        refine dGT rfl rfl rfl ?_
        refine dC (vs := [eRat r2, eRat r10]) rfl (vl' vr (vl' vr (vn))) (fun _ => base_Rat_ctr hc1 (fun _ hr => ⟨by rw [hr], rfl⟩)) rfl ?_
        refine dP rfl rfl (o_pickT rfl rfl (v := .bool r11) rfl ?_)
        refine dP rfl rfl (o_move (v := .bool r11) rfl ?_)
        refine dGT rfl rfl hb2 ?_
        refine dL (E := ([(rg, 2)], none)) rfl rfl (by simp) (cfo (by kernel_rfl) (cfn)) (o_loadBA (atL (k := 2) rfl) sz27 (by decide) ag27 rfl rfl (v := eRat r3) rfl ?_)
        refine dGT rfl rfl rfl ?_
        refine dC (vs := [AV.int .i64 1, AV.int .i64 20]) rfl (vl' vr (vl' vr (vn))) (fun _ => law45_part_ctr hc2 (fun _ hr => ⟨by rw [hr], rfl⟩)) rfl ?_
        refine dGT rfl rfl rfl ?_
        refine dC (vs := [eRat r3, eRat r12]) rfl (vl' vr (vl' vr (vn))) (fun _ => base_Rat_ctr hc3 (fun _ hr => ⟨by rw [hr], rfl⟩)) rfl ?_
        refine dP rfl rfl (o_pickT rfl rfl (v := .bool r13) rfl ?_)
        refine dP rfl rfl (o_move (v := .bool r13) rfl ?_)
        refine dGF rfl rfl hb3 rfl ?_
        refine dGF rfl rfl rfl rfl ?_
        refine dGF rfl rfl rfl rfl ?_
        refine dGF rfl rfl rfl rfl ?_
        refine dGF rfl rfl rfl rfl ?_
        refine dGF rfl rfl rfl rfl ?_
        refine dP rfl rfl (o_pickF rfl rfl (v := .bool false) rfl ?_)
        refine dP rfl rfl (o_assign (v := .bool false) rfl ?_)
        refine dN ?_
        refine Vc.ret' ?_
        refine res_tmp (v := .bool false) rfl ?_
        refine res_nil ?_
        show Gives _ (.bool false) _
        exact gives_out hrg (VW.refl _) (hQ _ h)
      replace h := h.2 hb2
      refine Vc.drawn' mixed rg (usOf [(8, pc (eRat r10)), (9, pc (.bool r11))]) (by kernel_rfl) ?_
      refine dP rfl rfl (o_move (v := eErr 107 r4) rfl ?_)
      refine dP rfl rfl (o_isnil td31 (E := 107) rfl rfl rfl ?_)
      refine dP rfl rfl (o_move (v := .bool (Option.isNone r4)) rfl ?_)
      refine dGT rfl rfl hb ?_
      refine dP rfl rfl (o_move (v := eErr 107 r9) rfl ?_)
      refine dGT rfl rfl rfl ?_
      refine dP rfl rfl (o_isnil td31 (E := 107) rfl rfl rfl ?_)
      refine dP rfl rfl (o_pickT rfl rfl (v := .bool (Option.isNone r9)) rfl ?_)
      refine dP rfl rfl (o_move (v := .bool (Option.isNone r9)) rfl ?_)
      refine dGT rfl rfl hb1 ?_
      refine dL (E := ([(rg, 1)], none)) rfl rfl (by simp) (cfn) (o_loadBA (atL (k := 1) rfl) sz27 (by decide) ag27 rfl rfl (v := eRat r2) rfl ?_)
      refine dGT rfl rfl rfl ?_
      refine dC (vs := [AV.int .i64 1, AV.int .i64 19]) rfl (vl' vr (vl' vr (vn))) (fun _ => law45_part_ctr hc (fun _ hr => ⟨by rw [hr], rfl⟩)) rfl ?_
      refine dGT rfl rfl rfl ?_
      refine dC (vs := [eRat r2, eRat r10]) rfl (vl' vr (vl' vr (vn))) (fun _ => base_Rat_ctr hc1 (fun _ hr => ⟨by rw [hr], rfl⟩)) rfl ?_
      refine dP rfl rfl (o_pickT rfl rfl (v := .bool r11) rfl ?_)
      refine dP rfl rfl (o_move (v := .bool r11) rfl ?_)
      refine dGF rfl rfl hb2 rfl ?_
      refine dGF rfl rfl rfl rfl ?_
      refine dGF rfl rfl rfl rfl ?_
      refine dP rfl rfl (o_pickF rfl rfl (v := .bool false) rfl ?_)
      refine dP rfl rfl (o_move (v := .bool false) rfl ?_)
      refine dGF rfl rfl rfl rfl ?_
      refine dGF rfl rfl rfl rfl ?_
      refine dGF rfl rfl rfl rfl ?_
      refine dGF rfl rfl rfl rfl ?_
      refine dGF rfl rfl rfl rfl ?_
      refine dGF rfl rfl rfl rfl ?_
      refine dP rfl rfl (o_pickF rfl rfl (v := .bool false) rfl ?_)
      refine dP rfl rfl (o_assign (v := .bool false) rfl ?_)
      refine dN ?_
      refine Vc.ret' ?_
      refine res_tmp (v := .bool false) rfl ?_
      refine res_nil ?_
      show Gives _ (.bool false) _
      exact gives_out hrg (VW.refl _) (hQ _ h)
    replace h := h.2 hb1
    refine Vc.drawn' mixed rg (fun _ => jcr) (by kernel_rfl) ?_
    refine dP rfl rfl (o_move (v := eErr 107 r4) rfl ?_)
    refine dP rfl rfl (o_isnil td31 (E := 107) rfl rfl rfl ?_)
    refine dP rfl rfl (o_move (v := .bool (Option.isNone r4)) rfl ?_)
    refine dGT rfl rfl hb ?_
    refine dP rfl rfl (o_move (v := eErr 107 r9) rfl ?_)
    refine dGT rfl rfl rfl ?_
    refine dP rfl rfl (o_isnil td31 (E := 107) rfl rfl rfl ?_)
    refine dP rfl rfl (o_pickT rfl rfl (v := .bool (Option.isNone r9)) rfl ?_)
    refine dP rfl rfl (o_move (v := .bool (Option.isNone r9)) rfl ?_)
    refine dGF rfl rfl hb1 rfl ?_
    refine dGF rfl rfl rfl rfl ?_
    refine dGF rfl rfl rfl rfl ?_
    refine dP rfl rfl (o_pickF rfl rfl (v := .bool false) rfl ?_)
    refine dP rfl rfl (o_move (v := .bool false) rfl ?_)
    refine dGF rfl rfl rfl rfl ?_
    refine dGF rfl rfl rfl rfl ?_
    refine dGF rfl rfl rfl rfl ?_
    refine dP rfl rfl (o_pickF rfl rfl (v := .bool false) rfl ?_)
    refine dP rfl rfl (o_move (v := .bool false) rfl ?_)
    refine dGF rfl rfl rfl rfl ?_
    refine dGF rfl rfl rfl rfl ?_
    refine dGF rfl rfl rfl rfl ?_
    refine dGF rfl rfl rfl rfl ?_
    refine dGF rfl rfl rfl rfl ?_
    refine dGF rfl rfl rfl rfl ?_
    refine dP rfl rfl (o_pickF rfl rfl (v := .bool false) rfl ?_)
    refine dP rfl rfl (o_assign (v := .bool false) rfl ?_)
    refine dN ?_
    refine Vc.ret' ?_
    refine res_tmp (v := .bool false) rfl ?_
    refine res_nil ?_
    show Gives _ (.bool false) _
    exact gives_out hrg (VW.refl _) (hQ _ h)
  replace h := h.2 hb
  refine Vc.drawn' mixed rg (fun _ => jcr) (by kernel_rfl) ?_
  refine dP rfl rfl (o_move (v := eErr 107 r4) rfl ?_)
  refine dP rfl rfl (o_isnil td31 (E := 107) rfl rfl rfl ?_)
  refine dP rfl rfl (o_move (v := .bool (Option.isNone r4)) rfl ?_)
  refine dGF rfl rfl hb rfl ?_
  refine dGF rfl rfl rfl rfl ?_
  refine dP rfl rfl (o_pickF rfl rfl (v := .bool false) rfl ?_)
  refine dP rfl rfl (o_move (v := .bool false) rfl ?_)
  refine dGF rfl rfl rfl rfl ?_
  refine dGF rfl rfl rfl rfl ?_
  refine dGF rfl rfl rfl rfl ?_
  refine dP rfl rfl (o_pickF rfl rfl (v := .bool false) rfl ?_)
  refine dP rfl rfl (o_move (v := .bool false) rfl ?_)
  refine dGF rfl rfl rfl rfl ?_
  refine dGF rfl rfl rfl rfl ?_
  refine dGF rfl rfl rfl rfl ?_
  refine dP rfl rfl (o_pickF rfl rfl (v := .bool false) rfl ?_)
  refine dP rfl rfl (o_move (v := .bool false) rfl ?_)
  refine dGF rfl rfl rfl rfl ?_
  refine dGF rfl rfl rfl rfl ?_
  refine dGF rfl rfl rfl rfl ?_
  refine dGF rfl rfl rfl rfl ?_
  refine dGF rfl rfl rfl rfl ?_
  refine dGF rfl rfl rfl rfl ?_
  refine dP rfl rfl (o_pickF rfl rfl (v := .bool false) rfl ?_)
  refine dP rfl rfl (o_assign (v := .bool false) rfl ?_)
  refine dN ?_
  refine Vc.ret' ?_
  refine res_tmp (v := .bool false) rfl ?_
  refine res_nil ?_
  show Gives _ (.bool false) _
  exact gives_out hrg (VW.refl _) (hQ _ h)
theorem law45_short_ctr {l : List GRat} {Q : Bool → Prop} {S : St} {R : AV → St → Prop} (h : law45_short_W l Q) (hQ : ∀ r1, Q r1 → R (AV.bool r1) S) :
    Ctr Try.prog 31 [eL eRat l] S R := by
  unfold law45_short_W at h
  refine enterT Try.func31 rfl Try.ntmps31 Try.results31 (by kernel_rfl) (fun rg hrg => ?_)
  refine qZ (rZ ?_)
  refine asZ (.bool false) rfl ?_
  refine nZ (qZ (qZ (rZ ?_)))
  refine mvZ (eL eRat l) rfl ?_
  refine wZ rg (o_len td22 rfl ?_)
  refine mvZ (.int .i64 0) rfl ?_
  refine nZ ?_
  refine Vc.blk ?_
  obtain ⟨I, μ, h0, hI⟩ := h
  refine Vc.loop' (σ := (Int)) (fun y => I y) (fun y => μ y) (fun y => envOf [(0, eL eRat l), (5, eL eRat l), (6, .int .i64 (l.length : Int)), (7, .int .i64 y)]) (fun y => stL S rg []) 0 (canon (fc vr (fc vr (fc vr (fc vr (fn))))) (sn)) h0 (fun x h => ?_)
  replace h := hI x h
  show Vc _ _ _ _ (envOf [(0, eL eRat l), (5, eL eRat l), (6, .int .i64 (l.length : Int)), (7, .int .i64 x)]) (stL S rg [])
  refine qZ (rZ ?_)
  refine wZ rg (o_lss rfl rfl ?_)
  refine nZ (qZ ?_)
  refine Vc.cond' rfl (fun hb => ?_) (fun hb => ?_)
  · replace h := h.1 hb
    refine Vc.skip' ?_
    refine qZ ?_
    refine Vc.blk ?_
    refine qZ (rZ ?_)
    refine wZ rg (o_idxL td22 sz27 (by decide) (fun _ => rfl) rfl rfl h.1 ?_)
    replace h := h.2
    refine wZ rg (o_loadIA sz27 (by decide) ag27 rfl rfl (v := eRat (at' l x)) rfl ?_)
    refine wZ rg (o_alloc zav27 ok27 (kk := 3) rfl (fun g1 => ?_))
    refine wZ rg (o_storeB (atL (k := 4) rfl) sz27 (by decide) rfl (w := eRat (at' l x)) rfl rfl rfl (v := eRat (at' l x)) rfl setL ?_)
    refine nZ (qZ (rZ ?_))
    refine wZ rg (o_loadBA (atL (k := 4) rfl) sz27 (by decide) ag27 rfl rfl (v := eRat (at' l x)) rfl ?_)
    refine wZ rg (o_call (us := [eRat (at' l x)]) rfl (vl' vr (vn)) (law22_Short_ctr h fun r h => ?_))
    refine wZ rg (o_not rfl ?_)
    refine nZ ?_
    refine Vc.cond' rfl (fun hb1 => ?_) (fun hb1 => ?_)
    · replace h := h.1 hb1
      refine qZ (rZ ?_)
      refine asZ (.bool false) rfl ?_
      refine nZ ?_
      refine Vc.ret' ?_
      refine res_tmp (v := .bool false) rfl ?_
      refine res_nil ?_
      show Gives _ (.bool false) _
      exact gives_out hrg (VW.refl _) (hQ _ h)
    replace h := h.2 hb1
    refine Vc.skip' ?_
    refine rZ ?_
    refine wZ rg (o_addG rfl rfl h.1 ?_)
    replace h := h.2
    refine mvZ (.int .i64 (x + 1)) rfl ?_
    refine nZ ?_
    exact ⟨(x + 1), (canon (fc vr (fc vr (fc vr (fc vr (fn))))) (sn)), h⟩
  replace h := h.2 hb
  refine Vc.exit' (exB_self ?_)
  refine qZ (rZ ?_)
  refine mvZ (eL eRat l) rfl ?_
  refine wZ rg (o_len td22 rfl ?_)
  refine wZ rg (o_leq rfl rfl ?_)
  refine asZ (.bool (decide ((l.length : Int) ≤ 60))) rfl ?_
  refine nZ ?_
  refine Vc.ret' ?_
  refine res_tmp (v := .bool (decide ((l.length : Int) ≤ 60))) rfl ?_
  refine res_nil ?_
  show Gives _ (.bool (decide ((l.length : Int) ≤ 60))) _
  exact gives_out hrg (VW.refl _) (hQ _ h)
end Go.Proofs.Ytonbnfgknijpoaa
