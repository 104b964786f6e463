/- Walks of the functions. Conditions: none. -/
import Derived.Test.YtonbnfgknijpoaaK2
namespace Go.Proofs.Ytonbnfgknijpoaa
open Go.Gg
set_option maxRecDepth 100000
theorem law50_part_ctr {n : Int} {d : Int} {Q : GRat → Prop} {S : St} {R : AV → St → Prop} (h : law50_part_W n d Q) (hQ : ∀ r1, Q r1 → R (eRat r1) S) :
    Ctr Try.prog 83 [AV.int .i64 n, AV.int .i64 d] S R := by
  unfold law50_part_W at h
  refine enterT Try.func83 rfl Try.ntmps83 Try.results83 (by kernel_rfl) (fun rg hrg => ?_)
  refine Vc.seq' ?_
  refine Vc.region' ?_
  refine Wl.cons rg (o_alloc zav27 ok27 (kk := 3) rfl (fun g1 => ?_))
  refine Wl.nil ?_
  refine Vc.seq' ?_
  refine Vc.region' ?_
  refine Wl.cons rg (o_move (v := .int .i64 n) rfl ?_)
  refine Wl.cons rg (o_move (v := .int .i64 d) rfl ?_)
  refine Wl.cons rg (o_call (us := [AV.int .i64 n, AV.int .i64 d]) rfl (vl' vr (vl' vr (vn))) (ref02_Make_ctr h fun r r1 h => ?_))
  refine Wl.cons rg (o_move (v := .tuple [eRat r, .int .i64 r1]) rfl ?_)
  refine Wl.cons rg (o_extract (v := eRat r) rfl rfl rfl ?_)
  refine Wl.cons rg (o_extract (v := .int .i64 r1) rfl rfl rfl ?_)
  refine Wl.cons rg (o_alloc zav27 ok27 (kk := 3) rfl (fun g2 => ?_))
  refine Wl.cons rg (o_storeB (atL (k := 5) rfl) sz27 (by decide) rfl (w := eRat r) rfl rfl rfl (v := eRat r) rfl setL ?_)
  refine Wl.cons rg (o_assign (v := .int .i64 r1) rfl ?_)
  refine Wl.nil ?_
  refine Vc.seq' ?_
  refine Vc.region' ?_
  refine Wl.cons rg (o_loadBA (atL (k := 5) rfl) sz27 (by decide) ag27 rfl rfl (v := eRat r) rfl ?_)
  refine Wl.cons rg (o_storeB (atL (k := 4) rfl) sz27 (by decide) rfl (w := eRat r) rfl rfl rfl (v := eRat r) rfl setL ?_)
  refine Wl.nil ?_
  refine Vc.ret' ?_
  refine res_cellA (atL (k := 4) rfl) sz27 (by decide) ag27 rfl rfl (v := eRat r) rfl ?_
  refine res_nil ?_
  show Gives _ (eRat r) _
  exact gives_out hrg (VW.refl _) (hQ _ h)
theorem law50_awake_ctr {Q : Bool → Prop} {S : St} {R : AV → St → Prop} (h : law50_awake_W Q) (hQ : ∀ r1, Q r1 → R (AV.bool r1) S) :
    Ctr Try.prog 21 [] S R := by
  unfold law50_awake_W at h
  refine enterT Try.func21 rfl Try.ntmps21 Try.results21 (by kernel_rfl) (fun rg hrg => ?_)
  refine Vc.seq' ?_
  refine Vc.region' ?_
  refine Wl.cons rg (o_assign (v := .bool false) rfl ?_)
  refine Wl.nil ?_
  refine Vc.seq' ?_
  refine Vc.region' ?_
  refine Wl.cons rg (o_call (us := [AV.int .i64 1, AV.int .i64 1]) rfl (vl' vr (vl' vr (vn))) (law50_part_ctr h fun r h => ?_))
  refine Wl.cons rg (o_call (us := [AV.int .i64 1, AV.int .i64 1]) rfl (vl' vr (vl' vr (vn))) (law50_part_ctr h fun r1 h => ?_))
  refine Wl.cons rg (o_bslice td22 ok27 zav27 (es := [eRat r, eRat r1]) rfl (kk := 3) rfl rfl rfl rfl rfl rfl (fun g1 => ?_))
  refine Wl.cons rg (o_call (us := [AV.int .i64 3, AV.int .i64 1]) rfl (vl' vr (vl' vr (vn))) (law50_part_ctr h fun r2 h => ?_))
  refine Wl.cons rg (o_call (us := [AV.int .i64 1, AV.int .i64 1]) rfl (vl' vr (vl' vr (vn))) (law50_part_ctr h fun r3 h => ?_))
  refine Wl.cons rg (o_bslice td22 ok27 zav27 (es := [eRat r2, eRat r3]) rfl (kk := 3) rfl rfl rfl rfl rfl rfl (fun g2 => ?_))
  refine Wl.wk (canon_freeze (k := 6) (xs := List.map eRat [r, r1]) rfl (es := [(6, eL eRat [r, r1]), (9, .sl 3 rg 9 g2 0 ([r2, r3].length))]) (fc (frz_full rfl) (fc (frz_ne rfl) (fn))) (m := [(9, .arr 3 (List.map eRat [r2, r3]), g2)]) (sc rfl (sn))) ?_
  refine Wl.wk (canon_freeze (k := 9) (xs := List.map eRat [r2, r3]) rfl (es := [(6, eL eRat [r, r1]), (9, eL eRat [r2, r3])]) (fc vr (fc (frz_full rfl) (fn))) (m := []) (sn)) ?_
  refine Wl.cons rg (o_call (us := [eL eRat [r, r1], eL eRat [r2, r3]]) rfl (vl' vr (vl' vr (vn))) (product_Stationary_ctr h fun r4 r5 h => ?_))
  refine Wl.cons rg (o_move (v := .tuple [eL eRat r4, eErr 107 r5]) rfl ?_)
  refine Wl.cons rg (o_extract (v := eL eRat r4) rfl rfl rfl ?_)
  refine Wl.cons rg (o_extract (v := eErr 107 r5) rfl rfl rfl ?_)
  refine Wl.cons rg (o_assign (v := eL eRat r4) rfl ?_)
  refine Wl.cons rg (o_assign (v := eErr 107 r5) rfl ?_)
  refine Wl.nil ?_
  refine Vc.seq' ?_
  refine Vc.region' ?_
  refine Wl.cons rg (o_move (v := eErr 107 r5) rfl ?_)
  refine Wl.cons rg (o_isnil td31 (E := 107) rfl rfl rfl ?_)
  refine Wl.cons rg (o_move (v := .bool (Option.isNone r5)) rfl ?_)
  refine Wl.guard rfl rfl (fun hb => ?_) (fun hb => ?_)
  · replace h := h.1 hb
    refine Wl.cons rg (o_move (v := eL eRat r4) rfl ?_)
    refine Wl.guardT rfl rfl hb ?_
    refine Wl.cons rg (o_call (us := [AV.int .i64 3, AV.int .i64 8]) rfl (vl' vr (vl' vr (vn))) (law50_part_ctr h fun r6 h => ?_))
    refine Wl.guardT rfl rfl hb ?_
    refine Wl.cons rg (o_call (us := [AV.int .i64 1, AV.int .i64 8]) rfl (vl' vr (vl' vr (vn))) (law50_part_ctr h fun r7 h => ?_))
    refine Wl.guardT rfl rfl hb ?_
    refine Wl.cons rg (o_call (us := [AV.int .i64 3, AV.int .i64 8]) rfl (vl' vr (vl' vr (vn))) (law50_part_ctr h fun r8 h => ?_))
    refine Wl.guardT rfl rfl hb ?_
    refine Wl.cons rg (o_call (us := [AV.int .i64 1, AV.int .i64 8]) rfl (vl' vr (vl' vr (vn))) (law50_part_ctr h fun r9 h => ?_))
    refine Wl.guardT rfl rfl hb ?_
    refine Wl.cons rg (o_bslice td22 ok27 zav27 (es := [eRat r6, eRat r7, eRat r8, eRat r9]) rfl (kk := 3) rfl rfl rfl rfl rfl rfl (fun g3 => ?_))
    refine Wl.guardT rfl rfl hb ?_
    refine Wl.wk (canon_freeze (k := 21) (xs := List.map eRat [r6, r7, r8, r9]) rfl (es := [(15, .bool (Option.isNone r5)), (16, eL eRat r4), (21, eL eRat [r6, r7, r8, r9])]) (fc vr (fc vr (fc (frz_full rfl) (fn)))) (m := []) (sn)) ?_
    refine Wl.cons rg (o_call (us := [eL eRat r4, eL eRat [r6, r7, r8, r9]]) rfl (vl' vr (vl' vr (vn))) (base_Rats_ctr h fun r10 h => ?_))
    refine Wl.cons rg (o_pickT rfl hb (v := .bool r10) rfl ?_)
    refine Wl.cons rg (o_assign (v := .bool r10) rfl ?_)
    refine Wl.nil ?_
    refine Vc.ret' ?_
    refine res_tmp (v := .bool r10) rfl ?_
    refine res_nil ?_
    show Gives _ (.bool r10) _
    exact gives_out hrg (VW.refl _) (hQ _ h)
  · replace h := h.2 hb
    refine Wl.guardF rfl rfl hb rfl ?_
    refine Wl.guardF rfl rfl hb rfl ?_
    refine Wl.guardF rfl rfl hb rfl ?_
    refine Wl.guardF rfl rfl hb rfl ?_
    refine Wl.guardF rfl rfl hb rfl ?_
    refine Wl.guardF rfl rfl hb rfl ?_
    refine Wl.cons rg (o_pickF rfl hb (v := .bool false) rfl ?_)
    refine Wl.cons rg (o_assign (v := .bool false) rfl ?_)
    refine Wl.nil ?_
    refine Vc.ret' ?_
    refine res_tmp (v := .bool false) rfl ?_
    refine res_nil ?_
    show Gives _ (.bool false) _
    exact gives_out hrg (VW.refl _) (hQ _ h)
theorem law49_Brief_ctr {x : GRat} {others : Int} {Q : Bool → Prop} {S : St} {R : AV → St → Prop} (h : law49_Brief_W x others Q) (hQ : ∀ r1, Q r1 → R (AV.bool r1) S) :
    Ctr Try.prog 84 [eRat x, AV.int .i64 others] S R := by
  unfold law49_Brief_W at h
  refine enterT Try.func84 rfl Try.ntmps84 Try.results84 (by kernel_rfl) (fun rg hrg => ?_)
  refine Vc.seq' ?_
  refine Vc.region' ?_
  refine Wl.cons rg (o_box (v := eRat x) rfl rfl (kk := 3) rfl (by decide) (fun g1 => ?_))
  refine Wl.cons rg (o_assign (v := .bool false) rfl ?_)
  refine Wl.nil ?_
  refine Vc.seq' ?_
  refine Vc.seq' ?_
  refine Vc.region' ?_
  refine Wl.cons rg (o_move (v := .int .i64 others) rfl ?_)
  refine Wl.cons rg (o_leq rfl rfl ?_)
  refine Wl.nil ?_
  refine Vc.cond' rfl (fun hb => ?_) (fun hb => ?_)
  · replace h := h.1 hb
    refine Vc.seq' ?_
    refine Vc.region' ?_
    refine Wl.cons rg (o_faP td27 rfl rfl (by rw [sz25]; decide) rfl ?_)
    refine Wl.cons rg (o_loadB1 (atL (k := 2) rfl) sz25 ag25 rfl rfl (v := eL (AV.int .u32) x.Num) rfl ?_)
    refine Wl.cons rg (o_len td25 rfl ?_)
    refine Wl.cons rg (o_leq rfl rfl ?_)
    refine Wl.cons rg (o_move (v := .bool (decide ((x.Num.length : Int) ≤ 2))) rfl ?_)
    refine Wl.guard rfl rfl (fun hb1 => ?_) (fun hb1 => ?_)
    · replace h := h.1 hb1
      refine Wl.cons rg (o_faP td27 rfl rfl (by rw [sz25]; decide) rfl ?_)
      refine Wl.guardT rfl rfl hb1 ?_
      refine Wl.cons rg (o_loadB1 (atL (k := 2) rfl) sz25 ag25 rfl rfl (v := eL (AV.int .u32) x.Den) rfl ?_)
      refine Wl.guardT rfl rfl hb1 ?_
      refine Wl.cons rg (o_len td25 rfl ?_)
      refine Wl.guardT rfl rfl hb1 ?_
      refine Wl.cons rg (o_leq rfl rfl ?_)
      refine Wl.cons rg (o_pickT rfl hb1 (v := .bool (decide ((x.Den.length : Int) ≤ 2))) rfl ?_)
      refine Wl.cons rg (o_assign (v := .bool (decide ((x.Den.length : Int) ≤ 2))) rfl ?_)
      refine Wl.nil ?_
      refine Vc.ret' ?_
      refine res_tmp (v := .bool (decide ((x.Den.length : Int) ≤ 2))) rfl ?_
      refine res_nil ?_
      show Gives _ (.bool (decide ((x.Den.length : Int) ≤ 2))) _
      exact gives_out hrg (VW.refl _) (hQ _ h)
    · replace h := h.2 hb1
      refine Wl.guardF rfl rfl hb1 rfl ?_
      refine Wl.guardF rfl rfl hb1 rfl ?_
      refine Wl.guardF rfl rfl hb1 rfl ?_
      refine Wl.cons rg (o_pickF rfl hb1 (v := .bool false) rfl ?_)
      refine Wl.cons rg (o_assign (v := .bool false) rfl ?_)
      refine Wl.nil ?_
      refine Vc.ret' ?_
      refine res_tmp (v := .bool false) rfl ?_
      refine res_nil ?_
      show Gives _ (.bool false) _
      exact gives_out hrg (VW.refl _) (hQ _ h)
  · replace h := h.2 hb
    refine Vc.skip' ?_
    refine Vc.seq' ?_
    refine Vc.region' ?_
    refine Wl.cons rg (o_faP td27 rfl rfl (by rw [sz25]; decide) rfl ?_)
    refine Wl.cons rg (o_loadB1 (atL (k := 2) rfl) sz25 ag25 rfl rfl (v := eL (AV.int .u32) x.Num) rfl ?_)
    refine Wl.cons rg (o_len td25 rfl ?_)
    refine Wl.cons rg (o_leq rfl rfl ?_)
    refine Wl.cons rg (o_move (v := .bool (decide ((x.Num.length : Int) ≤ 1))) rfl ?_)
    refine Wl.guard rfl rfl (fun hb2 => ?_) (fun hb2 => ?_)
    · replace h := h.1 hb2
      refine Wl.cons rg (o_faP td27 rfl rfl (by rw [sz25]; decide) rfl ?_)
      refine Wl.guardT rfl rfl hb2 ?_
      refine Wl.cons rg (o_loadB1 (atL (k := 2) rfl) sz25 ag25 rfl rfl (v := eL (AV.int .u32) x.Den) rfl ?_)
      refine Wl.guardT rfl rfl hb2 ?_
      refine Wl.cons rg (o_len td25 rfl ?_)
      refine Wl.guardT rfl rfl hb2 ?_
      refine Wl.cons rg (o_eql rfl rfl ?_)
      refine Wl.guardT rfl rfl hb2 ?_
      refine Wl.cons rg (o_move (v := .bool ((x.Den.length : Int) == 0)) rfl ?_)
      refine Wl.guard rfl rfl (fun hb3 => ?_) (fun hb3 => ?_)
      · replace h := h.2 hb3
        refine Wl.cons rg (o_faP td27 rfl rfl (by rw [sz25]; decide) rfl ?_)
        refine Wl.guardT rfl rfl hb3 ?_
        refine Wl.cons rg (o_loadB1 (atL (k := 2) rfl) sz25 ag25 rfl rfl (v := eL (AV.int .u32) x.Den) rfl ?_)
        refine Wl.guardT rfl rfl hb3 ?_
        refine Wl.cons rg (o_len td25 rfl ?_)
        refine Wl.guardT rfl rfl hb3 ?_
        refine Wl.cons rg (o_eql rfl rfl ?_)
        refine Wl.guardT rfl rfl hb3 ?_
        refine Wl.cons rg (o_move (v := .bool ((x.Den.length : Int) == 1)) rfl ?_)
        refine Wl.guard rfl rfl (fun hb4 => ?_) (fun hb4 => ?_)
        · replace h := h.1 hb4
          refine Wl.cons rg (o_faP td27 rfl rfl (by rw [sz25]; decide) rfl ?_)
          refine Wl.guardT rfl rfl hb4 ?_
          refine Wl.cons rg (o_loadB1 (atL (k := 2) rfl) sz25 ag25 rfl rfl (v := eL (AV.int .u32) x.Den) rfl ?_)
          refine Wl.guardT rfl rfl hb4 ?_
          refine Wl.cons rg (o_idxL td25 sz173 (by decide) (fun _ => rfl) rfl rfl h.1 ?_)
          replace h := h.2
          refine Wl.guardT rfl rfl hb4 ?_
          refine Wl.cons rg (o_loadI1 sz173 ag173 rfl rfl (v := .int .u32 (at' x.Den 0)) rfl ?_)
          refine Wl.guardT rfl rfl hb4 ?_
          refine Wl.cons rg (o_lss rfl rfl ?_)
          refine Wl.guardT rfl rfl hb3 ?_
          refine Wl.cons rg (o_pickT rfl hb4 (v := .bool (decide ((at' x.Den 0) < 1024))) rfl ?_)
          refine Wl.guardT rfl rfl hb2 ?_
          refine Wl.cons rg (o_pickF rfl hb3 (v := .bool (decide ((at' x.Den 0) < 1024))) rfl ?_)
          refine Wl.cons rg (o_pickT rfl hb2 (v := .bool (decide ((at' x.Den 0) < 1024))) rfl ?_)
          refine Wl.cons rg (o_assign (v := .bool (decide ((at' x.Den 0) < 1024))) rfl ?_)
          refine Wl.nil ?_
          refine Vc.ret' ?_
          refine res_tmp (v := .bool (decide ((at' x.Den 0) < 1024))) rfl ?_
          refine res_nil ?_
          show Gives _ (.bool (decide ((at' x.Den 0) < 1024))) _
          exact gives_out hrg (VW.refl _) (hQ _ h)
        · replace h := h.2 hb4
          refine Wl.guardF rfl rfl hb4 rfl ?_
          refine Wl.guardF rfl rfl hb4 rfl ?_
          refine Wl.guardF rfl rfl hb4 rfl ?_
          refine Wl.guardF rfl rfl hb4 rfl ?_
          refine Wl.guardT rfl rfl hb3 ?_
          refine Wl.cons rg (o_pickF rfl hb4 (v := .bool false) rfl ?_)
          refine Wl.guardT rfl rfl hb2 ?_
          refine Wl.cons rg (o_pickF rfl hb3 (v := .bool false) rfl ?_)
          refine Wl.cons rg (o_pickT rfl hb2 (v := .bool false) rfl ?_)
          refine Wl.cons rg (o_assign (v := .bool false) rfl ?_)
          refine Wl.nil ?_
          refine Vc.ret' ?_
          refine res_tmp (v := .bool false) rfl ?_
          refine res_nil ?_
          show Gives _ (.bool false) _
          exact gives_out hrg (VW.refl _) (hQ _ h)
      · replace h := h.1 hb3
        refine Wl.guardF rfl rfl hb3 rfl ?_
        refine Wl.guardF rfl rfl hb3 rfl ?_
        refine Wl.guardF rfl rfl hb3 rfl ?_
        refine Wl.guardF rfl rfl hb3 rfl ?_
        refine Wl.guardU rfl rfl ?_
        refine Wl.guardU rfl rfl ?_
        refine Wl.guardU rfl rfl ?_
        refine Wl.guardU rfl rfl ?_
        refine Wl.guardU rfl rfl ?_
        refine Wl.guardF rfl rfl hb3 rfl ?_
        refine Wl.guardT rfl rfl hb2 ?_
        refine Wl.cons rg (o_pickT rfl hb3 (v := .bool true) rfl ?_)
        refine Wl.cons rg (o_pickT rfl hb2 (v := .bool true) rfl ?_)
        refine Wl.cons rg (o_assign (v := .bool true) rfl ?_)
        refine Wl.nil ?_
        refine Vc.ret' ?_
        refine res_tmp (v := .bool true) rfl ?_
        refine res_nil ?_
        show Gives _ (.bool true) _
        exact gives_out hrg (VW.refl _) (hQ _ h)
    · replace h := h.2 hb2
      refine Wl.guardF rfl rfl hb2 rfl ?_
      refine Wl.guardF rfl rfl hb2 rfl ?_
      refine Wl.guardF rfl rfl hb2 rfl ?_
      refine Wl.guardF rfl rfl hb2 rfl ?_
      refine Wl.guardU rfl rfl ?_
      refine Wl.guardU rfl rfl ?_
      refine Wl.guardU rfl rfl ?_
      refine Wl.guardU rfl rfl ?_
      refine Wl.guardU rfl rfl ?_
      refine Wl.guardU rfl rfl ?_
      refine Wl.guardU rfl rfl ?_
      refine Wl.guardU rfl rfl ?_
      refine Wl.guardU rfl rfl ?_
      refine Wl.guardU rfl rfl ?_
      refine Wl.guardU rfl rfl ?_
      refine Wl.guardF rfl rfl hb2 rfl ?_
      refine Wl.cons rg (o_pickF rfl hb2 (v := .bool false) rfl ?_)
      refine Wl.cons rg (o_assign (v := .bool false) rfl ?_)
      refine Wl.nil ?_
      refine Vc.ret' ?_
      refine res_tmp (v := .bool false) rfl ?_
      refine res_nil ?_
      show Gives _ (.bool false) _
      exact gives_out hrg (VW.refl _) (hQ _ h)
theorem law50_short_ctr {l : List GRat} {most : Int} {Q : Bool → Prop} {S : St} {R : AV → St → Prop} (h : law50_short_W l most Q) (hQ : ∀ r1, Q r1 → R (AV.bool r1) S) :
    Ctr Try.prog 22 [eL eRat l, AV.int .i64 most] S R := by
  unfold law50_short_W at h
  refine enterT Try.func22 rfl Try.ntmps22 Try.results22 (by kernel_rfl) (fun rg hrg => ?_)
  refine Vc.seq' ?_
  refine Vc.region' ?_
  refine Wl.cons rg (o_assign (v := .bool false) rfl ?_)
  refine Wl.nil ?_
  refine Vc.seq' ?_
  refine Vc.seq' ?_
  refine Vc.region' ?_
  refine Wl.cons rg (o_move (v := eL eRat l) rfl ?_)
  refine Wl.cons rg (o_len td22 rfl ?_)
  refine Wl.cons rg (o_move (v := .int .i64 0) rfl ?_)
  refine Wl.nil ?_
  refine Vc.blk ?_
  obtain ⟨I, μ, h0, hI⟩ := h
  refine Vc.loop' (σ := (Int)) (fun y => I y) (fun y => μ y) (fun y => envOf [(0, eL eRat l), (1, .int .i64 most), (7, eL eRat l), (8, .int .i64 (l.length : Int)), (9, .int .i64 y)]) (fun y => stL S rg []) 0 (canon (fc vr (fc vr (fc vr (fc vr (fc vr (fn)))))) (sn)) h0 (fun x h => ?_)
  replace h := hI x h
  show Vc _ _ _ _ (envOf [(0, eL eRat l), (1, .int .i64 most), (7, eL eRat l), (8, .int .i64 (l.length : Int)), (9, .int .i64 x)]) (stL S rg [])
  refine Vc.seq' ?_
  refine Vc.region' ?_
  refine Wl.cons rg (o_lss rfl rfl ?_)
  refine Wl.nil ?_
  refine Vc.seq' ?_
  refine Vc.cond' rfl (fun hb => ?_) (fun hb => ?_)
  · replace h := h.1 hb
    refine Vc.skip' ?_
    refine Vc.seq' ?_
    refine Vc.blk ?_
    refine Vc.seq' ?_
    refine Vc.region' ?_
    refine Wl.cons rg (o_idxL td22 sz27 (by decide) (fun _ => rfl) rfl rfl h.1 ?_)
    replace h := h.2
    refine Wl.cons rg (o_loadIA sz27 (by decide) ag27 rfl rfl (v := eRat (at' l x)) rfl ?_)
    refine Wl.cons rg (o_alloc zav27 ok27 (kk := 3) rfl (fun g1 => ?_))
    refine Wl.cons rg (o_storeB (atL (k := 6) rfl) sz27 (by decide) rfl (w := eRat (at' l x)) rfl rfl rfl (v := eRat (at' l x)) rfl setL ?_)
    refine Wl.nil ?_
    refine Vc.seq' ?_
    refine Vc.region' ?_
    refine Wl.cons rg (o_loadBA (atL (k := 6) rfl) sz27 (by decide) ag27 rfl rfl (v := eRat (at' l x)) rfl ?_)
    refine Wl.cons rg (o_move (v := eL eRat l) rfl ?_)
    refine Wl.cons rg (o_len td22 rfl ?_)
    refine Wl.cons rg (o_call (us := [eRat (at' l x), AV.int .i64 (l.length : Int)]) rfl (vl' vr (vl' vr (vn))) (law49_Brief_ctr h fun r h => ?_))
    refine Wl.cons rg (o_not rfl ?_)
    refine Wl.nil ?_
    refine Vc.cond' rfl (fun hb1 => ?_) (fun hb1 => ?_)
    · replace h := h.1 hb1
      refine Vc.seq' ?_
      refine Vc.region' ?_
      refine Wl.cons rg (o_assign (v := .bool false) rfl ?_)
      refine Wl.nil ?_
      refine Vc.ret' ?_
      refine res_tmp (v := .bool false) rfl ?_
      refine res_nil ?_
      show Gives _ (.bool false) _
      exact gives_out hrg (VW.refl _) (hQ _ h)
    · replace h := h.2 hb1
      refine Vc.skip' ?_
      refine Vc.region' ?_
      refine Wl.cons rg (o_addG rfl rfl h.1 ?_)
      replace h := h.2
      refine Wl.cons rg (o_move (v := .int .i64 (x + 1)) rfl ?_)
      refine Wl.nil ?_
      exact ⟨(x + 1), (canon (fc vr (fc vr (fc vr (fc vr (fc vr (fn)))))) (sn)), h⟩
  · replace h := h.2 hb
    refine Vc.exit' (exB_self ?_)
    refine Vc.seq' ?_
    refine Vc.region' ?_
    refine Wl.cons rg (o_move (v := eL eRat l) rfl ?_)
    refine Wl.cons rg (o_len td22 rfl ?_)
    refine Wl.cons rg (o_move (v := .int .i64 most) rfl ?_)
    refine Wl.cons rg (o_leq rfl rfl ?_)
    refine Wl.cons rg (o_assign (v := .bool (decide ((l.length : Int) ≤ most))) rfl ?_)
    refine Wl.nil ?_
    refine Vc.ret' ?_
    refine res_tmp (v := .bool (decide ((l.length : Int) ≤ most))) rfl ?_
    refine res_nil ?_
    show Gives _ (.bool (decide ((l.length : Int) ≤ most))) _
    exact gives_out hrg (VW.refl _) (hQ _ h)
theorem ref02_Valid_ctr {a : GRat} {Q : Bool → Prop} {S : St} {R : AV → St → Prop} (h : ref02_Valid_W a Q) (hQ : ∀ r1, Q r1 → R (AV.bool r1) S) :
    Ctr Try.prog 147 [eRat a] S R := by
  unfold ref02_Valid_W at h
  refine enterT Try.func147 rfl Try.ntmps147 Try.results147 (by kernel_rfl) (fun rg hrg => ?_)
  refine Vc.seq' ?_
  refine Vc.region' ?_
  refine Wl.cons rg (o_box (v := eRat a) rfl rfl (kk := 3) rfl (by decide) (fun g1 => ?_))
  refine Wl.cons rg (o_assign (v := .bool false) rfl ?_)
  refine Wl.nil ?_
  refine Vc.seq' ?_
  refine Vc.drawn' mixed rg (fun _ => jcr) (by kernel_rfl) ?_
  refine dP rfl rfl (o_faP td27 rfl rfl (by rw [sz25]; decide) rfl ?_)
  refine dL (E := ([(rg, 1)], none)) rfl rfl (by simp) (cfn) (o_loadB1 (atL (k := 1) rfl) sz25 ag25 rfl rfl (v := eL (AV.int .u32) a.Num) rfl ?_)
  refine dP rfl rfl (o_len td25 rfl ?_)
  refine dP rfl rfl (o_faP td27 rfl rfl (by rw [sz25]; decide) rfl ?_)
  refine dL (E := ([(rg, 1)], none)) rfl rfl (by simp) (cfa (by simp [apartE]) (cfn)) (o_loadB1 (atL (k := 1) rfl) sz25 ag25 rfl rfl (v := eL (AV.int .u32) a.Den) rfl ?_)
  refine dP rfl rfl (o_len td25 rfl ?_)
  refine dP rfl rfl (o_assign (v := .int .i64 (a.Num.length : Int)) rfl ?_)
  refine dP rfl rfl (o_assign (v := .int .i64 (a.Den.length : Int)) rfl ?_)
  refine dN ?_
  refine Vc.seq' ?_
  obtain ⟨J, h, hJ⟩ := h
  refine Vc.join' (σ := ((Bool) × (Nat))) (fun y => J y.1) (fun y => envOf [(1, .ptr rg 1 y.2 0 0), (3, .int .i64 (a.Num.length : Int)), (4, .int .i64 (a.Den.length : Int)), (16, .bool y.1)]) (fun y => stL S rg [(1, .arr 3 [eRat a], y.2)]) (fun y h => ?_) ?_
  · obtain ⟨x, g2⟩ := y
    replace h := hJ x h
    show Vc _ _ _ _ (envOf [(1, .ptr rg 1 g2 0 0), (3, .int .i64 (a.Num.length : Int)), (4, .int .i64 (a.Den.length : Int)), (16, .bool x)]) (stL S rg [(1, .arr 3 [eRat a], g2)])
    refine Vc.cond' rfl (fun hb => ?_) (fun hb => ?_)
    · replace h := h.1 hb
      refine Vc.seq' ?_
      refine Vc.region' ?_
      refine Wl.cons rg (o_move (v := .int .i64 (a.Num.length : Int)) rfl ?_)
      refine Wl.cons rg (o_eql rfl rfl ?_)
      refine Wl.cons rg (o_move (v := .bool ((a.Num.length : Int) == 0)) rfl ?_)
      refine Wl.guard rfl rfl (fun hb1 => ?_) (fun hb1 => ?_)
      · replace h := h.1 hb1
        refine Wl.cons rg (o_move (v := .int .i64 (a.Den.length : Int)) rfl ?_)
        refine Wl.guardT rfl rfl hb1 ?_
        refine Wl.cons rg (o_eql rfl rfl ?_)
        refine Wl.cons rg (o_pickT rfl hb1 (v := .bool ((a.Den.length : Int) == 0)) rfl ?_)
        refine Wl.cons rg (o_move (v := .bool ((a.Den.length : Int) == 0)) rfl ?_)
        refine Wl.guard rfl rfl (fun hb2 => ?_) (fun hb2 => ?_)
        · replace h := h.1 hb2
          refine Wl.cons rg (o_faP td27 rfl rfl (by rw [sz4]; decide) rfl ?_)
          refine Wl.guardT rfl rfl hb2 ?_
          refine Wl.cons rg (o_loadB1 (atL (k := 1) rfl) sz4 ag4 rfl rfl (v := .bool a.Neg) rfl ?_)
          refine Wl.guardT rfl rfl hb2 ?_
          refine Wl.cons rg (o_not rfl ?_)
          refine Wl.cons rg (o_pickT rfl hb2 (v := .bool (!a.Neg)) rfl ?_)
          refine Wl.cons rg (o_assign (v := .bool (!a.Neg)) rfl ?_)
          refine Wl.nil ?_
          refine Vc.ret' ?_
          refine res_tmp (v := .bool (!a.Neg)) rfl ?_
          refine res_nil ?_
          show Gives _ (.bool (!a.Neg)) _
          exact gives_out hrg (VW.refl _) (hQ _ h)
        · replace h := h.2 hb2
          refine Wl.guardF rfl rfl hb2 rfl ?_
          refine Wl.guardF rfl rfl hb2 rfl ?_
          refine Wl.cons rg (o_pickF rfl hb2 (v := .bool false) rfl ?_)
          refine Wl.cons rg (o_assign (v := .bool false) rfl ?_)
          refine Wl.nil ?_
          refine Vc.ret' ?_
          refine res_tmp (v := .bool false) rfl ?_
          refine res_nil ?_
          show Gives _ (.bool false) _
          exact gives_out hrg (VW.refl _) (hQ _ h)
      · replace h := h.2 hb1
        refine Wl.guardF rfl rfl hb1 rfl ?_
        refine Wl.cons rg (o_pickF rfl hb1 (v := .bool false) rfl ?_)
        refine Wl.cons rg (o_move (v := .bool false) rfl ?_)
        refine Wl.guardF rfl rfl rfl rfl ?_
        refine Wl.guardF rfl rfl rfl rfl ?_
        refine Wl.guardF rfl rfl rfl rfl ?_
        refine Wl.cons rg (o_pickF rfl rfl (v := .bool false) rfl ?_)
        refine Wl.cons rg (o_assign (v := .bool false) rfl ?_)
        refine Wl.nil ?_
        refine Vc.ret' ?_
        refine res_tmp (v := .bool false) rfl ?_
        refine res_nil ?_
        show Gives _ (.bool false) _
        exact gives_out hrg (VW.refl _) (hQ _ h)
    · replace h := h.2 hb
      refine Vc.skip' ?_
      refine Vc.seq' ?_
      refine Vc.region' ?_
      refine Wl.cons rg (o_faP td27 rfl rfl (by rw [sz25]; decide) rfl ?_)
      refine Wl.cons rg (o_loadB1 (atL (k := 1) rfl) sz25 ag25 rfl rfl (v := eL (AV.int .u32) a.Num) rfl ?_)
      refine Wl.cons rg (o_move (v := .int .i64 (a.Num.length : Int)) rfl ?_)
      refine Wl.cons rg (o_subG rfl rfl h.1 ?_)
      replace h := h.2
      refine Wl.cons rg (o_idxL td25 sz173 (by decide) (fun _ => rfl) rfl rfl h.1 ?_)
      replace h := h.2
      refine Wl.cons rg (o_loadI1 sz173 ag173 rfl rfl (v := .int .u32 (at' a.Num ((a.Num.length : Int) - 1))) rfl ?_)
      refine Wl.cons rg (o_neq rfl rfl ?_)
      refine Wl.cons rg (o_move (v := .bool ((at' a.Num ((a.Num.length : Int) - 1)) != 0)) rfl ?_)
      refine Wl.guard rfl rfl (fun hb3 => ?_) (fun hb3 => ?_)
      · replace h := h.1 hb3
        refine Wl.cons rg (o_faP td27 rfl rfl (by rw [sz25]; decide) rfl ?_)
        refine Wl.guardT rfl rfl hb3 ?_
        refine Wl.cons rg (o_loadB1 (atL (k := 1) rfl) sz25 ag25 rfl rfl (v := eL (AV.int .u32) a.Den) rfl ?_)
        refine Wl.guardT rfl rfl hb3 ?_
        refine Wl.cons rg (o_move (v := .int .i64 (a.Den.length : Int)) rfl ?_)
        refine Wl.guardT rfl rfl hb3 ?_
        refine Wl.cons rg (o_subG rfl rfl h.1 ?_)
        replace h := h.2
        refine Wl.guardT rfl rfl hb3 ?_
        refine Wl.cons rg (o_idxL td25 sz173 (by decide) (fun _ => rfl) rfl rfl h.1 ?_)
        replace h := h.2
        refine Wl.guardT rfl rfl hb3 ?_
        refine Wl.cons rg (o_loadI1 sz173 ag173 rfl rfl (v := .int .u32 (at' a.Den ((a.Den.length : Int) - 1))) rfl ?_)
        refine Wl.guardT rfl rfl hb3 ?_
        refine Wl.cons rg (o_neq rfl rfl ?_)
        refine Wl.cons rg (o_pickT rfl hb3 (v := .bool ((at' a.Den ((a.Den.length : Int) - 1)) != 0)) rfl ?_)
        refine Wl.cons rg (o_move (v := .bool ((at' a.Den ((a.Den.length : Int) - 1)) != 0)) rfl ?_)
        refine Wl.guard rfl rfl (fun hb4 => ?_) (fun hb4 => ?_)
        · replace h := h.1 hb4
          refine Wl.cons rg (o_faP td27 rfl rfl (by rw [sz25]; decide) rfl ?_)
          refine Wl.guardT rfl rfl hb4 ?_
          refine Wl.cons rg (o_loadB1 (atL (k := 1) rfl) sz25 ag25 rfl rfl (v := eL (AV.int .u32) a.Num) rfl ?_)
          refine Wl.guardT rfl rfl hb4 ?_
          refine Wl.cons rg (o_faP td27 rfl rfl (by rw [sz25]; decide) rfl ?_)
          refine Wl.guardT rfl rfl hb4 ?_
          refine Wl.cons rg (o_loadB1 (atL (k := 1) rfl) sz25 ag25 rfl rfl (v := eL (AV.int .u32) a.Den) rfl ?_)
          refine Wl.guardT rfl rfl hb4 ?_
          refine Wl.cons rg (o_call (us := [eL (AV.int .u32) a.Num, eL (AV.int .u32) a.Den]) rfl (vl' vr (vl' vr (vn))) (ref01_Gcd_ctr h fun r h => ?_))
          refine Wl.guardT rfl rfl hb4 ?_
          refine Wl.cons rg (o_call (us := [eL (AV.int .u32) r]) rfl (vl' vr (vn)) (ref01_Bits_ctr h fun r1 h => ?_))
          refine Wl.guardT rfl rfl hb4 ?_
          refine Wl.cons rg (o_eql rfl rfl ?_)
          refine Wl.cons rg (o_pickT rfl hb4 (v := .bool (r1 == 1)) rfl ?_)
          refine Wl.cons rg (o_assign (v := .bool (r1 == 1)) rfl ?_)
          refine Wl.nil ?_
          refine Vc.ret' ?_
          refine res_tmp (v := .bool (r1 == 1)) rfl ?_
          refine res_nil ?_
          show Gives _ (.bool (r1 == 1)) _
          exact gives_out hrg (VW.refl _) (hQ _ h)
        · replace h := h.2 hb4
          refine Wl.guardF rfl rfl hb4 rfl ?_
          refine Wl.guardF rfl rfl hb4 rfl ?_
          refine Wl.guardF rfl rfl hb4 rfl ?_
          refine Wl.guardF rfl rfl hb4 rfl ?_
          refine Wl.guardF rfl rfl hb4 rfl ?_
          refine Wl.guardF rfl rfl hb4 rfl ?_
          refine Wl.cons rg (o_pickF rfl hb4 (v := .bool false) rfl ?_)
          refine Wl.cons rg (o_assign (v := .bool false) rfl ?_)
          refine Wl.nil ?_
          refine Vc.ret' ?_
          refine res_tmp (v := .bool false) rfl ?_
          refine res_nil ?_
          show Gives _ (.bool false) _
          exact gives_out hrg (VW.refl _) (hQ _ h)
      · replace h := h.2 hb3
        refine Wl.guardF rfl rfl hb3 rfl ?_
        refine Wl.guardF rfl rfl hb3 rfl ?_
        refine Wl.guardF rfl rfl hb3 rfl ?_
        refine Wl.guardF rfl rfl hb3 rfl ?_
        refine Wl.guardF rfl rfl hb3 rfl ?_
        refine Wl.guardF rfl rfl hb3 rfl ?_
        refine Wl.cons rg (o_pickF rfl hb3 (v := .bool false) rfl ?_)
        refine Wl.cons rg (o_move (v := .bool false) rfl ?_)
        refine Wl.guardF rfl rfl rfl rfl ?_
        refine Wl.guardF rfl rfl rfl rfl ?_
        refine Wl.guardF rfl rfl rfl rfl ?_
        refine Wl.guardF rfl rfl rfl rfl ?_
        refine Wl.guardF rfl rfl rfl rfl ?_
        refine Wl.guardF rfl rfl rfl rfl ?_
        refine Wl.guardF rfl rfl rfl rfl ?_
        refine Wl.cons rg (o_pickF rfl rfl (v := .bool false) rfl ?_)
        refine Wl.cons rg (o_assign (v := .bool false) rfl ?_)
        refine Wl.nil ?_
        refine Vc.ret' ?_
        refine res_tmp (v := .bool false) rfl ?_
        refine res_nil ?_
        show Gives _ (.bool false) _
        exact gives_out hrg (VW.refl _) (hQ _ h)
  · refine Vc.region' ?_
    refine Wl.cons rg (o_move (v := .int .i64 (a.Num.length : Int)) rfl ?_)
    refine Wl.cons rg (o_eql rfl rfl ?_)
    refine Wl.cons rg (o_move (v := .bool ((a.Num.length : Int) == 0)) rfl ?_)
    refine Wl.guard rfl rfl (fun hb5 => ?_) (fun hb5 => ?_)
    · replace h := h.2 hb5
      refine Wl.cons rg (o_move (v := .int .i64 (a.Den.length : Int)) rfl ?_)
      refine Wl.guardT rfl rfl hb5 ?_
      refine Wl.cons rg (o_eql rfl rfl ?_)
      refine Wl.cons rg (o_pickF rfl hb5 (v := .bool ((a.Den.length : Int) == 0)) rfl ?_)
      refine Wl.nil ?_
      exact ⟨(((a.Den.length : Int) == 0), g1), (canon (fc vr (fc vr (fc vr (fc vr (fn))))) (sc rfl (sn))), h⟩
    · replace h := h.1 hb5
      refine Wl.guardF rfl rfl hb5 rfl ?_
      refine Wl.cons rg (o_pickT rfl hb5 (v := .bool true) rfl ?_)
      refine Wl.nil ?_
      exact ⟨(true, g1), (canon (fc vr (fc vr (fc vr (fc vr (fn))))) (sc rfl (sn))), h⟩
theorem ref02_Parts_ctr {a : GRat} {Q : Bool → List Int → List Int → Prop} {S : St} {R : AV → St → Prop} (h : ref02_Parts_W a Q) (hQ : ∀ r1 r2 r3, Q r1 r2 r3 → R (.tuple [AV.bool r1, eL (AV.int .u32) r2, eL (AV.int .u32) r3]) S) :
    Ctr Try.prog 135 [eRat a] S R := by
  unfold ref02_Parts_W at h
  refine enterT Try.func135 rfl Try.ntmps135 Try.results135 (by kernel_rfl) (fun rg hrg => ?_)
  refine Vc.seq' ?_
  refine Vc.region' ?_
  refine Wl.cons rg (o_box (v := eRat a) rfl rfl (kk := 3) rfl (by decide) (fun g1 => ?_))
  refine Wl.cons rg (o_assign (v := .bool false) rfl ?_)
  refine Wl.cons rg (o_assign (v := .nil) rfl ?_)
  refine Wl.cons rg (o_assign (v := .nil) rfl ?_)
  refine Wl.nil ?_
  refine Vc.seq' ?_
  obtain ⟨J, h, hJ⟩ := h
  refine Vc.join' (σ := ((Bool) × (Nat))) (fun y => J y.1) (fun y => envOf [(1, .ptr rg 1 y.2 0 0), (13, .bool y.1)]) (fun y => stL S rg [(1, .arr 3 [eRat a], y.2)]) (fun y h => ?_) ?_
  · obtain ⟨x, g2⟩ := y
    replace h := hJ x h
    show Vc _ _ _ _ (envOf [(1, .ptr rg 1 g2 0 0), (13, .bool x)]) (stL S rg [(1, .arr 3 [eRat a], g2)])
    refine Vc.cond' rfl (fun hb => ?_) (fun hb => ?_)
    · replace h := h.1 hb
      refine Vc.seq' ?_
      refine Vc.region' ?_
      refine Wl.cons rg (o_bslice td25 ok173 zav173 (es := [.int .u32 1]) rfl (kk := 1) rfl rfl rfl rfl rfl rfl (fun g3 => ?_))
      refine Wl.cons rg (o_assign (v := .bool false) rfl ?_)
      refine Wl.cons rg (o_assign (v := .nil) rfl ?_)
      refine Wl.cons rg (o_assign (v := .sl 1 rg 14 g3 0 ([1].length)) rfl ?_)
      refine Wl.nil ?_
      refine Vc.ret' ?_
      refine res_tmp (v := .bool false) rfl ?_
      refine res_tmp (v := .nil) rfl ?_
      refine res_tmp (v := .sl 1 rg 14 g3 0 ([1].length)) rfl ?_
      refine res_nil ?_
      show Gives _ (.tuple [.bool false, .nil, .sl 1 rg 14 g3 0 ([1].length)]) _
      refine gives_freeze (k := 14) (xs := List.map (AV.int .u32) [1]) rfl (v' := .tuple [.bool false, .nil, eL (AV.int .u32) [1]]) (VW.tupL (vl' vr (vl' vr (vl' (frz_full rfl) (vn))))) ?_
      exact gives_out hrg (VW.tupL (vl' vr (vl' (VW.nilL) (vl' vr (vn))))) (hQ _ _ _ h)
    · replace h := h.2 hb
      refine Vc.skip' ?_
      refine Vc.seq' ?_
      refine Vc.drawn' mixed rg (fun _ => jcr) (by kernel_rfl) ?_
      refine dP rfl rfl (o_faP td27 rfl rfl (by rw [sz4]; decide) rfl ?_)
      refine dL (E := ([(rg, 1)], none)) rfl rfl (by simp) (cfn) (o_loadB1 (atL (k := 1) rfl) sz4 ag4 rfl rfl (v := .bool a.Neg) rfl ?_)
      refine dP rfl rfl (o_faP td27 rfl rfl (by rw [sz25]; decide) rfl ?_)
      refine dL (E := ([(rg, 1)], none)) rfl rfl (by simp) (cfa (by simp [apartE]) (cfn)) (o_loadB1 (atL (k := 1) rfl) sz25 ag25 rfl rfl (v := eL (AV.int .u32) a.Num) rfl ?_)
      refine dP rfl rfl (o_faP td27 rfl rfl (by rw [sz25]; decide) rfl ?_)
      refine dL (E := ([(rg, 1)], none)) rfl rfl (by simp) (cfa (by simp [apartE]) (cfa (by simp [apartE]) (cfn))) (o_loadB1 (atL (k := 1) rfl) sz25 ag25 rfl rfl (v := eL (AV.int .u32) a.Den) rfl ?_)
      refine dP rfl rfl (o_assign (v := .bool a.Neg) rfl ?_)
      refine dP rfl rfl (o_assign (v := eL (AV.int .u32) a.Num) rfl ?_)
      refine dP rfl rfl (o_assign (v := eL (AV.int .u32) a.Den) rfl ?_)
      refine dN ?_
      refine Vc.ret' ?_
      refine res_tmp (v := .bool a.Neg) rfl ?_
      refine res_tmp (v := eL (AV.int .u32) a.Num) rfl ?_
      refine res_tmp (v := eL (AV.int .u32) a.Den) rfl ?_
      refine res_nil ?_
      show Gives _ (.tuple [.bool a.Neg, eL (AV.int .u32) a.Num, eL (AV.int .u32) a.Den]) _
      exact gives_out hrg (VW.tupL (vl' vr (vl' vr (vl' vr (vn))))) (hQ _ _ _ h)
  · refine Vc.region' ?_
    refine Wl.cons rg (o_loadBA (atL (k := 1) rfl) sz27 (by decide) ag27 rfl rfl (v := eRat a) rfl ?_)
    refine Wl.cons rg (o_call (us := [eRat a]) rfl (vl' vr (vn)) (ref02_Valid_ctr h fun r h => ?_))
    refine Wl.cons rg (o_not rfl ?_)
    refine Wl.cons rg (o_move (v := .bool (!r)) rfl ?_)
    refine Wl.guard rfl rfl (fun hb1 => ?_) (fun hb1 => ?_)
    · replace h := h.2 hb1
      refine Wl.cons rg (o_faP td27 rfl rfl (by rw [sz25]; decide) rfl ?_)
      refine Wl.guardT rfl rfl hb1 ?_
      refine Wl.cons rg (o_loadB1 (atL (k := 1) rfl) sz25 ag25 rfl rfl (v := eL (AV.int .u32) a.Num) rfl ?_)
      refine Wl.guardT rfl rfl hb1 ?_
      refine Wl.cons rg (o_len td25 rfl ?_)
      refine Wl.guardT rfl rfl hb1 ?_
      refine Wl.cons rg (o_eql rfl rfl ?_)
      refine Wl.cons rg (o_pickF rfl hb1 (v := .bool ((a.Num.length : Int) == 0)) rfl ?_)
      refine Wl.nil ?_
      exact ⟨(((a.Num.length : Int) == 0), g1), (canon (fc vr (fc vr (fn))) (sc rfl (sn))), h⟩
    · replace h := h.1 hb1
      refine Wl.guardF rfl rfl hb1 rfl ?_
      refine Wl.guardF rfl rfl hb1 rfl ?_
      refine Wl.guardF rfl rfl hb1 rfl ?_
      refine Wl.cons rg (o_pickT rfl hb1 (v := .bool true) rfl ?_)
      refine Wl.nil ?_
      exact ⟨(true, g1), (canon (fc vr (fc vr (fn))) (sc rfl (sn))), h⟩
theorem ref01_Add_ctr {a : List Int} {b : List Int} {Q : List Int → Prop} {S : St} {R : AV → St → Prop} (h : ref01_Add_W a b Q) (hQ : ∀ r1, Q r1 → R (eL (AV.int .u32) r1) S) :
    Ctr Try.prog 138 [eL (AV.int .u32) a, eL (AV.int .u32) b] S R := by
  unfold ref01_Add_W at h
  refine enterT Try.func138 rfl Try.ntmps138 Try.results138 (by kernel_rfl) (fun rg hrg => ?_)
  refine Vc.seq' ?_
  refine Vc.region' ?_
  refine Wl.cons rg (o_assign (v := .nil) rfl ?_)
  refine Wl.nil ?_
  refine Vc.seq' ?_
  refine Vc.region' ?_
  refine Wl.cons rg (o_assign (v := .nil) rfl ?_)
  refine Wl.nil ?_
  refine Vc.seq' ?_
  refine Vc.region' ?_
  refine Wl.cons rg (o_assign (v := .int .u64 0) rfl ?_)
  refine Wl.nil ?_
  refine Vc.seq' ?_
  refine Vc.seq' ?_
  refine Vc.region' ?_
  refine Wl.cons rg (o_move (v := eL (AV.int .u32) a) rfl ?_)
  refine Wl.cons rg (o_len td25 rfl ?_)
  refine Wl.cons rg (o_move (v := eL (AV.int .u32) b) rfl ?_)
  refine Wl.cons rg (o_len td25 rfl ?_)
  refine Wl.cons rg (o_max rfl rfl ?_)
  refine Wl.cons rg (o_addG rfl rfl h.1 ?_)
  replace h := h.2
  refine Wl.cons rg (o_move (v := .int .i64 0) rfl ?_)
  refine Wl.nil ?_
  refine Vc.blk ?_
  refine Vc.mat 5 31 1 rfl (by decide) (fun g1 => ?_)
  obtain ⟨I, μ, h0, hI⟩ := h
  refine Vc.loop' (σ := ((Int × Int × (List Int)) × (Nat))) (fun y => I y.1) (fun y => μ y.1) (fun y => envOf [(0, eL (AV.int .u32) a), (1, eL (AV.int .u32) b), (5, .sl 1 rg 31 y.2 0 y.1.2.2.length), (6, .int .u64 y.1.1), (14, .int .i64 ((max (a.length : Int) (b.length : Int)) + 1)), (15, .int .i64 y.1.2.1)]) (fun y => stL S rg [(31, .arr 1 (List.map (AV.int .u32) y.1.2.2), y.2)]) ((0, 0, []), g1) (canon (fc vr (fc vr (fc (VW.slen (by first | rfl | simp only [len_set', len_rep'])) (fc vr (fc vr (fc vr (fn))))))) (sc rfl (sn))) h0 (fun y h => ?_)
  obtain ⟨⟨carry, x, out⟩, g2⟩ := y
  replace h := hI (carry, x, out) h
  show Vc _ _ _ _ (envOf [(0, eL (AV.int .u32) a), (1, eL (AV.int .u32) b), (5, .sl 1 rg 31 g2 0 out.length), (6, .int .u64 carry), (14, .int .i64 ((max (a.length : Int) (b.length : Int)) + 1)), (15, .int .i64 x)]) (stL S rg [(31, .arr 1 (List.map (AV.int .u32) out), g2)])
  refine Vc.seq' ?_
  refine Vc.region' ?_
  refine Wl.cons rg (o_lss rfl rfl ?_)
  refine Wl.nil ?_
  refine Vc.seq' ?_
  refine Vc.cond' rfl (fun hb => ?_) (fun hb => ?_)
  · replace h := h.1 hb
    refine Vc.skip' ?_
    refine Vc.seq' ?_
    refine Vc.blk ?_
    refine Vc.seq' ?_
    refine Vc.region' ?_
    refine Wl.cons rg (o_move (v := .int .i64 x) rfl ?_)
    refine Wl.cons rg (o_assign (v := .int .i64 x) rfl ?_)
    refine Wl.nil ?_
    refine Vc.seq' ?_
    refine Vc.region' ?_
    refine Wl.cons rg (o_move (v := eL (AV.int .u32) a) rfl ?_)
    refine Wl.cons rg (o_move (v := .int .i64 x) rfl ?_)
    refine Wl.cons rg (o_call (us := [eL (AV.int .u32) a, AV.int .i64 x]) rfl (vl' vr (vl' vr (vn))) (ref01_word_ctr h fun r h => ?_))
    refine Wl.cons rg (o_move (v := eL (AV.int .u32) b) rfl ?_)
    refine Wl.cons rg (o_move (v := .int .i64 x) rfl ?_)
    refine Wl.cons rg (o_call (us := [eL (AV.int .u32) b, AV.int .i64 x]) rfl (vl' vr (vl' vr (vn))) (ref01_word_ctr h fun r1 h => ?_))
    refine Wl.cons rg (o_add rfl rfl ?_)
    refine Wl.cons rg (o_move (v := .int .u64 carry) rfl ?_)
    refine Wl.cons rg (o_add rfl rfl ?_)
    obtain ⟨s, hs⟩ : ∃ qz, qz = (IntKind.wrap .u64 ((IntKind.wrap .u64 (r + r1)) + carry)) := ⟨_, rfl⟩
    replace h := h s hs
    refine Wl.cons rg (o_assign (v := .int .u64 s) (by subst hs; rfl) ?_)
    refine Wl.nil ?_
    refine Vc.seq' ?_
    refine Vc.region' ?_
    refine Wl.cons rg (o_move (v := .sl 1 rg 31 g2 0 out.length) rfl ?_)
    refine Wl.cons rg (o_move (v := .int .u64 s) rfl ?_)
    refine Wl.cons rg (o_conv td179 td173 rfl ?_)
    refine Wl.cons rg (o_bslice td25 ok173 zav173 (es := [.int .u32 (IntKind.wrap .u32 s)]) rfl (kk := 1) rfl rfl rfl rfl rfl rfl (fun g3 => ?_))
    refine Wl.cons rg (o_appR td25 bts173 ok173 zav173 (es := out) (xs := [(IntKind.wrap .u32 s)]) (enc := AV.int .u32) (atL (k := 31) rfl) (by first | rfl | simp only [len_set', len_rep']) (view_row (atL (k := 30) rfl) (by simp only [len_set', len_rep', List.length_map, List.length_append, List.length_cons, List.length_nil])) (kk := 1) rfl rfl (fun _ => rfl) (fun _ => rfl) h.1 rfl (fun _ => setL) (fun g4 => ?_))
    replace h := h.2
    refine Wl.cons rg (o_assign (v := .sl 1 rg 31 g4 0 ((out ++ [(IntKind.wrap .u32 s)]).length)) rfl ?_)
    refine Wl.nil ?_
    refine Vc.region' ?_
    refine Wl.cons rg (o_move (v := .int .u64 s) rfl ?_)
    refine Wl.cons rg (o_shr rfl rfl (by decide) ?_)
    refine Wl.cons rg (o_assign (v := .int .u64 (s / 2 ^ (Int.toNat 32))) rfl ?_)
    refine Wl.nil ?_
    refine Vc.region' ?_
    refine Wl.cons rg (o_addG rfl rfl h.1 ?_)
    replace h := h.2
    refine Wl.cons rg (o_move (v := .int .i64 (x + 1)) rfl ?_)
    refine Wl.nil ?_
    exact ⟨(((s / 2 ^ (Int.toNat 32)), (x + 1), (out ++ [(IntKind.wrap .u32 s)])), g4), (canon (fc vr (fc vr (fc vr (fc vr (fc vr (fc vr (fn))))))) (sc rfl (sn))), h⟩
  · replace h := h.2 hb
    refine Vc.exit' (exB_self ?_)
    refine Vc.seq' ?_
    refine Vc.region' ?_
    refine Wl.cons rg (o_move (v := .sl 1 rg 31 g2 0 out.length) rfl ?_)
    refine Wl.wk (canon_freeze (k := 31) (xs := List.map (AV.int .u32) out) rfl (es := [(35, eL (AV.int .u32) out)]) (fc (frz_full rfl) (fn)) (m := []) (sn)) ?_
    refine Wl.cons rg (o_call (us := [eL (AV.int .u32) out]) rfl (vl' vr (vn)) (ref01_Trim_ctr h fun r2 h => ?_))
    refine Wl.cons rg (o_assign (v := eL (AV.int .u32) r2) rfl ?_)
    refine Wl.nil ?_
    refine Vc.ret' ?_
    refine res_tmp (v := eL (AV.int .u32) r2) rfl ?_
    refine res_nil ?_
    show Gives _ (eL (AV.int .u32) r2) _
    exact gives_out hrg (VW.refl _) (hQ _ h)
theorem ref02_Add_ctr {a : GRat} {b : GRat} {Q : GRat → Prop} {S : St} {R : AV → St → Prop} (h : ref02_Add_W a b Q) (hQ : ∀ r1, Q r1 → R (eRat r1) S) :
    Ctr Try.prog 72 [eRat a, eRat b] S R := by
  unfold ref02_Add_W at h
  refine enterT Try.func72 rfl Try.ntmps72 Try.results72 (by kernel_rfl) (fun rg hrg => ?_)
  refine Vc.seq' ?_
  refine Vc.region' ?_
  refine Wl.cons rg (o_box (v := eRat a) rfl rfl (kk := 3) rfl (by decide) (fun g1 => ?_))
  refine Wl.cons rg (o_box (v := eRat b) rfl rfl (kk := 3) rfl (by decide) (fun g2 => ?_))
  refine Wl.cons rg (o_alloc zav27 ok27 (kk := 3) rfl (fun g3 => ?_))
  refine Wl.nil ?_
  refine Vc.seq' ?_
  refine Vc.region' ?_
  refine Wl.cons rg (o_loadBA (atL (k := 2) rfl) sz27 (by decide) ag27 rfl rfl (v := eRat a) rfl ?_)
  refine Wl.cons rg (o_call (us := [eRat a]) rfl (vl' vr (vn)) (ref02_Parts_ctr h fun r r1 r2 h => ?_))
  refine Wl.cons rg (o_move (v := .tuple [.bool r, eL (AV.int .u32) r1, eL (AV.int .u32) r2]) rfl ?_)
  refine Wl.cons rg (o_extract (v := .bool r) rfl rfl rfl ?_)
  refine Wl.cons rg (o_extract (v := eL (AV.int .u32) r1) rfl rfl rfl ?_)
  refine Wl.cons rg (o_extract (v := eL (AV.int .u32) r2) rfl rfl rfl ?_)
  refine Wl.cons rg (o_assign (v := .bool r) rfl ?_)
  refine Wl.cons rg (o_assign (v := eL (AV.int .u32) r1) rfl ?_)
  refine Wl.cons rg (o_assign (v := eL (AV.int .u32) r2) rfl ?_)
  refine Wl.nil ?_
  refine Vc.seq' ?_
  refine Vc.region' ?_
  refine Wl.cons rg (o_loadBA (atL (k := 3) rfl) sz27 (by decide) ag27 rfl rfl (v := eRat b) rfl ?_)
  refine Wl.cons rg (o_call (us := [eRat b]) rfl (vl' vr (vn)) (ref02_Parts_ctr h fun r3 r4 r5 h => ?_))
  refine Wl.cons rg (o_move (v := .tuple [.bool r3, eL (AV.int .u32) r4, eL (AV.int .u32) r5]) rfl ?_)
  refine Wl.cons rg (o_extract (v := .bool r3) rfl rfl rfl ?_)
  refine Wl.cons rg (o_extract (v := eL (AV.int .u32) r4) rfl rfl rfl ?_)
  refine Wl.cons rg (o_extract (v := eL (AV.int .u32) r5) rfl rfl rfl ?_)
  refine Wl.cons rg (o_assign (v := .bool r3) rfl ?_)
  refine Wl.cons rg (o_assign (v := eL (AV.int .u32) r4) rfl ?_)
  refine Wl.cons rg (o_assign (v := eL (AV.int .u32) r5) rfl ?_)
  refine Wl.nil ?_
  refine Vc.seq' ?_
  refine Vc.region' ?_
  refine Wl.cons rg (o_move (v := eL (AV.int .u32) r1) rfl ?_)
  refine Wl.cons rg (o_move (v := eL (AV.int .u32) r5) rfl ?_)
  refine Wl.cons rg (o_call (us := [eL (AV.int .u32) r1, eL (AV.int .u32) r5]) rfl (vl' vr (vl' vr (vn))) (ref01_Mul_ctr h fun x h => ?_))
  refine Wl.cons rg (o_move (v := eL (AV.int .u32) r4) rfl ?_)
  refine Wl.cons rg (o_move (v := eL (AV.int .u32) r2) rfl ?_)
  refine Wl.cons rg (o_call (us := [eL (AV.int .u32) r4, eL (AV.int .u32) r2]) rfl (vl' vr (vl' vr (vn))) (ref01_Mul_ctr h fun y1 h => ?_))
  refine Wl.cons rg (o_move (v := eL (AV.int .u32) r2) rfl ?_)
  refine Wl.cons rg (o_move (v := eL (AV.int .u32) r5) rfl ?_)
  refine Wl.cons rg (o_call (us := [eL (AV.int .u32) r2, eL (AV.int .u32) r5]) rfl (vl' vr (vl' vr (vn))) (ref01_Mul_ctr h fun den h => ?_))
  refine Wl.cons rg (o_assign (v := eL (AV.int .u32) x) rfl ?_)
  refine Wl.cons rg (o_assign (v := eL (AV.int .u32) y1) rfl ?_)
  refine Wl.cons rg (o_assign (v := eL (AV.int .u32) den) rfl ?_)
  refine Wl.nil ?_
  refine Vc.seq' ?_
  refine Vc.seq' ?_
  refine Vc.region' ?_
  refine Wl.cons rg (o_move (v := .bool r) rfl ?_)
  refine Wl.cons rg (o_move (v := .bool r3) rfl ?_)
  refine Wl.cons rg (o_eqlB td4 rfl rfl ?_)
  refine Wl.nil ?_
  refine Vc.cond' rfl (fun hb => ?_) (fun hb => ?_)
  · replace h := h.1 hb
    refine Vc.seq' ?_
    refine Vc.region' ?_
    refine Wl.cons rg (o_move (v := .bool r) rfl ?_)
    refine Wl.cons rg (o_move (v := eL (AV.int .u32) x) rfl ?_)
    refine Wl.cons rg (o_move (v := eL (AV.int .u32) y1) rfl ?_)
    refine Wl.cons rg (o_call (us := [eL (AV.int .u32) x, eL (AV.int .u32) y1]) rfl (vl' vr (vl' vr (vn))) (ref01_Add_ctr h fun r6 h => ?_))
    refine Wl.cons rg (o_move (v := eL (AV.int .u32) den) rfl ?_)
    refine Wl.cons rg (o_call (us := [AV.bool r, eL (AV.int .u32) r6, eL (AV.int .u32) den]) rfl (vl' vr (vl' vr (vl' vr (vn)))) (ref02_From_ctr h fun r7 r8 h => ?_))
    refine Wl.cons rg (o_move (v := .tuple [eRat r7, .int .i64 r8]) rfl ?_)
    refine Wl.cons rg (o_extract (v := eRat r7) rfl rfl rfl ?_)
    refine Wl.cons rg (o_extract (v := .int .i64 r8) rfl rfl rfl ?_)
    refine Wl.cons rg (o_alloc zav27 ok27 (kk := 3) rfl (fun g4 => ?_))
    refine Wl.cons rg (o_storeB (atL (k := 14) rfl) sz27 (by decide) rfl (w := eRat r7) rfl rfl rfl (v := eRat r7) rfl setL ?_)
    refine Wl.cons rg (o_assign (v := .int .i64 r8) rfl ?_)
    refine Wl.nil ?_
    refine Vc.seq' ?_
    refine Vc.region' ?_
    refine Wl.cons rg (o_loadBA (atL (k := 14) rfl) sz27 (by decide) ag27 rfl rfl (v := eRat r7) rfl ?_)
    refine Wl.cons rg (o_storeB (atL (k := 4) rfl) sz27 (by decide) rfl (w := eRat r7) rfl rfl rfl (v := eRat r7) rfl setL ?_)
    refine Wl.nil ?_
    refine Vc.ret' ?_
    refine res_cellA (atL (k := 4) rfl) sz27 (by decide) ag27 rfl rfl (v := eRat r7) rfl ?_
    refine res_nil ?_
    show Gives _ (eRat r7) _
    exact gives_out hrg (VW.refl _) (hQ _ h)
  · replace h := h.2 hb
    refine Vc.skip' ?_
    obtain ⟨J, h, hJ⟩ := h
    refine Vc.join' (σ := ((Bool × (List Int) × (List Int)) × (Nat))) (fun y => J y.1) (fun y => envOf [(4, .ptr rg 4 y.2 0 0), (5, .bool y.1.1), (11, eL (AV.int .u32) y.1.2.1), (12, eL (AV.int .u32) y.1.2.2), (13, eL (AV.int .u32) den)]) (fun y => stL S rg [(4, .arr 3 [.agg [.bool false, .nil, .nil]], y.2)]) (fun y h => ?_) ?_
    · obtain ⟨⟨s, x1, y2⟩, g5⟩ := y
      replace h := hJ (s, x1, y2) h
      show Vc _ _ _ _ (envOf [(4, .ptr rg 4 g5 0 0), (5, .bool s), (11, eL (AV.int .u32) x1), (12, eL (AV.int .u32) y2), (13, eL (AV.int .u32) den)]) (stL S rg [(4, .arr 3 [.agg [.bool false, .nil, .nil]], g5)])
      refine Vc.seq' ?_
      refine Vc.region' ?_
      refine Wl.cons rg (o_move (v := eL (AV.int .u32) x1) rfl ?_)
      refine Wl.cons rg (o_move (v := eL (AV.int .u32) y2) rfl ?_)
      refine Wl.cons rg (o_call (us := [eL (AV.int .u32) x1, eL (AV.int .u32) y2]) rfl (vl' vr (vl' vr (vn))) (ref01_Sub_ctr h fun r9 r10 h => ?_))
      refine Wl.cons rg (o_move (v := .tuple [eL (AV.int .u32) r9, .int .i64 r10]) rfl ?_)
      refine Wl.cons rg (o_extract (v := eL (AV.int .u32) r9) rfl rfl rfl ?_)
      refine Wl.cons rg (o_extract (v := .int .i64 r10) rfl rfl rfl ?_)
      refine Wl.cons rg (o_assign (v := eL (AV.int .u32) r9) rfl ?_)
      refine Wl.cons rg (o_assign (v := .int .i64 r10) rfl ?_)
      refine Wl.nil ?_
      refine Vc.seq' ?_
      refine Vc.region' ?_
      refine Wl.cons rg (o_move (v := .bool s) rfl ?_)
      refine Wl.cons rg (o_move (v := eL (AV.int .u32) r9) rfl ?_)
      refine Wl.cons rg (o_move (v := eL (AV.int .u32) den) rfl ?_)
      refine Wl.cons rg (o_call (us := [AV.bool s, eL (AV.int .u32) r9, eL (AV.int .u32) den]) rfl (vl' vr (vl' vr (vl' vr (vn)))) (ref02_From_ctr h fun r11 r12 h => ?_))
      refine Wl.cons rg (o_move (v := .tuple [eRat r11, .int .i64 r12]) rfl ?_)
      refine Wl.cons rg (o_extract (v := eRat r11) rfl rfl rfl ?_)
      refine Wl.cons rg (o_extract (v := .int .i64 r12) rfl rfl rfl ?_)
      refine Wl.cons rg (o_alloc zav27 ok27 (kk := 3) rfl (fun g6 => ?_))
      refine Wl.cons rg (o_storeB (atL (k := 18) rfl) sz27 (by decide) rfl (w := eRat r11) rfl rfl rfl (v := eRat r11) rfl setL ?_)
      refine Wl.cons rg (o_assign (v := .int .i64 r12) rfl ?_)
      refine Wl.nil ?_
      refine Vc.seq' ?_
      refine Vc.region' ?_
      refine Wl.cons rg (o_loadBA (atL (k := 18) rfl) sz27 (by decide) ag27 rfl rfl (v := eRat r11) rfl ?_)
      refine Wl.cons rg (o_storeB (atL (k := 4) rfl) sz27 (by decide) rfl (w := eRat r11) rfl rfl rfl (v := eRat r11) rfl setL ?_)
      refine Wl.nil ?_
      refine Vc.ret' ?_
      refine res_cellA (atL (k := 4) rfl) sz27 (by decide) ag27 rfl rfl (v := eRat r11) rfl ?_
      refine res_nil ?_
      show Gives _ (eRat r11) _
      exact gives_out hrg (VW.refl _) (hQ _ h)
    · refine Vc.seq' ?_
      refine Vc.region' ?_
      refine Wl.cons rg (o_move (v := eL (AV.int .u32) x) rfl ?_)
      refine Wl.cons rg (o_move (v := eL (AV.int .u32) y1) rfl ?_)
      refine Wl.cons rg (o_call (us := [eL (AV.int .u32) x, eL (AV.int .u32) y1]) rfl (vl' vr (vl' vr (vn))) (ref01_Cmp_ctr h fun r13 h => ?_))
      refine Wl.cons rg (o_lss rfl rfl ?_)
      refine Wl.nil ?_
      refine Vc.cond' rfl (fun hb1 => ?_) (fun hb1 => ?_)
      · replace h := h.1 hb1
        refine Vc.region' ?_
        refine Wl.cons rg (o_move (v := .bool r3) rfl ?_)
        refine Wl.cons rg (o_move (v := eL (AV.int .u32) y1) rfl ?_)
        refine Wl.cons rg (o_move (v := eL (AV.int .u32) x) rfl ?_)
        refine Wl.cons rg (o_assign (v := .bool r3) rfl ?_)
        refine Wl.cons rg (o_assign (v := eL (AV.int .u32) y1) rfl ?_)
        refine Wl.cons rg (o_assign (v := eL (AV.int .u32) x) rfl ?_)
        refine Wl.nil ?_
        exact ⟨((r3, y1, x), g3), (canon (fc vr (fc vr (fc vr (fc vr (fc vr (fn)))))) (sc rfl (sn))), h⟩
      · replace h := h.2 hb1
        refine Vc.skip' ?_
        exact ⟨((r, x, y1), g3), (canon (fc vr (fc vr (fc vr (fc vr (fc vr (fn)))))) (sc rfl (sn))), h⟩
theorem ref02_Sign_ctr {a : GRat} {Q : Int → Prop} {S : St} {R : AV → St → Prop} (h : ref02_Sign_W a Q) (hQ : ∀ r1, Q r1 → R (AV.int .i64 r1) S) :
    Ctr Try.prog 71 [eRat a] S R := by
  unfold ref02_Sign_W at h
  refine enterT Try.func71 rfl Try.ntmps71 Try.results71 (by kernel_rfl) (fun rg hrg => ?_)
  refine Vc.seq' ?_
  refine Vc.region' ?_
  refine Wl.cons rg (o_box (v := eRat a) rfl rfl (kk := 3) rfl (by decide) (fun g1 => ?_))
  refine Wl.cons rg (o_assign (v := .int .i64 0) rfl ?_)
  refine Wl.nil ?_
  refine Vc.seq' ?_
  refine Vc.region' ?_
  refine Wl.cons rg (o_loadBA (atL (k := 1) rfl) sz27 (by decide) ag27 rfl rfl (v := eRat a) rfl ?_)
  refine Wl.cons rg (o_call (us := [eRat a]) rfl (vl' vr (vn)) (ref02_Parts_ctr h fun r r1 r2 h => ?_))
  refine Wl.cons rg (o_move (v := .tuple [.bool r, eL (AV.int .u32) r1, eL (AV.int .u32) r2]) rfl ?_)
  refine Wl.cons rg (o_extract (v := .bool r) rfl rfl rfl ?_)
  refine Wl.cons rg (o_extract (v := eL (AV.int .u32) r1) rfl rfl rfl ?_)
  refine Wl.cons rg (o_extract (v := eL (AV.int .u32) r2) rfl rfl rfl ?_)
  refine Wl.cons rg (o_assign (v := .bool r) rfl ?_)
  refine Wl.cons rg (o_assign (v := eL (AV.int .u32) r1) rfl ?_)
  refine Wl.cons rg (o_assign (v := eL (AV.int .u32) r2) rfl ?_)
  refine Wl.nil ?_
  refine Vc.seq' ?_
  refine Vc.seq' ?_
  refine Vc.region' ?_
  refine Wl.cons rg (o_move (v := eL (AV.int .u32) r1) rfl ?_)
  refine Wl.cons rg (o_len td25 rfl ?_)
  refine Wl.cons rg (o_eql rfl rfl ?_)
  refine Wl.nil ?_
  refine Vc.cond' rfl (fun hb => ?_) (fun hb => ?_)
  · replace h := h.1 hb
    refine Vc.seq' ?_
    refine Vc.region' ?_
    refine Wl.cons rg (o_assign (v := .int .i64 0) rfl ?_)
    refine Wl.nil ?_
    refine Vc.ret' ?_
    refine res_tmp (v := .int .i64 0) rfl ?_
    refine res_nil ?_
    show Gives _ (.int .i64 0) _
    exact gives_out hrg (VW.refl _) (hQ _ h)
  · replace h := h.2 hb
    refine Vc.skip' ?_
    refine Vc.seq' ?_
    refine Vc.seq' ?_
    refine Vc.region' ?_
    refine Wl.cons rg (o_move (v := .bool r) rfl ?_)
    refine Wl.nil ?_
    refine Vc.cond' rfl (fun hb1 => ?_) (fun hb1 => ?_)
    · replace h := h.1 hb1
      refine Vc.seq' ?_
      refine Vc.region' ?_
      refine Wl.cons rg (o_assign (v := .int .i64 (-1)) rfl ?_)
      refine Wl.nil ?_
      refine Vc.ret' ?_
      refine res_tmp (v := .int .i64 (-1)) rfl ?_
      refine res_nil ?_
      show Gives _ (.int .i64 (-1)) _
      exact gives_out hrg (VW.refl _) (hQ _ h)
    · replace h := h.2 hb1
      refine Vc.skip' ?_
      refine Vc.seq' ?_
      refine Vc.region' ?_
      refine Wl.cons rg (o_assign (v := .int .i64 1) rfl ?_)
      refine Wl.nil ?_
      refine Vc.ret' ?_
      refine res_tmp (v := .int .i64 1) rfl ?_
      refine res_nil ?_
      show Gives _ (.int .i64 1) _
      exact gives_out hrg (VW.refl _) (hQ _ h)
theorem ref50_rate_ctr {x : GRat} {Q : Bool → Prop} {S : St} {R : AV → St → Prop} (h : ref50_rate_W x Q) (hQ : ∀ r1, Q r1 → R (AV.bool r1) S) :
    Ctr Try.prog 91 [eRat x] S R := by
  unfold ref50_rate_W at h
  refine enterT Try.func91 rfl Try.ntmps91 Try.results91 (by kernel_rfl) (fun rg hrg => ?_)
  refine Vc.seq' ?_
  refine Vc.region' ?_
  refine Wl.cons rg (o_box (v := eRat x) rfl rfl (kk := 3) rfl (by decide) (fun g1 => ?_))
  refine Wl.cons rg (o_assign (v := .bool false) rfl ?_)
  refine Wl.nil ?_
  refine Vc.seq' ?_
  refine Vc.region' ?_
  refine Wl.cons rg (o_loadBA (atL (k := 1) rfl) sz27 (by decide) ag27 rfl rfl (v := eRat x) rfl ?_)
  refine Wl.cons rg (o_call (us := [eRat x]) rfl (vl' vr (vn)) (ref02_Valid_ctr h fun r h => ?_))
  refine Wl.cons rg (o_move (v := .bool r) rfl ?_)
  refine Wl.guard rfl rfl (fun hb => ?_) (fun hb => ?_)
  · replace h := h.1 hb
    refine Wl.cons rg (o_loadBA (atL (k := 1) rfl) sz27 (by decide) ag27 rfl rfl (v := eRat x) rfl ?_)
    refine Wl.guardT rfl rfl hb ?_
    refine Wl.cons rg (o_call (us := [eRat x]) rfl (vl' vr (vn)) (ref02_Sign_ctr h fun r1 h => ?_))
    refine Wl.guardT rfl rfl hb ?_
    refine Wl.cons rg (o_geq rfl rfl ?_)
    refine Wl.cons rg (o_pickT rfl hb (v := .bool (decide (0 ≤ r1))) rfl ?_)
    refine Wl.cons rg (o_assign (v := .bool (decide (0 ≤ r1))) rfl ?_)
    refine Wl.nil ?_
    refine Vc.ret' ?_
    refine res_tmp (v := .bool (decide (0 ≤ r1))) rfl ?_
    refine res_nil ?_
    show Gives _ (.bool (decide (0 ≤ r1))) _
    exact gives_out hrg (VW.refl _) (hQ _ h)
  · replace h := h.2 hb
    refine Wl.guardF rfl rfl hb rfl ?_
    refine Wl.guardF rfl rfl hb rfl ?_
    refine Wl.cons rg (o_pickF rfl hb (v := .bool false) rfl ?_)
    refine Wl.cons rg (o_assign (v := .bool false) rfl ?_)
    refine Wl.nil ?_
    refine Vc.ret' ?_
    refine res_tmp (v := .bool false) rfl ?_
    refine res_nil ?_
    show Gives _ (.bool false) _
    exact gives_out hrg (VW.refl _) (hQ _ h)
theorem ref02_Div_ctr {a : GRat} {b : GRat} {Q : GRat → Int → Prop} {S : St} {R : AV → St → Prop} (h : ref02_Div_W a b Q) (hQ : ∀ r1 r2, Q r1 r2 → R (.tuple [eRat r1, AV.int .i64 r2]) S) :
    Ctr Try.prog 92 [eRat a, eRat b] S R := by
  unfold ref02_Div_W at h
  refine enterT Try.func92 rfl Try.ntmps92 Try.results92 (by kernel_rfl) (fun rg hrg => ?_)
  refine Vc.seq' ?_
  refine Vc.region' ?_
  refine Wl.cons rg (o_box (v := eRat a) rfl rfl (kk := 3) rfl (by decide) (fun g1 => ?_))
  refine Wl.cons rg (o_box (v := eRat b) rfl rfl (kk := 3) rfl (by decide) (fun g2 => ?_))
  refine Wl.cons rg (o_alloc zav27 ok27 (kk := 3) rfl (fun g3 => ?_))
  refine Wl.cons rg (o_assign (v := .int .i64 0) rfl ?_)
  refine Wl.nil ?_
  refine Vc.seq' ?_
  refine Vc.region' ?_
  refine Wl.cons rg (o_loadBA (atL (k := 2) rfl) sz27 (by decide) ag27 rfl rfl (v := eRat a) rfl ?_)
  refine Wl.cons rg (o_call (us := [eRat a]) rfl (vl' vr (vn)) (ref02_Parts_ctr h fun r r1 r2 h => ?_))
  refine Wl.cons rg (o_move (v := .tuple [.bool r, eL (AV.int .u32) r1, eL (AV.int .u32) r2]) rfl ?_)
  refine Wl.cons rg (o_extract (v := .bool r) rfl rfl rfl ?_)
  refine Wl.cons rg (o_extract (v := eL (AV.int .u32) r1) rfl rfl rfl ?_)
  refine Wl.cons rg (o_extract (v := eL (AV.int .u32) r2) rfl rfl rfl ?_)
  refine Wl.cons rg (o_assign (v := .bool r) rfl ?_)
  refine Wl.cons rg (o_assign (v := eL (AV.int .u32) r1) rfl ?_)
  refine Wl.cons rg (o_assign (v := eL (AV.int .u32) r2) rfl ?_)
  refine Wl.nil ?_
  refine Vc.seq' ?_
  refine Vc.region' ?_
  refine Wl.cons rg (o_loadBA (atL (k := 3) rfl) sz27 (by decide) ag27 rfl rfl (v := eRat b) rfl ?_)
  refine Wl.cons rg (o_call (us := [eRat b]) rfl (vl' vr (vn)) (ref02_Parts_ctr h fun r3 r4 r5 h => ?_))
  refine Wl.cons rg (o_move (v := .tuple [.bool r3, eL (AV.int .u32) r4, eL (AV.int .u32) r5]) rfl ?_)
  refine Wl.cons rg (o_extract (v := .bool r3) rfl rfl rfl ?_)
  refine Wl.cons rg (o_extract (v := eL (AV.int .u32) r4) rfl rfl rfl ?_)
  refine Wl.cons rg (o_extract (v := eL (AV.int .u32) r5) rfl rfl rfl ?_)
  refine Wl.cons rg (o_assign (v := .bool r3) rfl ?_)
  refine Wl.cons rg (o_assign (v := eL (AV.int .u32) r4) rfl ?_)
  refine Wl.cons rg (o_assign (v := eL (AV.int .u32) r5) rfl ?_)
  refine Wl.nil ?_
  refine Vc.seq' ?_
  refine Vc.region' ?_
  refine Wl.cons rg (o_move (v := .bool r) rfl ?_)
  refine Wl.cons rg (o_move (v := .bool r3) rfl ?_)
  refine Wl.cons rg (o_neqB td4 rfl rfl ?_)
  refine Wl.cons rg (o_move (v := eL (AV.int .u32) r1) rfl ?_)
  refine Wl.cons rg (o_move (v := eL (AV.int .u32) r5) rfl ?_)
  refine Wl.cons rg (o_call (us := [eL (AV.int .u32) r1, eL (AV.int .u32) r5]) rfl (vl' vr (vl' vr (vn))) (ref01_Mul_ctr h fun r6 h => ?_))
  refine Wl.cons rg (o_move (v := eL (AV.int .u32) r2) rfl ?_)
  refine Wl.cons rg (o_move (v := eL (AV.int .u32) r4) rfl ?_)
  refine Wl.cons rg (o_call (us := [eL (AV.int .u32) r2, eL (AV.int .u32) r4]) rfl (vl' vr (vl' vr (vn))) (ref01_Mul_ctr h fun r7 h => ?_))
  refine Wl.cons rg (o_call (us := [AV.bool (r != r3), eL (AV.int .u32) r6, eL (AV.int .u32) r7]) rfl (vl' vr (vl' vr (vl' vr (vn)))) (ref02_From_ctr h fun r8 r9 h => ?_))
  refine Wl.cons rg (o_extract (v := eRat r8) rfl rfl rfl ?_)
  refine Wl.cons rg (o_extract (v := .int .i64 r9) rfl rfl rfl ?_)
  refine Wl.cons rg (o_storeB (atL (k := 4) rfl) sz27 (by decide) rfl (w := eRat r8) rfl rfl rfl (v := eRat r8) rfl setL ?_)
  refine Wl.cons rg (o_assign (v := .int .i64 r9) rfl ?_)
  refine Wl.nil ?_
  refine Vc.ret' ?_
  refine res_cellA (atL (k := 4) rfl) sz27 (by decide) ag27 rfl rfl (v := eRat r8) rfl ?_
  refine res_tmp (v := .int .i64 r9) rfl ?_
  refine res_nil ?_
  show Gives _ (.tuple [eRat r8, .int .i64 r9]) _
  exact gives_out hrg (VW.tupL (vl' vr (vl' vr (vn)))) (hQ _ _ h)
theorem ref50_Unavailable_ctr {fail : GRat} {repair : GRat} {Q : GRat → Int → Prop} {S : St} {R : AV → St → Prop} (h : ref50_Unavailable_W fail repair Q) (hQ : ∀ r1 r2, Q r1 r2 → R (.tuple [eRat r1, AV.int .i64 r2]) S) :
    Ctr Try.prog 26 [eRat fail, eRat repair] S R := by
  unfold ref50_Unavailable_W at h
  refine enterT Try.func26 rfl Try.ntmps26 Try.results26 (by kernel_rfl) (fun rg hrg => ?_)
  refine Vc.seq' ?_
  refine Vc.region' ?_
  refine Wl.cons rg (o_box (v := eRat fail) rfl rfl (kk := 3) rfl (by decide) (fun g1 => ?_))
  refine Wl.cons rg (o_box (v := eRat repair) rfl rfl (kk := 3) rfl (by decide) (fun g2 => ?_))
  refine Wl.cons rg (o_alloc zav27 ok27 (kk := 3) rfl (fun g3 => ?_))
  refine Wl.cons rg (o_assign (v := .int .i64 0) rfl ?_)
  refine Wl.nil ?_
  refine Vc.seq' ?_
  obtain ⟨J, h, hJ⟩ := h
  refine Vc.join' (σ := ((Bool) × (Nat × Nat × Nat))) (fun y => J y.1) (fun y => envOf [(2, .ptr rg 2 y.2.1 0 0), (3, .ptr rg 3 y.2.2.1 0 0), (4, .ptr rg 4 y.2.2.2 0 0), (13, .bool y.1)]) (fun y => stL S rg [(2, .arr 3 [eRat fail], y.2.1), (3, .arr 3 [eRat repair], y.2.2.1), (4, .arr 3 [.agg [.bool false, .nil, .nil]], y.2.2.2)]) (fun y h => ?_) ?_
  · obtain ⟨x, ⟨g4, g5, g6⟩⟩ := y
    replace h := hJ x h
    show Vc _ _ _ _ (envOf [(2, .ptr rg 2 g4 0 0), (3, .ptr rg 3 g5 0 0), (4, .ptr rg 4 g6 0 0), (13, .bool x)]) (stL S rg [(2, .arr 3 [eRat fail], g4), (3, .arr 3 [eRat repair], g5), (4, .arr 3 [.agg [.bool false, .nil, .nil]], g6)])
    refine Vc.cond' rfl (fun hb => ?_) (fun hb => ?_)
    · replace h := h.1 hb
      refine Vc.seq' ?_
      refine Vc.region' ?_
      refine Wl.cons rg (o_build td27 zav27 bok27 szs27 sz27 (ps := []) rfl rfl (v := .agg [.bool false, .nil, .nil]) rfl ?_)
      refine Wl.cons rg (o_storeB (atL (k := 4) rfl) sz27 (by decide) rfl (w := .agg [.bool false, .nil, .nil]) rfl rfl rfl (v := .agg [.bool false, .nil, .nil]) rfl setL ?_)
      refine Wl.cons rg (o_assign (v := .int .i64 3) rfl ?_)
      refine Wl.nil ?_
      refine Vc.ret' ?_
      refine res_cellA (atL (k := 4) rfl) sz27 (by decide) ag27 rfl rfl (v := .agg [.bool false, .nil, .nil]) rfl ?_
      refine res_tmp (v := .int .i64 3) rfl ?_
      refine res_nil ?_
      show Gives _ (.tuple [.agg [.bool false, .nil, .nil], .int .i64 3]) _
      exact gives_out hrg (VW.tupL (vl' (VW.aggL (vl' vr (vl' (VW.nilL) (vl' (VW.nilL) (vn))))) (vl' vr (vn)))) (hQ _ _ h)
    · replace h := h.2 hb
      refine Vc.skip' ?_
      refine Vc.seq' ?_
      obtain ⟨r, hc, h⟩ := h
      obtain ⟨r1, r2, hc1, h⟩ := h
      refine Vc.drawn' mixed rg (usOf [(3, pc (eRat r)), (4, pc (.tuple [eRat r1, .int .i64 r2]))]) (by kernel_rfl) ?_
      refine dL (E := ([(rg, 2)], none)) rfl rfl (by simp) (cfn) (o_loadBA (atL (k := 2) rfl) sz27 (by decide) ag27 rfl rfl (v := eRat fail) rfl ?_)
      refine dL (E := ([(rg, 2)], none)) rfl rfl (by simp) (cfa (by simp [apartE]) (cfn)) (o_loadBA (atL (k := 2) rfl) sz27 (by decide) ag27 rfl rfl (v := eRat fail) rfl ?_)
      refine dL (E := ([(rg, 3)], none)) rfl rfl (by simp) (cfa (by simp [apartE]) (cfa (by simp [apartE]) (cfn))) (o_loadBA (atL (k := 3) rfl) sz27 (by decide) ag27 rfl rfl (v := eRat repair) rfl ?_)
      refine dC (vs := [eRat fail, eRat repair]) rfl (vl' vr (vl' vr (vn))) (fun _ => ref02_Add_ctr hc (fun _ hr => ⟨by rw [hr], rfl⟩)) rfl ?_
      refine dC (vs := [eRat fail, eRat r]) rfl (vl' vr (vl' vr (vn))) (fun _ => ref02_Div_ctr hc1 (fun _ _ hr => ⟨by rw [hr.1, hr.2], rfl⟩)) rfl ?_
      refine dP rfl rfl (o_extract (v := eRat r1) rfl rfl rfl ?_)
      refine dP rfl rfl (o_extract (v := .int .i64 r2) rfl rfl rfl ?_)
      refine dL (E := ([], some (rg, 4))) rfl rfl (by simp) (cfo (by kernel_rfl) (cfo (by kernel_rfl) (cfo (by kernel_rfl) (cfn)))) (o_storeB (atL (k := 4) rfl) sz27 (by decide) rfl (w := eRat r1) rfl rfl rfl (v := eRat r1) rfl setL ?_)
      refine dP rfl rfl (o_assign (v := .int .i64 r2) rfl ?_)
      refine dN ?_
      refine Vc.ret' ?_
      refine res_cellA (atL (k := 4) rfl) sz27 (by decide) ag27 rfl rfl (v := eRat r1) rfl ?_
      refine res_tmp (v := .int .i64 r2) rfl ?_
      refine res_nil ?_
      show Gives _ (.tuple [eRat r1, .int .i64 r2]) _
      exact gives_out hrg (VW.tupL (vl' vr (vl' vr (vn)))) (hQ _ _ h)
  · refine Vc.region' ?_
    refine Wl.cons rg (o_loadBA (atL (k := 2) rfl) sz27 (by decide) ag27 rfl rfl (v := eRat fail) rfl ?_)
    refine Wl.cons rg (o_call (us := [eRat fail]) rfl (vl' vr (vn)) (ref50_rate_ctr h fun r3 h => ?_))
    refine Wl.cons rg (o_not rfl ?_)
    refine Wl.cons rg (o_move (v := .bool (!r3)) rfl ?_)
    refine Wl.guard rfl rfl (fun hb1 => ?_) (fun hb1 => ?_)
    · replace h := h.2 hb1
      refine Wl.cons rg (o_loadBA (atL (k := 3) rfl) sz27 (by decide) ag27 rfl rfl (v := eRat repair) rfl ?_)
      refine Wl.guardT rfl rfl hb1 ?_
      refine Wl.cons rg (o_call (us := [eRat repair]) rfl (vl' vr (vn)) (ref50_rate_ctr h fun r4 h => ?_))
      refine Wl.guardT rfl rfl hb1 ?_
      refine Wl.cons rg (o_not rfl ?_)
      refine Wl.cons rg (o_pickF rfl hb1 (v := .bool (!r4)) rfl ?_)
      refine Wl.nil ?_
      exact ⟨((!r4), (g1, g2, g3)), (canon (fc vr (fc vr (fc vr (fc vr (fn))))) (sc rfl (sc rfl (sc rfl (sn))))), h⟩
    · replace h := h.1 hb1
      refine Wl.guardF rfl rfl hb1 rfl ?_
      refine Wl.guardF rfl rfl hb1 rfl ?_
      refine Wl.cons rg (o_pickT rfl hb1 (v := .bool true) rfl ?_)
      refine Wl.nil ?_
      exact ⟨(true, (g1, g2, g3)), (canon (fc vr (fc vr (fc vr (fc vr (fn))))) (sc rfl (sc rfl (sc rfl (sn))))), h⟩
theorem ref02_Of_ctr {n : Int} {Q : GRat → Prop} {S : St} {R : AV → St → Prop} (h : ref02_Of_W n Q) (hQ : ∀ r1, Q r1 → R (eRat r1) S) :
    Ctr Try.prog 74 [AV.int .i64 n] S R := by
  unfold ref02_Of_W at h
  refine enterT Try.func74 rfl Try.ntmps74 Try.results74 (by kernel_rfl) (fun rg hrg => ?_)
  refine Vc.seq' ?_
  refine Vc.region' ?_
  refine Wl.cons rg (o_alloc zav27 ok27 (kk := 3) rfl (fun g1 => ?_))
  refine Wl.nil ?_
  refine Vc.seq' ?_
  refine Vc.region' ?_
  refine Wl.cons rg (o_move (v := .int .i64 n) rfl ?_)
  refine Wl.cons rg (o_call (us := [AV.int .i64 n, AV.int .i64 1]) rfl (vl' vr (vl' vr (vn))) (ref02_Make_ctr h fun r r1 h => ?_))
  refine Wl.cons rg (o_move (v := .tuple [eRat r, .int .i64 r1]) rfl ?_)
  refine Wl.cons rg (o_extract (v := eRat r) rfl rfl rfl ?_)
  refine Wl.cons rg (o_extract (v := .int .i64 r1) rfl rfl rfl ?_)
  refine Wl.cons rg (o_alloc zav27 ok27 (kk := 3) rfl (fun g2 => ?_))
  refine Wl.cons rg (o_storeB (atL (k := 3) rfl) sz27 (by decide) rfl (w := eRat r) rfl rfl rfl (v := eRat r) rfl setL ?_)
  refine Wl.cons rg (o_assign (v := .int .i64 r1) rfl ?_)
  refine Wl.nil ?_
  refine Vc.seq' ?_
  refine Vc.region' ?_
  refine Wl.cons rg (o_loadBA (atL (k := 3) rfl) sz27 (by decide) ag27 rfl rfl (v := eRat r) rfl ?_)
  refine Wl.cons rg (o_storeB (atL (k := 2) rfl) sz27 (by decide) rfl (w := eRat r) rfl rfl rfl (v := eRat r) rfl setL ?_)
  refine Wl.nil ?_
  refine Vc.ret' ?_
  refine res_cellA (atL (k := 2) rfl) sz27 (by decide) ag27 rfl rfl (v := eRat r) rfl ?_
  refine res_nil ?_
  show Gives _ (eRat r) _
  exact gives_out hrg (VW.refl _) (hQ _ h)
theorem ref50_Lists_ctr {fail : List GRat} {repair : List GRat} {Q : Int → Prop} {S : St} {R : AV → St → Prop} (h : ref50_Lists_W fail repair Q) (hQ : ∀ r1, Q r1 → R (AV.int .i64 r1) S) :
    Ctr Try.prog 86 [eL eRat fail, eL eRat repair] S R := by
  unfold ref50_Lists_W at h
  refine enterT Try.func86 rfl Try.ntmps86 Try.results86 (by kernel_rfl) (fun rg hrg => ?_)
  refine Vc.seq' ?_
  refine Vc.region' ?_
  refine Wl.cons rg (o_assign (v := .int .i64 0) rfl ?_)
  refine Wl.nil ?_
  refine Vc.seq' ?_
  refine Vc.seq' ?_
  refine Vc.region' ?_
  refine Wl.cons rg (o_move (v := eL eRat fail) rfl ?_)
  refine Wl.cons rg (o_len td22 rfl ?_)
  refine Wl.cons rg (o_move (v := eL eRat repair) rfl ?_)
  refine Wl.cons rg (o_len td22 rfl ?_)
  refine Wl.cons rg (o_neq rfl rfl ?_)
  refine Wl.cons rg (o_move (v := .bool ((fail.length : Int) != (repair.length : Int))) rfl ?_)
  refine Wl.guard rfl rfl (fun hb => ?_) (fun hb => ?_)
  · replace h := h.2 hb
    refine Wl.cons rg (o_move (v := eL eRat fail) rfl ?_)
    refine Wl.guardT rfl rfl hb ?_
    refine Wl.cons rg (o_len td22 rfl ?_)
    refine Wl.guardT rfl rfl hb ?_
    refine Wl.cons rg (o_eql rfl rfl ?_)
    refine Wl.cons rg (o_pickF rfl hb (v := .bool ((fail.length : Int) == 0)) rfl ?_)
    refine Wl.nil ?_
    refine Vc.cond' rfl (fun hb1 => ?_) (fun hb1 => ?_)
    · replace h := h.1 hb1
      refine Vc.seq' ?_
      refine Vc.region' ?_
      refine Wl.cons rg (o_assign (v := .int .i64 11) rfl ?_)
      refine Wl.nil ?_
      refine Vc.ret' ?_
      refine res_tmp (v := .int .i64 11) rfl ?_
      refine res_nil ?_
      show Gives _ (.int .i64 11) _
      exact gives_out hrg (VW.refl _) (hQ _ h)
    · replace h := h.2 hb1
      refine Vc.skip' ?_
      refine Vc.seq' ?_
      refine Vc.seq' ?_
      refine Vc.region' ?_
      refine Wl.cons rg (o_move (v := eL eRat fail) rfl ?_)
      refine Wl.cons rg (o_len td22 rfl ?_)
      refine Wl.cons rg (o_gtr rfl rfl ?_)
      refine Wl.nil ?_
      refine Vc.cond' rfl (fun hb2 => ?_) (fun hb2 => ?_)
      · replace h := h.1 hb2
        refine Vc.seq' ?_
        refine Vc.region' ?_
        refine Wl.cons rg (o_assign (v := .int .i64 4) rfl ?_)
        refine Wl.nil ?_
        refine Vc.ret' ?_
        refine res_tmp (v := .int .i64 4) rfl ?_
        refine res_nil ?_
        show Gives _ (.int .i64 4) _
        exact gives_out hrg (VW.refl _) (hQ _ h)
      · replace h := h.2 hb2
        refine Vc.skip' ?_
        refine Vc.seq' ?_
        refine Vc.seq' ?_
        refine Vc.region' ?_
        refine Wl.cons rg (o_move (v := eL eRat fail) rfl ?_)
        refine Wl.cons rg (o_len td22 rfl ?_)
        refine Wl.cons rg (o_move (v := .int .i64 0) rfl ?_)
        refine Wl.nil ?_
        refine Vc.blk ?_
        obtain ⟨I, μ, h0, hI⟩ := h
        refine Vc.loop' (σ := (Int)) (fun y => I y) (fun y => μ y) (fun y => envOf [(0, eL eRat fail), (1, eL eRat repair), (23, .int .i64 (fail.length : Int)), (24, .int .i64 y)]) (fun y => stL S rg []) 0 (canon (fc vr (fc vr (fc vr (fc vr (fn))))) (sn)) h0 (fun x h => ?_)
        replace h := hI x h
        show Vc _ _ _ _ (envOf [(0, eL eRat fail), (1, eL eRat repair), (23, .int .i64 (fail.length : Int)), (24, .int .i64 x)]) (stL S rg [])
        refine Vc.seq' ?_
        refine Vc.region' ?_
        refine Wl.cons rg (o_lss rfl rfl ?_)
        refine Wl.nil ?_
        refine Vc.seq' ?_
        refine Vc.cond' rfl (fun hb3 => ?_) (fun hb3 => ?_)
        · replace h := h.1 hb3
          refine Vc.skip' ?_
          refine Vc.seq' ?_
          refine Vc.blk ?_
          refine Vc.seq' ?_
          refine Vc.region' ?_
          refine Wl.cons rg (o_move (v := .int .i64 x) rfl ?_)
          refine Wl.cons rg (o_assign (v := .int .i64 x) rfl ?_)
          refine Wl.nil ?_
          refine Vc.seq' ?_
          refine Vc.region' ?_
          refine Wl.cons rg (o_move (v := eL eRat fail) rfl ?_)
          refine Wl.cons rg (o_move (v := .int .i64 x) rfl ?_)
          refine Wl.cons rg (o_idxL td22 sz27 (by decide) (fun _ => rfl) rfl rfl h.1 ?_)
          replace h := h.2
          refine Wl.cons rg (o_loadIA sz27 (by decide) ag27 rfl rfl (v := eRat (at' fail x)) rfl ?_)
          refine Wl.cons rg (o_call (us := [eRat (at' fail x)]) rfl (vl' vr (vn)) (ref50_rate_ctr h fun r h => ?_))
          refine Wl.cons rg (o_not rfl ?_)
          refine Wl.cons rg (o_move (v := .bool (!r)) rfl ?_)
          refine Wl.guard rfl rfl (fun hb4 => ?_) (fun hb4 => ?_)
          · replace h := h.2 hb4
            refine Wl.cons rg (o_move (v := eL eRat repair) rfl ?_)
            refine Wl.guardT rfl rfl hb4 ?_
            refine Wl.cons rg (o_move (v := .int .i64 x) rfl ?_)
            refine Wl.guardT rfl rfl hb4 ?_
            refine Wl.cons rg (o_idxL td22 sz27 (by decide) (fun _ => rfl) rfl rfl h.1 ?_)
            replace h := h.2
            refine Wl.guardT rfl rfl hb4 ?_
            refine Wl.cons rg (o_loadIA sz27 (by decide) ag27 rfl rfl (v := eRat (at' repair x)) rfl ?_)
            refine Wl.guardT rfl rfl hb4 ?_
            refine Wl.cons rg (o_call (us := [eRat (at' repair x)]) rfl (vl' vr (vn)) (ref50_rate_ctr h fun r1 h => ?_))
            refine Wl.guardT rfl rfl hb4 ?_
            refine Wl.cons rg (o_not rfl ?_)
            refine Wl.cons rg (o_pickF rfl hb4 (v := .bool (!r1)) rfl ?_)
            refine Wl.nil ?_
            refine Vc.cond' rfl (fun hb5 => ?_) (fun hb5 => ?_)
            · replace h := h.1 hb5
              refine Vc.seq' ?_
              refine Vc.region' ?_
              refine Wl.cons rg (o_assign (v := .int .i64 3) rfl ?_)
              refine Wl.nil ?_
              refine Vc.ret' ?_
              refine res_tmp (v := .int .i64 3) rfl ?_
              refine res_nil ?_
              show Gives _ (.int .i64 3) _
              exact gives_out hrg (VW.refl _) (hQ _ h)
            · replace h := h.2 hb5
              refine Vc.skip' ?_
              refine Vc.region' ?_
              refine Wl.cons rg (o_addG rfl rfl h.1 ?_)
              replace h := h.2
              refine Wl.cons rg (o_move (v := .int .i64 (x + 1)) rfl ?_)
              refine Wl.nil ?_
              exact ⟨(x + 1), (canon (fc vr (fc vr (fc vr (fc vr (fn))))) (sn)), h⟩
          · replace h := h.1 hb4
            refine Wl.guardF rfl rfl hb4 rfl ?_
            refine Wl.guardF rfl rfl hb4 rfl ?_
            refine Wl.guardF rfl rfl hb4 rfl ?_
            refine Wl.guardF rfl rfl hb4 rfl ?_
            refine Wl.guardF rfl rfl hb4 rfl ?_
            refine Wl.cons rg (o_pickT rfl hb4 (v := .bool true) rfl ?_)
            refine Wl.nil ?_
            refine Vc.cond' rfl (fun _ => ?_) (fun hb => Bool.noConfusion hb)
            refine Vc.seq' ?_
            refine Vc.region' ?_
            refine Wl.cons rg (o_assign (v := .int .i64 3) rfl ?_)
            refine Wl.nil ?_
            refine Vc.ret' ?_
            refine res_tmp (v := .int .i64 3) rfl ?_
            refine res_nil ?_
            show Gives _ (.int .i64 3) _
            exact gives_out hrg (VW.refl _) (hQ _ h)
        · replace h := h.2 hb3
          refine Vc.exit' (exB_self ?_)
          refine Vc.seq' ?_
          refine Vc.seq' ?_
          refine Vc.region' ?_
          refine Wl.cons rg (o_move (v := eL eRat fail) rfl ?_)
          refine Wl.cons rg (o_len td22 rfl ?_)
          refine Wl.cons rg (o_move (v := .int .i64 0) rfl ?_)
          refine Wl.nil ?_
          refine Vc.blk ?_
          obtain ⟨I, μ, h0, hI⟩ := h
          refine Vc.loop' (σ := (Int)) (fun y => I y) (fun y => μ y) (fun y => envOf [(0, eL eRat fail), (1, eL eRat repair), (43, .int .i64 (fail.length : Int)), (44, .int .i64 y)]) (fun y => stL S rg []) 0 (canon (fc vr (fc vr (fc vr (fc vr (fn))))) (sn)) h0 (fun x1 h => ?_)
          replace h := hI x1 h
          show Vc _ _ _ _ (envOf [(0, eL eRat fail), (1, eL eRat repair), (43, .int .i64 (fail.length : Int)), (44, .int .i64 x1)]) (stL S rg [])
          refine Vc.seq' ?_
          refine Vc.region' ?_
          refine Wl.cons rg (o_lss rfl rfl ?_)
          refine Wl.nil ?_
          refine Vc.seq' ?_
          refine Vc.cond' rfl (fun hb6 => ?_) (fun hb6 => ?_)
          · replace h := h.1 hb6
            refine Vc.skip' ?_
            refine Vc.seq' ?_
            refine Vc.blk ?_
            refine Vc.seq' ?_
            refine Vc.region' ?_
            refine Wl.cons rg (o_move (v := .int .i64 x1) rfl ?_)
            refine Wl.cons rg (o_assign (v := .int .i64 x1) rfl ?_)
            refine Wl.nil ?_
            refine Vc.seq' ?_
            have hg := h.1
            replace h := h.2
            have hg1 := h.1
            replace h := h.2
            obtain ⟨r2, r3, hc, h⟩ := h
            refine Vc.drawn' mixed rg (usOf [(8, pc (.tuple [eRat r2, .int .i64 r3]))]) (by kernel_rfl) ?_
            refine dP rfl rfl (o_move (v := eL eRat fail) rfl ?_)
            refine dP rfl rfl (o_move (v := .int .i64 x1) rfl ?_)
            refine dP rfl rfl (o_idxL td22 sz27 (by decide) (fun _ => rfl) rfl rfl hg ?_)
            refine dP rfl rfl (o_loadIA sz27 (by decide) ag27 rfl rfl (v := eRat (at' fail x1)) rfl ?_)
            refine dP rfl rfl (o_move (v := eL eRat repair) rfl ?_)
            refine dP rfl rfl (o_move (v := .int .i64 x1) rfl ?_)
            refine dP rfl rfl (o_idxL td22 sz27 (by decide) (fun _ => rfl) rfl rfl hg1 ?_)
            refine dP rfl rfl (o_loadIA sz27 (by decide) ag27 rfl rfl (v := eRat (at' repair x1)) rfl ?_)
            refine dC (vs := [eRat (at' fail x1), eRat (at' repair x1)]) rfl (vl' vr (vl' vr (vn))) (fun _ => ref50_Unavailable_ctr hc (fun _ _ hr => ⟨by rw [hr.1, hr.2], rfl⟩)) rfl ?_
            refine dP rfl rfl (o_move (v := .tuple [eRat r2, .int .i64 r3]) rfl ?_)
            refine dP rfl rfl (o_extract (v := eRat r2) rfl rfl rfl ?_)
            refine dP rfl rfl (o_extract (v := .int .i64 r3) rfl rfl rfl ?_)
            refine dL (E := ([], some (rg, 7))) rfl rfl (by simp) (cfn) (o_alloc zav27 ok27 (kk := 3) rfl (fun g1 => ?_))
            refine dL (E := ([], some (rg, 7))) rfl rfl (by simp) (cfo (by kernel_rfl) (cfn)) (o_storeB (atL (k := 7) rfl) sz27 (by decide) rfl (w := eRat r2) rfl rfl rfl (v := eRat r2) rfl setL ?_)
            refine dP rfl rfl (o_assign (v := .int .i64 r3) rfl ?_)
            refine dN ?_
            refine Vc.seq' ?_
            refine Vc.region' ?_
            refine Wl.cons rg (o_move (v := .int .i64 r3) rfl ?_)
            refine Wl.cons rg (o_neq rfl rfl ?_)
            refine Wl.nil ?_
            refine Vc.cond' rfl (fun hb7 => ?_) (fun hb7 => ?_)
            · replace h := h.1 hb7
              refine Vc.seq' ?_
              refine Vc.region' ?_
              refine Wl.cons rg (o_move (v := .int .i64 r3) rfl ?_)
              refine Wl.cons rg (o_assign (v := .int .i64 r3) rfl ?_)
              refine Wl.nil ?_
              refine Vc.ret' ?_
              refine res_tmp (v := .int .i64 r3) rfl ?_
              refine res_nil ?_
              show Gives _ (.int .i64 r3) _
              exact gives_out hrg (VW.refl _) (hQ _ h)
            · replace h := h.2 hb7
              refine Vc.skip' ?_
              refine Vc.region' ?_
              refine Wl.cons rg (o_addG rfl rfl h.1 ?_)
              replace h := h.2
              refine Wl.cons rg (o_move (v := .int .i64 (x1 + 1)) rfl ?_)
              refine Wl.nil ?_
              exact ⟨(x1 + 1), (canon (fc vr (fc vr (fc vr (fc vr (fn))))) (sn)), h⟩
          · replace h := h.2 hb6
            refine Vc.exit' (exB_self ?_)
            refine Vc.seq' ?_
            refine Vc.region' ?_
            refine Wl.cons rg (o_assign (v := .int .i64 0) rfl ?_)
            refine Wl.nil ?_
            refine Vc.ret' ?_
            refine res_tmp (v := .int .i64 0) rfl ?_
            refine res_nil ?_
            show Gives _ (.int .i64 0) _
            exact gives_out hrg (VW.refl _) (hQ _ h)
  · replace h := h.1 hb
    refine Wl.guardF rfl rfl hb rfl ?_
    refine Wl.guardF rfl rfl hb rfl ?_
    refine Wl.cons rg (o_pickT rfl hb (v := .bool true) rfl ?_)
    refine Wl.nil ?_
    refine Vc.cond' rfl (fun _ => ?_) (fun hb => Bool.noConfusion hb)
    refine Vc.seq' ?_
    refine Vc.region' ?_
    refine Wl.cons rg (o_assign (v := .int .i64 11) rfl ?_)
    refine Wl.nil ?_
    refine Vc.ret' ?_
    refine res_tmp (v := .int .i64 11) rfl ?_
    refine res_nil ?_
    show Gives _ (.int .i64 11) _
    exact gives_out hrg (VW.refl _) (hQ _ h)
theorem ref02_Neg_ctr {a : GRat} {Q : GRat → Prop} {S : St} {R : AV → St → Prop} (h : ref02_Neg_W a Q) (hQ : ∀ r1, Q r1 → R (eRat r1) S) :
    Ctr Try.prog 146 [eRat a] S R := by
  unfold ref02_Neg_W at h
  refine enterT Try.func146 rfl Try.ntmps146 Try.results146 (by kernel_rfl) (fun rg hrg => ?_)
  refine Vc.seq' ?_
  refine Vc.region' ?_
  refine Wl.cons rg (o_box (v := eRat a) rfl rfl (kk := 3) rfl (by decide) (fun g1 => ?_))
  refine Wl.cons rg (o_alloc zav27 ok27 (kk := 3) rfl (fun g2 => ?_))
  refine Wl.nil ?_
  refine Vc.seq' ?_
  refine Vc.region' ?_
  refine Wl.cons rg (o_loadBA (atL (k := 1) rfl) sz27 (by decide) ag27 rfl rfl (v := eRat a) rfl ?_)
  refine Wl.cons rg (o_call (us := [eRat a]) rfl (vl' vr (vn)) (ref02_Parts_ctr h fun r r1 r2 h => ?_))
  refine Wl.cons rg (o_move (v := .tuple [.bool r, eL (AV.int .u32) r1, eL (AV.int .u32) r2]) rfl ?_)
  refine Wl.cons rg (o_extract (v := .bool r) rfl rfl rfl ?_)
  refine Wl.cons rg (o_extract (v := eL (AV.int .u32) r1) rfl rfl rfl ?_)
  refine Wl.cons rg (o_extract (v := eL (AV.int .u32) r2) rfl rfl rfl ?_)
  refine Wl.cons rg (o_assign (v := .bool r) rfl ?_)
  refine Wl.cons rg (o_assign (v := eL (AV.int .u32) r1) rfl ?_)
  refine Wl.cons rg (o_assign (v := eL (AV.int .u32) r2) rfl ?_)
  refine Wl.nil ?_
  refine Vc.seq' ?_
  refine Vc.region' ?_
  refine Wl.cons rg (o_move (v := .bool r) rfl ?_)
  refine Wl.cons rg (o_not rfl ?_)
  refine Wl.cons rg (o_move (v := eL (AV.int .u32) r1) rfl ?_)
  refine Wl.cons rg (o_move (v := eL (AV.int .u32) r2) rfl ?_)
  refine Wl.cons rg (o_call (us := [AV.bool (!r), eL (AV.int .u32) r1, eL (AV.int .u32) r2]) rfl (vl' vr (vl' vr (vl' vr (vn)))) (ref02_From_ctr h fun r3 r4 h => ?_))
  refine Wl.cons rg (o_move (v := .tuple [eRat r3, .int .i64 r4]) rfl ?_)
  refine Wl.cons rg (o_extract (v := eRat r3) rfl rfl rfl ?_)
  refine Wl.cons rg (o_extract (v := .int .i64 r4) rfl rfl rfl ?_)
  refine Wl.cons rg (o_alloc zav27 ok27 (kk := 3) rfl (fun g3 => ?_))
  refine Wl.cons rg (o_storeB (atL (k := 6) rfl) sz27 (by decide) rfl (w := eRat r3) rfl rfl rfl (v := eRat r3) rfl setL ?_)
  refine Wl.cons rg (o_assign (v := .int .i64 r4) rfl ?_)
  refine Wl.nil ?_
  refine Vc.seq' ?_
  refine Vc.region' ?_
  refine Wl.cons rg (o_loadBA (atL (k := 6) rfl) sz27 (by decide) ag27 rfl rfl (v := eRat r3) rfl ?_)
  refine Wl.cons rg (o_storeB (atL (k := 2) rfl) sz27 (by decide) rfl (w := eRat r3) rfl rfl rfl (v := eRat r3) rfl setL ?_)
  refine Wl.nil ?_
  refine Vc.ret' ?_
  refine res_cellA (atL (k := 2) rfl) sz27 (by decide) ag27 rfl rfl (v := eRat r3) rfl ?_
  refine res_nil ?_
  show Gives _ (eRat r3) _
  exact gives_out hrg (VW.refl _) (hQ _ h)
theorem ref02_Sub_ctr {a : GRat} {b : GRat} {Q : GRat → Prop} {S : St} {R : AV → St → Prop} (h : ref02_Sub_W a b Q) (hQ : ∀ r1, Q r1 → R (eRat r1) S) :
    Ctr Try.prog 87 [eRat a, eRat b] S R := by
  unfold ref02_Sub_W at h
  refine enterT Try.func87 rfl Try.ntmps87 Try.results87 (by kernel_rfl) (fun rg hrg => ?_)
  refine Vc.seq' ?_
  refine Vc.region' ?_
  refine Wl.cons rg (o_box (v := eRat a) rfl rfl (kk := 3) rfl (by decide) (fun g1 => ?_))
  refine Wl.cons rg (o_box (v := eRat b) rfl rfl (kk := 3) rfl (by decide) (fun g2 => ?_))
  refine Wl.cons rg (o_alloc zav27 ok27 (kk := 3) rfl (fun g3 => ?_))
  refine Wl.nil ?_
  refine Vc.seq' ?_
  obtain ⟨r, hc, h⟩ := h
  obtain ⟨r1, hc1, h⟩ := h
  refine Vc.drawn' mixed rg (usOf [(2, pc (eRat r)), (3, pc (eRat r1))]) (by kernel_rfl) ?_
  refine dL (E := ([(rg, 2)], none)) rfl rfl (by simp) (cfn) (o_loadBA (atL (k := 2) rfl) sz27 (by decide) ag27 rfl rfl (v := eRat a) rfl ?_)
  refine dL (E := ([(rg, 3)], none)) rfl rfl (by simp) (cfa (by simp [apartE]) (cfn)) (o_loadBA (atL (k := 3) rfl) sz27 (by decide) ag27 rfl rfl (v := eRat b) rfl ?_)
  refine dC (vs := [eRat b]) rfl (vl' vr (vn)) (fun _ => ref02_Neg_ctr hc (fun _ hr => ⟨by rw [hr], rfl⟩)) rfl ?_
  refine dC (vs := [eRat a, eRat r]) rfl (vl' vr (vl' vr (vn))) (fun _ => ref02_Add_ctr hc1 (fun _ hr => ⟨by rw [hr], rfl⟩)) rfl ?_
  refine dL (E := ([], some (rg, 4))) rfl rfl (by simp) (cfo (by kernel_rfl) (cfo (by kernel_rfl) (cfn))) (o_storeB (atL (k := 4) rfl) sz27 (by decide) rfl (w := eRat r1) rfl rfl rfl (v := eRat r1) rfl setL ?_)
  refine dN ?_
  refine Vc.ret' ?_
  refine res_cellA (atL (k := 4) rfl) sz27 (by decide) ag27 rfl rfl (v := eRat r1) rfl ?_
  refine res_nil ?_
  show Gives _ (eRat r1) _
  exact gives_out hrg (VW.refl _) (hQ _ h)
theorem ref02_Mul_ctr {a : GRat} {b : GRat} {Q : GRat → Prop} {S : St} {R : AV → St → Prop} (h : ref02_Mul_W a b Q) (hQ : ∀ r1, Q r1 → R (eRat r1) S) :
    Ctr Try.prog 88 [eRat a, eRat b] S R := by
  unfold ref02_Mul_W at h
  refine enterT Try.func88 rfl Try.ntmps88 Try.results88 (by kernel_rfl) (fun rg hrg => ?_)
  refine Vc.seq' ?_
  refine Vc.region' ?_
  refine Wl.cons rg (o_box (v := eRat a) rfl rfl (kk := 3) rfl (by decide) (fun g1 => ?_))
  refine Wl.cons rg (o_box (v := eRat b) rfl rfl (kk := 3) rfl (by decide) (fun g2 => ?_))
  refine Wl.cons rg (o_alloc zav27 ok27 (kk := 3) rfl (fun g3 => ?_))
  refine Wl.nil ?_
  refine Vc.seq' ?_
  refine Vc.region' ?_
  refine Wl.cons rg (o_loadBA (atL (k := 2) rfl) sz27 (by decide) ag27 rfl rfl (v := eRat a) rfl ?_)
  refine Wl.cons rg (o_call (us := [eRat a]) rfl (vl' vr (vn)) (ref02_Parts_ctr h fun r r1 r2 h => ?_))
  refine Wl.cons rg (o_move (v := .tuple [.bool r, eL (AV.int .u32) r1, eL (AV.int .u32) r2]) rfl ?_)
  refine Wl.cons rg (o_extract (v := .bool r) rfl rfl rfl ?_)
  refine Wl.cons rg (o_extract (v := eL (AV.int .u32) r1) rfl rfl rfl ?_)
  refine Wl.cons rg (o_extract (v := eL (AV.int .u32) r2) rfl rfl rfl ?_)
  refine Wl.cons rg (o_assign (v := .bool r) rfl ?_)
  refine Wl.cons rg (o_assign (v := eL (AV.int .u32) r1) rfl ?_)
  refine Wl.cons rg (o_assign (v := eL (AV.int .u32) r2) rfl ?_)
  refine Wl.nil ?_
  refine Vc.seq' ?_
  refine Vc.region' ?_
  refine Wl.cons rg (o_loadBA (atL (k := 3) rfl) sz27 (by decide) ag27 rfl rfl (v := eRat b) rfl ?_)
  refine Wl.cons rg (o_call (us := [eRat b]) rfl (vl' vr (vn)) (ref02_Parts_ctr h fun r3 r4 r5 h => ?_))
  refine Wl.cons rg (o_move (v := .tuple [.bool r3, eL (AV.int .u32) r4, eL (AV.int .u32) r5]) rfl ?_)
  refine Wl.cons rg (o_extract (v := .bool r3) rfl rfl rfl ?_)
  refine Wl.cons rg (o_extract (v := eL (AV.int .u32) r4) rfl rfl rfl ?_)
  refine Wl.cons rg (o_extract (v := eL (AV.int .u32) r5) rfl rfl rfl ?_)
  refine Wl.cons rg (o_assign (v := .bool r3) rfl ?_)
  refine Wl.cons rg (o_assign (v := eL (AV.int .u32) r4) rfl ?_)
  refine Wl.cons rg (o_assign (v := eL (AV.int .u32) r5) rfl ?_)
  refine Wl.nil ?_
  refine Vc.seq' ?_
  refine Vc.region' ?_
  refine Wl.cons rg (o_move (v := .bool r) rfl ?_)
  refine Wl.cons rg (o_move (v := .bool r3) rfl ?_)
  refine Wl.cons rg (o_neqB td4 rfl rfl ?_)
  refine Wl.cons rg (o_move (v := eL (AV.int .u32) r1) rfl ?_)
  refine Wl.cons rg (o_move (v := eL (AV.int .u32) r4) rfl ?_)
  refine Wl.cons rg (o_call (us := [eL (AV.int .u32) r1, eL (AV.int .u32) r4]) rfl (vl' vr (vl' vr (vn))) (ref01_Mul_ctr h fun r6 h => ?_))
  refine Wl.cons rg (o_move (v := eL (AV.int .u32) r2) rfl ?_)
  refine Wl.cons rg (o_move (v := eL (AV.int .u32) r5) rfl ?_)
  refine Wl.cons rg (o_call (us := [eL (AV.int .u32) r2, eL (AV.int .u32) r5]) rfl (vl' vr (vl' vr (vn))) (ref01_Mul_ctr h fun r7 h => ?_))
  refine Wl.cons rg (o_call (us := [AV.bool (r != r3), eL (AV.int .u32) r6, eL (AV.int .u32) r7]) rfl (vl' vr (vl' vr (vl' vr (vn)))) (ref02_From_ctr h fun r8 r9 h => ?_))
  refine Wl.cons rg (o_move (v := .tuple [eRat r8, .int .i64 r9]) rfl ?_)
  refine Wl.cons rg (o_extract (v := eRat r8) rfl rfl rfl ?_)
  refine Wl.cons rg (o_extract (v := .int .i64 r9) rfl rfl rfl ?_)
  refine Wl.cons rg (o_alloc zav27 ok27 (kk := 3) rfl (fun g4 => ?_))
  refine Wl.cons rg (o_storeB (atL (k := 11) rfl) sz27 (by decide) rfl (w := eRat r8) rfl rfl rfl (v := eRat r8) rfl setL ?_)
  refine Wl.cons rg (o_assign (v := .int .i64 r9) rfl ?_)
  refine Wl.nil ?_
  refine Vc.seq' ?_
  refine Vc.region' ?_
  refine Wl.cons rg (o_loadBA (atL (k := 11) rfl) sz27 (by decide) ag27 rfl rfl (v := eRat r8) rfl ?_)
  refine Wl.cons rg (o_storeB (atL (k := 4) rfl) sz27 (by decide) rfl (w := eRat r8) rfl rfl rfl (v := eRat r8) rfl setL ?_)
  refine Wl.nil ?_
  refine Vc.ret' ?_
  refine res_cellA (atL (k := 4) rfl) sz27 (by decide) ag27 rfl rfl (v := eRat r8) rfl ?_
  refine res_nil ?_
  show Gives _ (eRat r8) _
  exact gives_out hrg (VW.refl _) (hQ _ h)
theorem ref50_Stationary_ctr {fail : List GRat} {repair : List GRat} {Q : List GRat → Int → Prop} {S : St} {R : AV → St → Prop} (h : ref50_Stationary_W fail repair Q) (hQ : ∀ r1 r2, Q r1 r2 → R (.tuple [eL eRat r1, AV.int .i64 r2]) S) :
    Ctr Try.prog 24 [eL eRat fail, eL eRat repair] S R := by
  unfold ref50_Stationary_W at h
  refine enterT Try.func24 rfl Try.ntmps24 Try.results24 (by kernel_rfl) (fun rg hrg => ?_)
  refine Vc.seq' ?_
  refine Vc.region' ?_
  refine Wl.cons rg (o_assign (v := .nil) rfl ?_)
  refine Wl.cons rg (o_assign (v := .int .i64 0) rfl ?_)
  refine Wl.nil ?_
  refine Vc.seq' ?_
  refine Vc.seq' ?_
  refine Vc.region' ?_
  refine Wl.cons rg (o_move (v := eL eRat fail) rfl ?_)
  refine Wl.cons rg (o_move (v := eL eRat repair) rfl ?_)
  refine Wl.cons rg (o_call (us := [eL eRat fail, eL eRat repair]) rfl (vl' vr (vl' vr (vn))) (ref50_Lists_ctr h fun e h => ?_))
  refine Wl.cons rg (o_assign (v := .int .i64 e) rfl ?_)
  refine Wl.nil ?_
  refine Vc.seq' ?_
  refine Vc.region' ?_
  refine Wl.cons rg (o_move (v := .int .i64 e) rfl ?_)
  refine Wl.cons rg (o_neq rfl rfl ?_)
  refine Wl.nil ?_
  refine Vc.cond' rfl (fun hb => ?_) (fun hb => ?_)
  · replace h := h.1 hb
    refine Vc.seq' ?_
    refine Vc.region' ?_
    refine Wl.cons rg (o_move (v := .int .i64 e) rfl ?_)
    refine Wl.cons rg (o_assign (v := .nil) rfl ?_)
    refine Wl.cons rg (o_assign (v := .int .i64 e) rfl ?_)
    refine Wl.nil ?_
    refine Vc.ret' ?_
    refine res_tmp (v := .nil) rfl ?_
    refine res_tmp (v := .int .i64 e) rfl ?_
    refine res_nil ?_
    show Gives _ (.tuple [.nil, .int .i64 e]) _
    exact gives_out hrg (VW.tupL (vl' (VW.nilL) (vl' vr (vn)))) (hQ _ _ h)
  · replace h := h.2 hb
    refine Vc.skip' ?_
    refine Vc.seq' ?_
    refine Vc.region' ?_
    refine Wl.cons rg (o_assign (v := .nil) rfl ?_)
    refine Wl.nil ?_
    refine Vc.seq' ?_
    refine Vc.seq' ?_
    refine Vc.region' ?_
    refine Wl.cons rg (o_move (v := eL eRat fail) rfl ?_)
    refine Wl.cons rg (o_len td22 rfl ?_)
    refine Wl.cons rg (o_shlG rfl rfl h.1 ?_)
    replace h := h.2
    refine Wl.cons rg (o_move (v := .int .i64 0) rfl ?_)
    refine Wl.nil ?_
    refine Vc.blk ?_
    refine Vc.mat 7 58 3 rfl (by decide) (fun g1 => ?_)
    obtain ⟨I, μ, h0, hI⟩ := h
    refine Vc.loop' (σ := ((Int × (List GRat)) × (Nat))) (fun y => I y.1) (fun y => μ y.1) (fun y => envOf [(0, eL eRat fail), (1, eL eRat repair), (7, .sl 3 rg 58 y.2 0 y.1.2.length), (21, .int .i64 (1 * 2 ^ (Int.toNat (fail.length : Int)))), (22, .int .i64 y.1.1)]) (fun y => stL S rg [(58, .arr 3 (List.map eRat y.1.2), y.2)]) ((0, []), g1) (canon (fc vr (fc vr (fc (VW.slen (by first | rfl | simp only [len_set', len_rep'])) (fc vr (fc vr (fn)))))) (sc rfl (sn))) h0 (fun y h => ?_)
    obtain ⟨⟨x, out⟩, g2⟩ := y
    replace h := hI (x, out) h
    show Vc _ _ _ _ (envOf [(0, eL eRat fail), (1, eL eRat repair), (7, .sl 3 rg 58 g2 0 out.length), (21, .int .i64 (1 * 2 ^ (Int.toNat (fail.length : Int)))), (22, .int .i64 x)]) (stL S rg [(58, .arr 3 (List.map eRat out), g2)])
    refine Vc.seq' ?_
    refine Vc.region' ?_
    refine Wl.cons rg (o_lss rfl rfl ?_)
    refine Wl.nil ?_
    refine Vc.seq' ?_
    refine Vc.cond' rfl (fun hb1 => ?_) (fun hb1 => ?_)
    · replace h := h.1 hb1
      refine Vc.skip' ?_
      refine Vc.seq' ?_
      refine Vc.blk ?_
      refine Vc.seq' ?_
      refine Vc.region' ?_
      refine Wl.cons rg (o_move (v := .int .i64 x) rfl ?_)
      refine Wl.cons rg (o_assign (v := .int .i64 x) rfl ?_)
      refine Wl.nil ?_
      refine Vc.seq' ?_
      refine Vc.region' ?_
      refine Wl.cons rg (o_call (us := [AV.int .i64 1]) rfl (vl' vr (vn)) (ref02_Of_ctr h fun r h => ?_))
      refine Wl.cons rg (o_alloc zav27 ok27 (kk := 3) rfl (fun g3 => ?_))
      refine Wl.cons rg (o_storeB (atL (k := 9) rfl) sz27 (by decide) rfl (w := eRat r) rfl rfl rfl (v := eRat r) rfl setL ?_)
      refine Wl.nil ?_
      refine Vc.seq' ?_
      refine Vc.seq' ?_
      refine Vc.region' ?_
      refine Wl.cons rg (o_move (v := eL eRat fail) rfl ?_)
      refine Wl.cons rg (o_len td22 rfl ?_)
      refine Wl.cons rg (o_move (v := .int .i64 0) rfl ?_)
      refine Wl.nil ?_
      refine Vc.blk ?_
      obtain ⟨I, μ, h0, hI⟩ := h
      refine Vc.loop' (σ := ((Int × GRat) × (Nat × Nat))) (fun y => I y.1) (fun y => μ y.1) (fun y => envOf [(0, eL eRat fail), (1, eL eRat repair), (7, .sl 3 rg 58 y.2.2 0 out.length), (8, .int .i64 x), (9, .ptr rg 9 y.2.1 0 0), (21, .int .i64 (1 * 2 ^ (Int.toNat (fail.length : Int)))), (22, .int .i64 x), (27, .int .i64 (fail.length : Int)), (28, .int .i64 y.1.1)]) (fun y => stL S rg [(9, .arr 3 [eRat y.1.2], y.2.1), (58, .arr 3 (List.map eRat out), y.2.2)]) ((0, r), (g3, g2)) (canon (fc vr (fc vr (fc vr (fc vr (fc vr (fc vr (fc vr (fc vr (fc vr (fn)))))))))) (sc rfl (sc rfl (sn)))) h0 (fun y h => ?_)
      obtain ⟨⟨x1, x2⟩, ⟨g4, g5⟩⟩ := y
      replace h := hI (x1, x2) h
      show Vc _ _ _ _ (envOf [(0, eL eRat fail), (1, eL eRat repair), (7, .sl 3 rg 58 g5 0 out.length), (8, .int .i64 x), (9, .ptr rg 9 g4 0 0), (21, .int .i64 (1 * 2 ^ (Int.toNat (fail.length : Int)))), (22, .int .i64 x), (27, .int .i64 (fail.length : Int)), (28, .int .i64 x1)]) (stL S rg [(9, .arr 3 [eRat x2], g4), (58, .arr 3 (List.map eRat out), g5)])
      refine Vc.seq' ?_
      refine Vc.region' ?_
      refine Wl.cons rg (o_lss rfl rfl ?_)
      refine Wl.nil ?_
      refine Vc.seq' ?_
      refine Vc.cond' rfl (fun hb2 => ?_) (fun hb2 => ?_)
      · replace h := h.1 hb2
        refine Vc.skip' ?_
        refine Vc.seq' ?_
        refine Vc.blk ?_
        refine Vc.seq' ?_
        refine Vc.region' ?_
        refine Wl.cons rg (o_move (v := .int .i64 x1) rfl ?_)
        refine Wl.cons rg (o_assign (v := .int .i64 x1) rfl ?_)
        refine Wl.nil ?_
        refine Vc.seq' ?_
        have hg := h.1
        replace h := h.2
        have hg1 := h.1
        replace h := h.2
        obtain ⟨r1, r2, hc, h⟩ := h
        refine Vc.drawn' mixed rg (usOf [(8, pc (.tuple [eRat r1, .int .i64 r2]))]) (by kernel_rfl) ?_
        refine dP rfl rfl (o_move (v := eL eRat fail) rfl ?_)
        refine dP rfl rfl (o_move (v := .int .i64 x1) rfl ?_)
        refine dP rfl rfl (o_idxL td22 sz27 (by decide) (fun _ => rfl) rfl rfl hg ?_)
        refine dP rfl rfl (o_loadIA sz27 (by decide) ag27 rfl rfl (v := eRat (at' fail x1)) rfl ?_)
        refine dP rfl rfl (o_move (v := eL eRat repair) rfl ?_)
        refine dP rfl rfl (o_move (v := .int .i64 x1) rfl ?_)
        refine dP rfl rfl (o_idxL td22 sz27 (by decide) (fun _ => rfl) rfl rfl hg1 ?_)
        refine dP rfl rfl (o_loadIA sz27 (by decide) ag27 rfl rfl (v := eRat (at' repair x1)) rfl ?_)
        refine dC (vs := [eRat (at' fail x1), eRat (at' repair x1)]) rfl (vl' vr (vl' vr (vn))) (fun _ => ref50_Unavailable_ctr hc (fun _ _ hr => ⟨by rw [hr.1, hr.2], rfl⟩)) rfl ?_
        refine dP rfl rfl (o_move (v := .tuple [eRat r1, .int .i64 r2]) rfl ?_)
        refine dP rfl rfl (o_extract (v := eRat r1) rfl rfl rfl ?_)
        refine dP rfl rfl (o_extract (v := .int .i64 r2) rfl rfl rfl ?_)
        refine dL (E := ([], some (rg, 11))) rfl rfl (by simp) (cfn) (o_alloc zav27 ok27 (kk := 3) rfl (fun g6 => ?_))
        refine dL (E := ([], some (rg, 11))) rfl rfl (by simp) (cfo (by kernel_rfl) (cfn)) (o_storeB (atL (k := 11) rfl) sz27 (by decide) rfl (w := eRat r1) rfl rfl rfl (v := eRat r1) rfl setL ?_)
        refine dP rfl rfl (o_assign (v := .int .i64 r2) rfl ?_)
        refine dN ?_
        obtain ⟨J, h, hJ⟩ := h
        refine Vc.join' (σ := ((GRat) × (Nat × Nat × Nat))) (fun y => J y.1) (fun y => envOf [(0, eL eRat fail), (1, eL eRat repair), (7, .sl 3 rg 58 y.2.2.2 0 out.length), (8, .int .i64 x), (9, .ptr rg 9 y.2.1 0 0), (11, .ptr rg 11 y.2.2.1 0 0), (21, .int .i64 (1 * 2 ^ (Int.toNat (fail.length : Int)))), (22, .int .i64 x), (27, .int .i64 (fail.length : Int)), (28, .int .i64 x1)]) (fun y => stL S rg [(9, .arr 3 [eRat x2], y.2.1), (11, .arr 3 [eRat y.1], y.2.2.1), (58, .arr 3 (List.map eRat out), y.2.2.2)]) (fun y h => ?_) ?_
        · obtain ⟨x3, ⟨g7, g8, g9⟩⟩ := y
          replace h := hJ x3 h
          show Vc _ _ _ _ (envOf [(0, eL eRat fail), (1, eL eRat repair), (7, .sl 3 rg 58 g9 0 out.length), (8, .int .i64 x), (9, .ptr rg 9 g7 0 0), (11, .ptr rg 11 g8 0 0), (21, .int .i64 (1 * 2 ^ (Int.toNat (fail.length : Int)))), (22, .int .i64 x), (27, .int .i64 (fail.length : Int)), (28, .int .i64 x1)]) (stL S rg [(9, .arr 3 [eRat x2], g7), (11, .arr 3 [eRat x3], g8), (58, .arr 3 (List.map eRat out), g9)])
          refine Vc.region' ?_
          refine Wl.cons rg (o_loadBA (atL (k := 9) rfl) sz27 (by decide) ag27 rfl rfl (v := eRat x2) rfl ?_)
          refine Wl.cons rg (o_loadBA (atL (k := 11) rfl) sz27 (by decide) ag27 rfl rfl (v := eRat x3) rfl ?_)
          refine Wl.cons rg (o_call (us := [eRat x2, eRat x3]) rfl (vl' vr (vl' vr (vn))) (ref02_Mul_ctr h fun r3 h => ?_))
          refine Wl.cons rg (o_storeB (atL (k := 9) rfl) sz27 (by decide) rfl (w := eRat r3) rfl rfl rfl (v := eRat r3) rfl setL ?_)
          refine Wl.nil ?_
          refine Vc.region' ?_
          refine Wl.cons rg (o_addG rfl rfl h.1 ?_)
          replace h := h.2
          refine Wl.cons rg (o_move (v := .int .i64 (x1 + 1)) rfl ?_)
          refine Wl.nil ?_
          exact ⟨(((x1 + 1), r3), (g7, g9)), (canon (fc vr (fc vr (fc vr (fc vr (fc vr (fc vr (fc vr (fc vr (fc vr (fn)))))))))) (sc rfl (sc rfl (sn)))), h⟩
        · refine Vc.seq' ?_
          refine Vc.region' ?_
          refine Wl.cons rg (o_move (v := .int .i64 x) rfl ?_)
          refine Wl.cons rg (o_move (v := .int .i64 x1) rfl ?_)
          refine Wl.cons rg (o_shr rfl rfl h.1 ?_)
          replace h := h.2
          refine Wl.cons rg (o_and rfl rfl ?_)
          refine Wl.cons rg (o_eql rfl rfl ?_)
          refine Wl.nil ?_
          refine Vc.cond' rfl (fun hb3 => ?_) (fun hb3 => ?_)
          · replace h := h.1 hb3
            obtain ⟨r4, hc1, h⟩ := h
            obtain ⟨r5, hc2, h⟩ := h
            refine Vc.drawn' mixed rg (usOf [(0, pc (eRat r4)), (2, pc (eRat r5))]) (by kernel_rfl) ?_
            refine dC (vs := [AV.int .i64 1]) rfl (vl' vr (vn)) (fun _ => ref02_Of_ctr hc1 (fun _ hr => ⟨by rw [hr], rfl⟩)) rfl ?_
            refine dL (E := ([(rg, 11)], none)) rfl rfl (by simp) (cfn) (o_loadBA (atL (k := 11) rfl) sz27 (by decide) ag27 rfl rfl (v := eRat r1) rfl ?_)
            refine dC (vs := [eRat r4, eRat r1]) rfl (vl' vr (vl' vr (vn))) (fun _ => ref02_Sub_ctr hc2 (fun _ hr => ⟨by rw [hr], rfl⟩)) rfl ?_
            refine dL (E := ([], some (rg, 11))) rfl rfl (by simp) (cfo (by kernel_rfl) (cfn)) (o_storeB (atL (k := 11) rfl) sz27 (by decide) rfl (w := eRat r5) rfl rfl rfl (v := eRat r5) rfl setL ?_)
            refine dN ?_
            exact ⟨(r5, (g4, g6, g5)), (canon (fc vr (fc vr (fc vr (fc vr (fc vr (fc vr (fc vr (fc vr (fc vr (fc vr (fn))))))))))) (sc rfl (sc rfl (sc rfl (sn))))), h⟩
          · replace h := h.2 hb3
            refine Vc.skip' ?_
            exact ⟨(r1, (g4, g6, g5)), (canon (fc vr (fc vr (fc vr (fc vr (fc vr (fc vr (fc vr (fc vr (fc vr (fc vr (fn))))))))))) (sc rfl (sc rfl (sc rfl (sn))))), h⟩
      · replace h := h.2 hb2
        refine Vc.exit' (exB_self ?_)
        refine Vc.region' ?_
        refine Wl.cons rg (o_move (v := .sl 3 rg 58 g5 0 out.length) rfl ?_)
        refine Wl.cons rg (o_loadBA (atL (k := 9) rfl) sz27 (by decide) ag27 rfl rfl (v := eRat x2) rfl ?_)
        refine Wl.cons rg (o_bslice td22 ok27 zav27 (es := [eRat x2]) rfl (kk := 3) rfl rfl rfl rfl rfl rfl (fun g10 => ?_))
        refine Wl.cons rg (o_appR td22 bts27 ok27 zav27 (es := out) (xs := [x2]) (enc := eRat) (atL (k := 58) rfl) (by first | rfl | simp only [len_set', len_rep']) (view_row (atL (k := 57) rfl) (by simp only [len_set', len_rep', List.length_map, List.length_append, List.length_cons, List.length_nil])) (kk := 3) rfl rfl (fun _ => rfl) (fun _ => rfl) h.1 rfl (fun _ => setL) (fun g11 => ?_))
        replace h := h.2
        refine Wl.cons rg (o_assign (v := .sl 3 rg 58 g11 0 ((out ++ [x2]).length)) rfl ?_)
        refine Wl.nil ?_
        refine Vc.region' ?_
        refine Wl.cons rg (o_addG rfl rfl h.1 ?_)
        replace h := h.2
        refine Wl.cons rg (o_move (v := .int .i64 (x + 1)) rfl ?_)
        refine Wl.nil ?_
        exact ⟨(((x + 1), (out ++ [x2])), g11), (canon (fc vr (fc vr (fc vr (fc vr (fc vr (fn)))))) (sc rfl (sn))), h⟩
    · replace h := h.2 hb1
      refine Vc.exit' (exB_self ?_)
      refine Vc.seq' ?_
      refine Vc.region' ?_
      refine Wl.cons rg (o_move (v := .sl 3 rg 58 g2 0 out.length) rfl ?_)
      refine Wl.cons rg (o_assign (v := .sl 3 rg 58 g2 0 out.length) rfl ?_)
      refine Wl.cons rg (o_assign (v := .int .i64 0) rfl ?_)
      refine Wl.nil ?_
      refine Vc.ret' ?_
      refine res_tmp (v := .sl 3 rg 58 g2 0 out.length) rfl ?_
      refine res_tmp (v := .int .i64 0) rfl ?_
      refine res_nil ?_
      show Gives _ (.tuple [.sl 3 rg 58 g2 0 out.length, .int .i64 0]) _
      refine gives_freeze (k := 58) (xs := List.map eRat out) rfl (v' := .tuple [eL eRat out, .int .i64 0]) (VW.tupL (vl' (frz_full rfl) (vl' vr (vn)))) ?_
      exact gives_out hrg (VW.tupL (vl' vr (vl' vr (vn)))) (hQ _ _ h)
theorem base_Num_ctr {err : Option Int} {Q : Int → Prop} {S : St} {R : AV → St → Prop} (h : base_Num_W err Q) (hQ : ∀ r1, Q r1 → R (AV.int .i64 r1) S) :
    Ctr Try.prog 27 [eErr 107 err] S R := by
  unfold base_Num_W at h
  refine enterT Try.func27 rfl Try.ntmps27 Try.results27 (by kernel_rfl) (fun rg hrg => ?_)
  refine Vc.seq' ?_
  refine Vc.region' ?_
  refine Wl.cons rg (o_assign (v := .int .i64 0) rfl ?_)
  refine Wl.nil ?_
  refine Vc.seq' ?_
  refine Vc.seq' ?_
  refine Vc.region' ?_
  refine Wl.cons rg (o_move (v := eErr 107 err) rfl ?_)
  refine Wl.cons rg (o_isnil td31 (E := 107) rfl rfl rfl ?_)
  refine Wl.nil ?_
  refine Vc.cond' rfl (fun hb => ?_) (fun hb => ?_)
  · replace h := h.1 hb
    refine Vc.seq' ?_
    refine Vc.region' ?_
    refine Wl.cons rg (o_assign (v := .int .i64 0) rfl ?_)
    refine Wl.nil ?_
    refine Vc.ret' ?_
    refine res_tmp (v := .int .i64 0) rfl ?_
    refine res_nil ?_
    show Gives _ (.int .i64 0) _
    exact gives_out hrg (VW.refl _) (hQ _ h)
  · replace h := h.2 hb
    refine Vc.skip' ?_
    refine Vc.seq' ?_
    refine Vc.seq' ?_
    refine Vc.region' ?_
    refine Wl.cons rg (o_move (v := eErr 107 err) rfl ?_)
    refine Wl.cons rg (o_assertE td107 ok107 zav107 rfl ?_)
    refine Wl.cons rg (o_move (v := .tuple [.int .i64 (Option.getD err 0), .bool (Option.isSome err)]) rfl ?_)
    refine Wl.cons rg (o_extract (v := .int .i64 (Option.getD err 0)) rfl rfl rfl ?_)
    refine Wl.cons rg (o_extract (v := .bool (Option.isSome err)) rfl rfl rfl ?_)
    refine Wl.cons rg (o_assign (v := .int .i64 (Option.getD err 0)) rfl ?_)
    refine Wl.cons rg (o_assign (v := .bool (Option.isSome err)) rfl ?_)
    refine Wl.nil ?_
    refine Vc.seq' ?_
    refine Vc.region' ?_
    refine Wl.cons rg (o_move (v := .bool (Option.isSome err)) rfl ?_)
    refine Wl.nil ?_
    refine Vc.cond' rfl (fun hb1 => ?_) (fun hb1 => ?_)
    · replace h := h.1 hb1
      refine Vc.seq' ?_
      refine Vc.region' ?_
      refine Wl.cons rg (o_move (v := .int .i64 (Option.getD err 0)) rfl ?_)
      refine Wl.cons rg (o_assign (v := .int .i64 (Option.getD err 0)) rfl ?_)
      refine Wl.nil ?_
      refine Vc.ret' ?_
      refine res_tmp (v := .int .i64 (Option.getD err 0)) rfl ?_
      refine res_nil ?_
      show Gives _ (.int .i64 (Option.getD err 0)) _
      exact gives_out hrg (VW.refl _) (hQ _ h)
    · replace h := h.2 hb1
      refine Vc.skip' ?_
      refine Vc.seq' ?_
      refine Vc.region' ?_
      refine Wl.cons rg (o_assign (v := .int .i64 (-1)) rfl ?_)
      refine Wl.nil ?_
      refine Vc.ret' ?_
      refine res_tmp (v := .int .i64 (-1)) rfl ?_
      refine res_nil ?_
      show Gives _ (.int .i64 (-1)) _
      exact gives_out hrg (VW.refl _) (hQ _ h)
theorem law50_ProductRates_ctr {x : GRates} {a : GRat} {b : GRat} {Q : Bool → Prop} {S : St} {R : AV → St → Prop} (h : law50_ProductRates_W x a b Q) (hQ : ∀ r1, Q r1 → R (AV.bool r1) S) :
    Ctr Try.prog 3 [eRates x, eRat a, eRat b] S R := by
  unfold law50_ProductRates_W at h
  refine enterT Try.func3 rfl Try.ntmps3 Try.results3 (by kernel_rfl) (fun rg hrg => ?_)
  refine Vc.seq' ?_
  refine Vc.region' ?_
  refine Wl.cons rg (o_box (v := eRates x) rfl rfl (kk := 2) rfl (by decide) (fun g1 => ?_))
  refine Wl.cons rg (o_box (v := eRat a) rfl rfl (kk := 3) rfl (by decide) (fun g2 => ?_))
  refine Wl.cons rg (o_box (v := eRat b) rfl rfl (kk := 3) rfl (by decide) (fun g3 => ?_))
  refine Wl.cons rg (o_assign (v := .bool false) rfl ?_)
  refine Wl.nil ?_
  refine Vc.seq' ?_
  obtain ⟨J, h, hJ⟩ := h
  refine Vc.join' (σ := ((Bool) × (Nat × Nat × Nat))) (fun y => J y.1) (fun y => envOf [(3, .ptr rg 3 y.2.1 0 0), (4, .ptr rg 4 y.2.2.1 0 0), (5, .ptr rg 5 y.2.2.2 0 0), (35, .bool y.1)]) (fun y => stL S rg [(3, .arr 2 [eRates x], y.2.1), (4, .arr 3 [eRat a], y.2.2.1), (5, .arr 3 [eRat b], y.2.2.2)]) (fun y h => ?_) ?_
  · obtain ⟨x1, ⟨g4, g5, g6⟩⟩ := y
    replace h := hJ x1 h
    show Vc _ _ _ _ (envOf [(3, .ptr rg 3 g4 0 0), (4, .ptr rg 4 g5 0 0), (5, .ptr rg 5 g6 0 0), (35, .bool x1)]) (stL S rg [(3, .arr 2 [eRates x], g4), (4, .arr 3 [eRat a], g5), (5, .arr 3 [eRat b], g6)])
    refine Vc.cond' rfl (fun hb => ?_) (fun hb => ?_)
    · replace h := h.1 hb
      refine Vc.seq' ?_
      refine Vc.region' ?_
      refine Wl.cons rg (o_call (us := []) rfl (vn) (law50_awake_ctr h fun r h => ?_))
      refine Wl.cons rg (o_assign (v := .bool r) rfl ?_)
      refine Wl.nil ?_
      refine Vc.ret' ?_
      refine res_tmp (v := .bool r) rfl ?_
      refine res_nil ?_
      show Gives _ (.bool r) _
      exact gives_out hrg (VW.refl _) (hQ _ h)
    · replace h := h.2 hb
      refine Vc.skip' ?_
      refine Vc.seq' ?_
      refine Vc.region' ?_
      refine Wl.cons rg (o_faP td24 rfl rfl (by rw [sz22]; decide) rfl ?_)
      refine Wl.cons rg (o_loadB1 (atL (k := 3) rfl) sz22 ag22 rfl rfl (v := eL eRat x.Fail) rfl ?_)
      refine Wl.cons rg (o_faP td24 rfl rfl (by rw [sz22]; decide) rfl ?_)
      refine Wl.cons rg (o_loadB1 (atL (k := 3) rfl) sz22 ag22 rfl rfl (v := eL eRat x.Repair) rfl ?_)
      refine Wl.cons rg (o_call (us := [eL eRat x.Fail, eL eRat x.Repair]) rfl (vl' vr (vl' vr (vn))) (product_Stationary_ctr h fun r1 r2 h => ?_))
      refine Wl.cons rg (o_move (v := .tuple [eL eRat r1, eErr 107 r2]) rfl ?_)
      refine Wl.cons rg (o_extract (v := eL eRat r1) rfl rfl rfl ?_)
      refine Wl.cons rg (o_extract (v := eErr 107 r2) rfl rfl rfl ?_)
      refine Wl.cons rg (o_assign (v := eL eRat r1) rfl ?_)
      refine Wl.cons rg (o_assign (v := eErr 107 r2) rfl ?_)
      refine Wl.nil ?_
      refine Vc.seq' ?_
      refine Vc.region' ?_
      refine Wl.cons rg (o_faP td24 rfl rfl (by rw [sz22]; decide) rfl ?_)
      refine Wl.cons rg (o_loadB1 (atL (k := 3) rfl) sz22 ag22 rfl rfl (v := eL eRat x.Fail) rfl ?_)
      refine Wl.cons rg (o_faP td24 rfl rfl (by rw [sz22]; decide) rfl ?_)
      refine Wl.cons rg (o_loadB1 (atL (k := 3) rfl) sz22 ag22 rfl rfl (v := eL eRat x.Repair) rfl ?_)
      refine Wl.cons rg (o_call (us := [eL eRat x.Fail, eL eRat x.Repair]) rfl (vl' vr (vl' vr (vn))) (ref50_Stationary_ctr h fun r3 r4 h => ?_))
      refine Wl.cons rg (o_move (v := .tuple [eL eRat r3, .int .i64 r4]) rfl ?_)
      refine Wl.cons rg (o_extract (v := eL eRat r3) rfl rfl rfl ?_)
      refine Wl.cons rg (o_extract (v := .int .i64 r4) rfl rfl rfl ?_)
      refine Wl.cons rg (o_assign (v := eL eRat r3) rfl ?_)
      refine Wl.cons rg (o_assign (v := .int .i64 r4) rfl ?_)
      refine Wl.nil ?_
      refine Vc.seq' ?_
      refine Vc.region' ?_
      refine Wl.cons rg (o_loadBA (atL (k := 4) rfl) sz27 (by decide) ag27 rfl rfl (v := eRat a) rfl ?_)
      refine Wl.cons rg (o_loadBA (atL (k := 5) rfl) sz27 (by decide) ag27 rfl rfl (v := eRat b) rfl ?_)
      refine Wl.cons rg (o_call (us := [eRat a, eRat b]) rfl (vl' vr (vl' vr (vn))) (product_Unavailable_ctr h fun r5 r6 h => ?_))
      refine Wl.cons rg (o_move (v := .tuple [eRat r5, eErr 107 r6]) rfl ?_)
      refine Wl.cons rg (o_extract (v := eRat r5) rfl rfl rfl ?_)
      refine Wl.cons rg (o_extract (v := eErr 107 r6) rfl rfl rfl ?_)
      refine Wl.cons rg (o_alloc zav27 ok27 (kk := 3) rfl (fun g7 => ?_))
      refine Wl.cons rg (o_storeB (atL (k := 11) rfl) sz27 (by decide) rfl (w := eRat r5) rfl rfl rfl (v := eRat r5) rfl setL ?_)
      refine Wl.cons rg (o_assign (v := eErr 107 r6) rfl ?_)
      refine Wl.nil ?_
      refine Vc.seq' ?_
      refine Vc.region' ?_
      refine Wl.cons rg (o_loadBA (atL (k := 4) rfl) sz27 (by decide) ag27 rfl rfl (v := eRat a) rfl ?_)
      refine Wl.cons rg (o_loadBA (atL (k := 5) rfl) sz27 (by decide) ag27 rfl rfl (v := eRat b) rfl ?_)
      refine Wl.cons rg (o_call (us := [eRat a, eRat b]) rfl (vl' vr (vl' vr (vn))) (ref50_Unavailable_ctr h fun r7 r8 h => ?_))
      refine Wl.cons rg (o_move (v := .tuple [eRat r7, .int .i64 r8]) rfl ?_)
      refine Wl.cons rg (o_extract (v := eRat r7) rfl rfl rfl ?_)
      refine Wl.cons rg (o_extract (v := .int .i64 r8) rfl rfl rfl ?_)
      refine Wl.cons rg (o_alloc zav27 ok27 (kk := 3) rfl (fun g8 => ?_))
      refine Wl.cons rg (o_storeB (atL (k := 13) rfl) sz27 (by decide) rfl (w := eRat r7) rfl rfl rfl (v := eRat r7) rfl setL ?_)
      refine Wl.cons rg (o_assign (v := .int .i64 r8) rfl ?_)
      refine Wl.nil ?_
      refine Vc.seq' ?_
      refine Vc.region' ?_
      refine Wl.cons rg (o_move (v := eErr 107 r2) rfl ?_)
      refine Wl.cons rg (o_call (us := [eErr 107 r2]) rfl (vl' vr (vn)) (base_Num_ctr h fun r9 h => ?_))
      refine Wl.cons rg (o_move (v := .int .i64 r4) rfl ?_)
      refine Wl.cons rg (o_eql rfl rfl ?_)
      refine Wl.cons rg (o_move (v := .bool (r9 == r4)) rfl ?_)
      refine Wl.guard rfl rfl (fun hb1 => ?_) (fun hb1 => ?_)
      · replace h := h.1 hb1
        refine Wl.cons rg (o_move (v := eL eRat r1) rfl ?_)
        refine Wl.guardT rfl rfl hb1 ?_
        refine Wl.cons rg (o_move (v := eL eRat r3) rfl ?_)
        refine Wl.guardT rfl rfl hb1 ?_
        refine Wl.cons rg (o_call (us := [eL eRat r1, eL eRat r3]) rfl (vl' vr (vl' vr (vn))) (base_Rats_ctr h fun r10 h => ?_))
        refine Wl.cons rg (o_pickT rfl hb1 (v := .bool r10) rfl ?_)
        refine Wl.cons rg (o_move (v := .bool r10) rfl ?_)
        refine Wl.guard rfl rfl (fun hb2 => ?_) (fun hb2 => ?_)
        · replace h := h.1 hb2
          refine Wl.cons rg (o_move (v := eErr 107 r6) rfl ?_)
          refine Wl.guardT rfl rfl hb2 ?_
          refine Wl.cons rg (o_call (us := [eErr 107 r6]) rfl (vl' vr (vn)) (base_Num_ctr h fun r11 h => ?_))
          refine Wl.guardT rfl rfl hb2 ?_
          refine Wl.cons rg (o_move (v := .int .i64 r8) rfl ?_)
          refine Wl.guardT rfl rfl hb2 ?_
          refine Wl.cons rg (o_eql rfl rfl ?_)
          refine Wl.cons rg (o_pickT rfl hb2 (v := .bool (r11 == r8)) rfl ?_)
          refine Wl.cons rg (o_move (v := .bool (r11 == r8)) rfl ?_)
          refine Wl.guard rfl rfl (fun hb3 => ?_) (fun hb3 => ?_)
          · replace h := h.1 hb3
            refine Wl.cons rg (o_loadBA (atL (k := 11) rfl) sz27 (by decide) ag27 rfl rfl (v := eRat r5) rfl ?_)
            refine Wl.guardT rfl rfl hb3 ?_
            refine Wl.cons rg (o_loadBA (atL (k := 13) rfl) sz27 (by decide) ag27 rfl rfl (v := eRat r7) rfl ?_)
            refine Wl.guardT rfl rfl hb3 ?_
            refine Wl.cons rg (o_call (us := [eRat r5, eRat r7]) rfl (vl' vr (vl' vr (vn))) (base_Rat_ctr h fun r12 h => ?_))
            refine Wl.cons rg (o_pickT rfl hb3 (v := .bool r12) rfl ?_)
            refine Wl.cons rg (o_assign (v := .bool r12) rfl ?_)
            refine Wl.nil ?_
            refine Vc.ret' ?_
            refine res_tmp (v := .bool r12) rfl ?_
            refine res_nil ?_
            show Gives _ (.bool r12) _
            exact gives_out hrg (VW.refl _) (hQ _ h)
          · replace h := h.2 hb3
            refine Wl.guardF rfl rfl hb3 rfl ?_
            refine Wl.guardF rfl rfl hb3 rfl ?_
            refine Wl.cons rg (o_pickF rfl hb3 (v := .bool false) rfl ?_)
            refine Wl.cons rg (o_assign (v := .bool false) rfl ?_)
            refine Wl.nil ?_
            refine Vc.ret' ?_
            refine res_tmp (v := .bool false) rfl ?_
            refine res_nil ?_
            show Gives _ (.bool false) _
            exact gives_out hrg (VW.refl _) (hQ _ h)
        · replace h := h.2 hb2
          refine Wl.guardF rfl rfl hb2 rfl ?_
          refine Wl.guardF rfl rfl hb2 rfl ?_
          refine Wl.guardF rfl rfl hb2 rfl ?_
          refine Wl.cons rg (o_pickF rfl hb2 (v := .bool false) rfl ?_)
          refine Wl.cons rg (o_move (v := .bool false) rfl ?_)
          refine Wl.guardF rfl rfl rfl rfl ?_
          refine Wl.guardF rfl rfl rfl rfl ?_
          refine Wl.guardF rfl rfl rfl rfl ?_
          refine Wl.cons rg (o_pickF rfl rfl (v := .bool false) rfl ?_)
          refine Wl.cons rg (o_assign (v := .bool false) rfl ?_)
          refine Wl.nil ?_
          refine Vc.ret' ?_
          refine res_tmp (v := .bool false) rfl ?_
          refine res_nil ?_
          show Gives _ (.bool false) _
          exact gives_out hrg (VW.refl _) (hQ _ h)
      · replace h := h.2 hb1
        refine Wl.guardF rfl rfl hb1 rfl ?_
        refine Wl.guardF rfl rfl hb1 rfl ?_
        refine Wl.cons rg (o_pickF rfl hb1 (v := .bool false) rfl ?_)
        refine Wl.cons rg (o_move (v := .bool false) rfl ?_)
        refine Wl.guardF rfl rfl rfl rfl ?_
        refine Wl.guardF rfl rfl rfl rfl ?_
        refine Wl.guardF rfl rfl rfl rfl ?_
        refine Wl.guardF rfl rfl rfl rfl ?_
        refine Wl.cons rg (o_pickF rfl rfl (v := .bool false) rfl ?_)
        refine Wl.cons rg (o_move (v := .bool false) rfl ?_)
        refine Wl.guardF rfl rfl rfl rfl ?_
        refine Wl.guardF rfl rfl rfl rfl ?_
        refine Wl.guardF rfl rfl rfl rfl ?_
        refine Wl.cons rg (o_pickF rfl rfl (v := .bool false) rfl ?_)
        refine Wl.cons rg (o_assign (v := .bool false) rfl ?_)
        refine Wl.nil ?_
        refine Vc.ret' ?_
        refine res_tmp (v := .bool false) rfl ?_
        refine res_nil ?_
        show Gives _ (.bool false) _
        exact gives_out hrg (VW.refl _) (hQ _ h)
  · refine Vc.region' ?_
    refine Wl.cons rg (o_call (us := []) rfl (vn) (law50_awake_ctr h fun r13 h => ?_))
    refine Wl.cons rg (o_not rfl ?_)
    refine Wl.cons rg (o_move (v := .bool (!r13)) rfl ?_)
    refine Wl.guard rfl rfl (fun hb4 => ?_) (fun hb4 => ?_)
    · replace h := h.2 hb4
      refine Wl.cons rg (o_faP td24 rfl rfl (by rw [sz22]; decide) rfl ?_)
      refine Wl.guardT rfl rfl hb4 ?_
      refine Wl.cons rg (o_loadB1 (atL (k := 3) rfl) sz22 ag22 rfl rfl (v := eL eRat x.Fail) rfl ?_)
      refine Wl.guardT rfl rfl hb4 ?_
      refine Wl.cons rg (o_call (us := [eL eRat x.Fail, AV.int .i64 20]) rfl (vl' vr (vl' vr (vn))) (law50_short_ctr h fun r14 h => ?_))
      refine Wl.guardT rfl rfl hb4 ?_
      refine Wl.cons rg (o_not rfl ?_)
      refine Wl.cons rg (o_pickF rfl hb4 (v := .bool (!r14)) rfl ?_)
      refine Wl.cons rg (o_move (v := .bool (!r14)) rfl ?_)
      refine Wl.guard rfl rfl (fun hb5 => ?_) (fun hb5 => ?_)
      · replace h := h.2 hb5
        refine Wl.cons rg (o_faP td24 rfl rfl (by rw [sz22]; decide) rfl ?_)
        refine Wl.guardT rfl rfl hb5 ?_
        refine Wl.cons rg (o_loadB1 (atL (k := 3) rfl) sz22 ag22 rfl rfl (v := eL eRat x.Repair) rfl ?_)
        refine Wl.guardT rfl rfl hb5 ?_
        refine Wl.cons rg (o_call (us := [eL eRat x.Repair, AV.int .i64 20]) rfl (vl' vr (vl' vr (vn))) (law50_short_ctr h fun r15 h => ?_))
        refine Wl.guardT rfl rfl hb5 ?_
        refine Wl.cons rg (o_not rfl ?_)
        refine Wl.cons rg (o_pickF rfl hb5 (v := .bool (!r15)) rfl ?_)
        refine Wl.cons rg (o_move (v := .bool (!r15)) rfl ?_)
        refine Wl.guard rfl rfl (fun hb6 => ?_) (fun hb6 => ?_)
        · replace h := h.2 hb6
          refine Wl.cons rg (o_loadBA (atL (k := 4) rfl) sz27 (by decide) ag27 rfl rfl (v := eRat a) rfl ?_)
          refine Wl.guardT rfl rfl hb6 ?_
          refine Wl.cons rg (o_loadBA (atL (k := 5) rfl) sz27 (by decide) ag27 rfl rfl (v := eRat b) rfl ?_)
          refine Wl.guardT rfl rfl hb6 ?_
          refine Wl.cons rg (o_bslice td22 ok27 zav27 (es := [eRat a, eRat b]) rfl (kk := 3) rfl rfl rfl rfl rfl rfl (fun g9 => ?_))
          refine Wl.guardT rfl rfl hb6 ?_
          refine Wl.wk (canon_freeze (k := 32) (xs := List.map eRat [a, b]) rfl (es := [(3, .ptr rg 3 g1 0 0), (4, .ptr rg 4 g2 0 0), (5, .ptr rg 5 g3 0 0), (29, .bool (!r15)), (32, eL eRat [a, b])]) (fc vr (fc vr (fc vr (fc vr (fc (frz_full rfl) (fn)))))) (m := [(3, .arr 2 [eRates x], g1), (4, .arr 3 [eRat a], g2), (5, .arr 3 [eRat b], g3)]) (sc rfl (sc rfl (sc rfl (sn))))) ?_
          refine Wl.cons rg (o_call (us := [eL eRat [a, b], AV.int .i64 2]) rfl (vl' vr (vl' vr (vn))) (law50_short_ctr h fun r16 h => ?_))
          refine Wl.guardT rfl rfl hb6 ?_
          refine Wl.cons rg (o_not rfl ?_)
          refine Wl.cons rg (o_pickF rfl hb6 (v := .bool (!r16)) rfl ?_)
          refine Wl.nil ?_
          exact ⟨((!r16), (g1, g2, g3)), (canon (fc vr (fc vr (fc vr (fc vr (fn))))) (sc rfl (sc rfl (sc rfl (sn))))), h⟩
        · replace h := h.1 hb6
          refine Wl.guardF rfl rfl hb6 rfl ?_
          refine Wl.guardF rfl rfl hb6 rfl ?_
          refine Wl.guardF rfl rfl hb6 rfl ?_
          refine Wl.guardF rfl rfl hb6 rfl ?_
          refine Wl.cons rg (o_pickT rfl hb6 (v := .bool true) rfl ?_)
          refine Wl.nil ?_
          exact ⟨(true, (g1, g2, g3)), (canon (fc vr (fc vr (fc vr (fc vr (fn))))) (sc rfl (sc rfl (sc rfl (sn))))), h⟩
      · replace h := h.1 hb5
        refine Wl.guardF rfl rfl hb5 rfl ?_
        refine Wl.guardF rfl rfl hb5 rfl ?_
        refine Wl.guardF rfl rfl hb5 rfl ?_
        refine Wl.cons rg (o_pickT rfl hb5 (v := .bool true) rfl ?_)
        refine Wl.cons rg (o_move (v := .bool true) rfl ?_)
        refine Wl.guardF rfl rfl rfl rfl ?_
        refine Wl.guardF rfl rfl rfl rfl ?_
        refine Wl.guardF rfl rfl rfl rfl ?_
        refine Wl.guardF rfl rfl rfl rfl ?_
        refine Wl.guardF rfl rfl rfl rfl ?_
        refine Wl.cons rg (o_pickT rfl rfl (v := .bool true) rfl ?_)
        refine Wl.nil ?_
        exact ⟨(true, (g1, g2, g3)), (canon (fc vr (fc vr (fc vr (fc vr (fn))))) (sc rfl (sc rfl (sc rfl (sn))))), h⟩
    · replace h := h.1 hb4
      refine Wl.guardF rfl rfl hb4 rfl ?_
      refine Wl.guardF rfl rfl hb4 rfl ?_
      refine Wl.guardF rfl rfl hb4 rfl ?_
      refine Wl.cons rg (o_pickT rfl hb4 (v := .bool true) rfl ?_)
      refine Wl.cons rg (o_move (v := .bool true) rfl ?_)
      refine Wl.guardF rfl rfl rfl rfl ?_
      refine Wl.guardF rfl rfl rfl rfl ?_
      refine Wl.guardF rfl rfl rfl rfl ?_
      refine Wl.guardF rfl rfl rfl rfl ?_
      refine Wl.cons rg (o_pickT rfl rfl (v := .bool true) rfl ?_)
      refine Wl.cons rg (o_move (v := .bool true) rfl ?_)
      refine Wl.guardF rfl rfl rfl rfl ?_
      refine Wl.guardF rfl rfl rfl rfl ?_
      refine Wl.guardF rfl rfl rfl rfl ?_
      refine Wl.guardF rfl rfl rfl rfl ?_
      refine Wl.guardF rfl rfl rfl rfl ?_
      refine Wl.cons rg (o_pickT rfl rfl (v := .bool true) rfl ?_)
      refine Wl.nil ?_
      exact ⟨(true, (g1, g2, g3)), (canon (fc vr (fc vr (fc vr (fc vr (fn))))) (sc rfl (sc rfl (sc rfl (sn))))), h⟩
theorem rational_Prob_ctr {a : GRat} {Q : Bool → Prop} {S : St} {R : AV → St → Prop} (h : rational_Prob_W a Q) (hQ : ∀ r1, Q r1 → R (AV.bool r1) S) :
    Ctr Try.prog 35 [eRat a] S R := by
  unfold rational_Prob_W at h
  refine enterT Try.func35 rfl Try.ntmps35 Try.results35 (by kernel_rfl) (fun rg hrg => ?_)
  refine Vc.seq' ?_
  refine Vc.region' ?_
  refine Wl.cons rg (o_box (v := eRat a) rfl rfl (kk := 3) rfl (by decide) (fun g1 => ?_))
  refine Wl.cons rg (o_assign (v := .bool false) rfl ?_)
  refine Wl.nil ?_
  refine Vc.seq' ?_
  refine Vc.region' ?_
  refine Wl.cons rg (o_loadBA (atL (k := 1) rfl) sz27 (by decide) ag27 rfl rfl (v := eRat a) rfl ?_)
  refine Wl.cons rg (o_call (us := [eRat a]) rfl (vl' vr (vn)) (rational_Valid_ctr h fun r h => ?_))
  refine Wl.cons rg (o_move (v := .bool r) rfl ?_)
  refine Wl.guard rfl rfl (fun hb => ?_) (fun hb => ?_)
  · replace h := h.1 hb
    refine Wl.cons rg (o_faP td27 rfl rfl (by rw [sz4]; decide) rfl ?_)
    refine Wl.guardT rfl rfl hb ?_
    refine Wl.cons rg (o_loadB1 (atL (k := 1) rfl) sz4 ag4 rfl rfl (v := .bool a.Neg) rfl ?_)
    refine Wl.guardT rfl rfl hb ?_
    refine Wl.cons rg (o_not rfl ?_)
    refine Wl.cons rg (o_pickT rfl hb (v := .bool (!a.Neg)) rfl ?_)
    refine Wl.cons rg (o_move (v := .bool (!a.Neg)) rfl ?_)
    refine Wl.guard rfl rfl (fun hb1 => ?_) (fun hb1 => ?_)
    · replace h := h.1 hb1
      refine Wl.cons rg (o_faP td27 rfl rfl (by rw [sz25]; decide) rfl ?_)
      refine Wl.guardT rfl rfl hb1 ?_
      refine Wl.cons rg (o_loadB1 (atL (k := 1) rfl) sz25 ag25 rfl rfl (v := eL (AV.int .u32) a.Num) rfl ?_)
      refine Wl.guardT rfl rfl hb1 ?_
      refine Wl.cons rg (o_faP td27 rfl rfl (by rw [sz25]; decide) rfl ?_)
      refine Wl.guardT rfl rfl hb1 ?_
      refine Wl.cons rg (o_loadB1 (atL (k := 1) rfl) sz25 ag25 rfl rfl (v := eL (AV.int .u32) a.Den) rfl ?_)
      refine Wl.guardT rfl rfl hb1 ?_
      refine Wl.cons rg (o_call (us := [eL (AV.int .u32) a.Num, eL (AV.int .u32) a.Den]) rfl (vl' vr (vl' vr (vn))) (natural_Cmp_ctr h fun r1 h => ?_))
      refine Wl.guardT rfl rfl hb1 ?_
      refine Wl.cons rg (o_leq rfl rfl ?_)
      refine Wl.cons rg (o_pickT rfl hb1 (v := .bool (decide (r1 ≤ 0))) rfl ?_)
      refine Wl.cons rg (o_assign (v := .bool (decide (r1 ≤ 0))) rfl ?_)
      refine Wl.nil ?_
      refine Vc.ret' ?_
      refine res_tmp (v := .bool (decide (r1 ≤ 0))) rfl ?_
      refine res_nil ?_
      show Gives _ (.bool (decide (r1 ≤ 0))) _
      exact gives_out hrg (VW.refl _) (hQ _ h)
    · replace h := h.2 hb1
      refine Wl.guardF rfl rfl hb1 rfl ?_
      refine Wl.guardF rfl rfl hb1 rfl ?_
      refine Wl.guardF rfl rfl hb1 rfl ?_
      refine Wl.guardF rfl rfl hb1 rfl ?_
      refine Wl.guardF rfl rfl hb1 rfl ?_
      refine Wl.cons rg (o_pickF rfl hb1 (v := .bool false) rfl ?_)
      refine Wl.cons rg (o_assign (v := .bool false) rfl ?_)
      refine Wl.nil ?_
      refine Vc.ret' ?_
      refine res_tmp (v := .bool false) rfl ?_
      refine res_nil ?_
      show Gives _ (.bool false) _
      exact gives_out hrg (VW.refl _) (hQ _ h)
  · replace h := h.2 hb
    refine Wl.guardF rfl rfl hb rfl ?_
    refine Wl.guardF rfl rfl hb rfl ?_
    refine Wl.cons rg (o_pickF rfl hb (v := .bool false) rfl ?_)
    refine Wl.cons rg (o_move (v := .bool false) rfl ?_)
    refine Wl.guardF rfl rfl rfl rfl ?_
    refine Wl.guardF rfl rfl rfl rfl ?_
    refine Wl.guardF rfl rfl rfl rfl ?_
    refine Wl.guardF rfl rfl rfl rfl ?_
    refine Wl.guardF rfl rfl rfl rfl ?_
    refine Wl.guardF rfl rfl rfl rfl ?_
    refine Wl.cons rg (o_pickF rfl rfl (v := .bool false) rfl ?_)
    refine Wl.cons rg (o_assign (v := .bool false) rfl ?_)
    refine Wl.nil ?_
    refine Vc.ret' ?_
    refine res_tmp (v := .bool false) rfl ?_
    refine res_nil ?_
    show Gives _ (.bool false) _
    exact gives_out hrg (VW.refl _) (hQ _ h)
theorem common_probs_1_ctr {x : GRat} {Q : Bool → Prop} {S : St} {R : AV → St → Prop} (h : common_probs_1_W x Q) (hQ : ∀ r1, Q r1 → R (AV.bool r1) S) :
    Ctr Try.prog 148 [eRat x] S R := by
  unfold common_probs_1_W at h
  refine enterT Try.func148 rfl Try.ntmps148 Try.results148 (by kernel_rfl) (fun rg hrg => ?_)
  refine Vc.seq' ?_
  refine Vc.region' ?_
  refine Wl.cons rg (o_box (v := eRat x) rfl rfl (kk := 3) rfl (by decide) (fun g1 => ?_))
  refine Wl.cons rg (o_assign (v := .bool false) rfl ?_)
  refine Wl.nil ?_
  refine Vc.seq' ?_
  refine Vc.region' ?_
  refine Wl.cons rg (o_loadBA (atL (k := 1) rfl) sz27 (by decide) ag27 rfl rfl (v := eRat x) rfl ?_)
  refine Wl.cons rg (o_call (us := [eRat x]) rfl (vl' vr (vn)) (rational_Prob_ctr h fun r h => ?_))
  refine Wl.cons rg (o_not rfl ?_)
  refine Wl.cons rg (o_assign (v := .bool (!r)) rfl ?_)
  refine Wl.nil ?_
  refine Vc.ret' ?_
  refine res_tmp (v := .bool (!r)) rfl ?_
  refine res_nil ?_
  show Gives _ (.bool (!r)) _
  exact gives_out hrg (VW.refl _) (hQ _ h)
theorem common_probs_ctr {x0 : List GRat} {Q : Bool → Prop} {S : St} {R : AV → St → Prop} (h : common_probs_W x0 Q) (hQ : ∀ r1, Q r1 → R (AV.bool r1) S) :
    Ctr Try.prog 96 [eL eRat x0] S R := h.elim
theorem common_choose_ctr {n : Int} {k1 : Int} {Q : Int → Prop} {S : St} {R : AV → St → Prop} (h : common_choose_W n k1 Q) (hQ : ∀ r1, Q r1 → R (AV.int .i64 r1) S) :
    Ctr Try.prog 97 [AV.int .i64 n, AV.int .i64 k1] S R := by
  unfold common_choose_W at h
  refine enterT Try.func97 rfl Try.ntmps97 Try.results97 (by kernel_rfl) (fun rg hrg => ?_)
  refine Vc.seq' ?_
  refine Vc.region' ?_
  refine Wl.cons rg (o_assign (v := .int .i64 0) rfl ?_)
  refine Wl.nil ?_
  refine Vc.seq' ?_
  refine Vc.region' ?_
  refine Wl.cons rg (o_assign (v := .int .i64 1) rfl ?_)
  refine Wl.nil ?_
  refine Vc.seq' ?_
  refine Vc.seq' ?_
  refine Vc.region' ?_
  refine Wl.cons rg (o_move (v := .int .i64 k1) rfl ?_)
  refine Wl.cons rg (o_move (v := .int .i64 0) rfl ?_)
  refine Wl.nil ?_
  refine Vc.blk ?_
  obtain ⟨I, μ, h0, hI⟩ := h
  refine Vc.loop' (σ := (Int × Int)) (fun y => I y) (fun y => μ y) (fun y => envOf [(0, .int .i64 n), (5, .int .i64 y.1), (7, .int .i64 k1), (8, .int .i64 y.2)]) (fun y => stL S rg []) (1, 0) (canon (fc vr (fc vr (fc vr (fc vr (fn))))) (sn)) h0 (fun y h => ?_)
  obtain ⟨out, x⟩ := y
  replace h := hI (out, x) h
  show Vc _ _ _ _ (envOf [(0, .int .i64 n), (5, .int .i64 out), (7, .int .i64 k1), (8, .int .i64 x)]) (stL S rg [])
  refine Vc.seq' ?_
  refine Vc.region' ?_
  refine Wl.cons rg (o_lss rfl rfl ?_)
  refine Wl.nil ?_
  refine Vc.seq' ?_
  refine Vc.cond' rfl (fun hb => ?_) (fun hb => ?_)
  · replace h := h.1 hb
    refine Vc.skip' ?_
    refine Vc.seq' ?_
    refine Vc.blk ?_
    refine Vc.seq' ?_
    refine Vc.region' ?_
    refine Wl.cons rg (o_move (v := .int .i64 x) rfl ?_)
    refine Wl.cons rg (o_assign (v := .int .i64 x) rfl ?_)
    refine Wl.nil ?_
    refine Vc.region' ?_
    refine Wl.cons rg (o_move (v := .int .i64 out) rfl ?_)
    refine Wl.cons rg (o_move (v := .int .i64 n) rfl ?_)
    refine Wl.cons rg (o_move (v := .int .i64 x) rfl ?_)
    refine Wl.cons rg (o_subG rfl rfl h.1 ?_)
    replace h := h.2
    refine Wl.cons rg (o_mulG rfl rfl h.1 ?_)
    replace h := h.2
    refine Wl.cons rg (o_move (v := .int .i64 x) rfl ?_)
    refine Wl.cons rg (o_addG rfl rfl h.1 ?_)
    replace h := h.2
    refine Wl.cons rg (o_quoG rfl rfl h.1 ?_)
    replace h := h.2
    refine Wl.cons rg (o_assign (v := .int .i64 (Int.tdiv (out * (n - x)) (x + 1))) rfl ?_)
    refine Wl.nil ?_
    refine Vc.region' ?_
    refine Wl.cons rg (o_addG rfl rfl h.1 ?_)
    replace h := h.2
    refine Wl.cons rg (o_move (v := .int .i64 (x + 1)) rfl ?_)
    refine Wl.nil ?_
    exact ⟨((Int.tdiv (out * (n - x)) (x + 1)), (x + 1)), (canon (fc vr (fc vr (fc vr (fc vr (fn))))) (sn)), h⟩
  · replace h := h.2 hb
    refine Vc.exit' (exB_self ?_)
    refine Vc.seq' ?_
    refine Vc.region' ?_
    refine Wl.cons rg (o_move (v := .int .i64 out) rfl ?_)
    refine Wl.cons rg (o_assign (v := .int .i64 out) rfl ?_)
    refine Wl.nil ?_
    refine Vc.ret' ?_
    refine res_tmp (v := .int .i64 out) rfl ?_
    refine res_nil ?_
    show Gives _ (.int .i64 out) _
    exact gives_out hrg (VW.refl _) (hQ _ h)
theorem common_Greek_ctr {p : GRat} {factors : List GRat} {Q : List GRat → Option Int → Prop} {S : St} {R : AV → St → Prop} (h : common_Greek_W p factors Q) (hQ : ∀ r1 r2, Q r1 r2 → R (.tuple [eL eRat r1, eErr 107 r2]) S) :
    Ctr Try.prog 32 [eRat p, eL eRat factors] S R := by
  unfold common_Greek_W at h
  refine enterT Try.func32 rfl Try.ntmps32 Try.results32 (by kernel_rfl) (fun rg hrg => ?_)
  refine Vc.seq' ?_
  refine Vc.region' ?_
  refine Wl.cons rg (o_box (v := eRat p) rfl rfl (kk := 3) rfl (by decide) (fun g1 => ?_))
  refine Wl.cons rg (o_assign (v := .nil) rfl ?_)
  refine Wl.cons rg (o_assign (v := .niface) rfl ?_)
  refine Wl.nil ?_
  refine Vc.seq' ?_
  obtain ⟨J, h, hJ⟩ := h
  refine Vc.join' (σ := ((Bool) × (Nat))) (fun y => J y.1) (fun y => envOf [(1, eL eRat factors), (2, .ptr rg 2 y.2 0 0), (21, .bool y.1)]) (fun y => stL S rg [(2, .arr 3 [eRat p], y.2)]) (fun y h => ?_) ?_
  · obtain ⟨x, g2⟩ := y
    replace h := hJ x h
    show Vc _ _ _ _ (envOf [(1, eL eRat factors), (2, .ptr rg 2 g2 0 0), (21, .bool x)]) (stL S rg [(2, .arr 3 [eRat p], g2)])
    refine Vc.cond' rfl (fun hb => ?_) (fun hb => ?_)
    · replace h := h.1 hb
      refine Vc.seq' ?_
      refine Vc.region' ?_
      refine Wl.cons rg (o_iface (by rw [td107]; trivial) (v := .int .i64 3) rfl ?_)
      refine Wl.cons rg (o_assign (v := .nil) rfl ?_)
      refine Wl.cons rg (o_assign (v := .iface 107 (.int .i64 3)) rfl ?_)
      refine Wl.nil ?_
      refine Vc.ret' ?_
      refine res_tmp (v := .nil) rfl ?_
      refine res_tmp (v := .iface 107 (.int .i64 3)) rfl ?_
      refine res_nil ?_
      show Gives _ (.tuple [.nil, .iface 107 (.int .i64 3)]) _
      exact gives_out hrg (VW.tupL (vl' (VW.nilL) (vl' vr (vn)))) (hQ _ _ h)
    · replace h := h.2 hb
      refine Vc.skip' ?_
      refine Vc.seq' ?_
      obtain ⟨J, h, hJ⟩ := h
      refine Vc.join' (σ := ((Bool) × (Nat))) (fun y => J y.1) (fun y => envOf [(1, eL eRat factors), (2, .ptr rg 2 y.2 0 0), (30, .bool y.1)]) (fun y => stL S rg [(2, .arr 3 [eRat p], y.2)]) (fun y h => ?_) ?_
      · obtain ⟨x1, g3⟩ := y
        replace h := hJ x1 h
        show Vc _ _ _ _ (envOf [(1, eL eRat factors), (2, .ptr rg 2 g3 0 0), (30, .bool x1)]) (stL S rg [(2, .arr 3 [eRat p], g3)])
        refine Vc.cond' rfl (fun hb1 => ?_) (fun hb1 => ?_)
        · replace h := h.1 hb1
          refine Vc.seq' ?_
          refine Vc.region' ?_
          refine Wl.cons rg (o_iface (by rw [td107]; trivial) (v := .int .i64 11) rfl ?_)
          refine Wl.cons rg (o_assign (v := .nil) rfl ?_)
          refine Wl.cons rg (o_assign (v := .iface 107 (.int .i64 11)) rfl ?_)
          refine Wl.nil ?_
          refine Vc.ret' ?_
          refine res_tmp (v := .nil) rfl ?_
          refine res_tmp (v := .iface 107 (.int .i64 11)) rfl ?_
          refine res_nil ?_
          show Gives _ (.tuple [.nil, .iface 107 (.int .i64 11)]) _
          exact gives_out hrg (VW.tupL (vl' (VW.nilL) (vl' vr (vn)))) (hQ _ _ h)
        · replace h := h.2 hb1
          refine Vc.skip' ?_
          refine Vc.seq' ?_
          refine Vc.region' ?_
          refine Wl.cons rg (o_move (v := eL eRat factors) rfl ?_)
          refine Wl.cons rg (o_len td22 rfl ?_)
          refine Wl.cons rg (o_addG rfl rfl h.1 ?_)
          replace h := h.2
          refine Wl.cons rg (o_assign (v := .int .i64 ((factors.length : Int) + 1)) rfl ?_)
          refine Wl.nil ?_
          refine Vc.seq' ?_
          refine Vc.region' ?_
          refine Wl.cons rg (o_assign (v := .nil) rfl ?_)
          refine Wl.nil ?_
          refine Vc.seq' ?_
          refine Vc.region' ?_
          refine Wl.cons rg (o_loadBA (atL (k := 2) rfl) sz27 (by decide) ag27 rfl rfl (v := eRat p) rfl ?_)
          refine Wl.cons rg (o_alloc zav27 ok27 (kk := 3) rfl (fun g4 => ?_))
          refine Wl.cons rg (o_storeB (atL (k := 8) rfl) sz27 (by decide) rfl (w := eRat p) rfl rfl rfl (v := eRat p) rfl setL ?_)
          refine Wl.nil ?_
          refine Vc.seq' ?_
          refine Vc.seq' ?_
          refine Vc.region' ?_
          refine Wl.cons rg (o_assign (v := .int .i64 1) rfl ?_)
          refine Wl.nil ?_
          refine Vc.blk ?_
          refine Vc.mat 7 78 3 rfl (by decide) (fun g5 => ?_)
          obtain ⟨I, μ, h0, hI⟩ := h
          refine Vc.loop' (σ := ((Int × GRat × (List GRat)) × (Nat × Nat))) (fun y => I y.1) (fun y => μ y.1) (fun y => envOf [(1, eL eRat factors), (6, .int .i64 ((factors.length : Int) + 1)), (7, .sl 3 rg 78 y.2.2 0 y.1.2.2.length), (8, .ptr rg 8 y.2.1 0 0), (9, .int .i64 y.1.1)]) (fun y => stL S rg [(8, .arr 3 [eRat y.1.2.1], y.2.1), (78, .arr 3 (List.map eRat y.1.2.2), y.2.2)]) ((1, p, []), (g4, g5)) (canon (fc vr (fc vr (fc (VW.slen (by first | rfl | simp only [len_set', len_rep'])) (fc vr (fc vr (fn)))))) (sc rfl (sc rfl (sn)))) h0 (fun y h => ?_)
          obtain ⟨⟨k1, x2, out⟩, ⟨g6, g7⟩⟩ := y
          replace h := hI (k1, x2, out) h
          show Vc _ _ _ _ (envOf [(1, eL eRat factors), (6, .int .i64 ((factors.length : Int) + 1)), (7, .sl 3 rg 78 g7 0 out.length), (8, .ptr rg 8 g6 0 0), (9, .int .i64 k1)]) (stL S rg [(8, .arr 3 [eRat x2], g6), (78, .arr 3 (List.map eRat out), g7)])
          refine Vc.seq' ?_
          refine Vc.seq' ?_
          refine Vc.region' ?_
          refine Wl.cons rg (o_move (v := .int .i64 k1) rfl ?_)
          refine Wl.cons rg (o_move (v := .int .i64 ((factors.length : Int) + 1)) rfl ?_)
          refine Wl.cons rg (o_leq rfl rfl ?_)
          refine Wl.nil ?_
          refine Vc.cond' rfl (fun hb2 => ?_) (fun hb2 => ?_)
          · replace h := h.1 hb2
            refine Vc.skip' ?_
            refine Vc.seq' ?_
            refine Vc.blk ?_
            refine Vc.seq' ?_
            refine Vc.region' ?_
            refine Wl.cons rg (o_loadBA (atL (k := 8) rfl) sz27 (by decide) ag27 rfl rfl (v := eRat x2) rfl ?_)
            refine Wl.cons rg (o_alloc zav27 ok27 (kk := 3) rfl (fun g8 => ?_))
            refine Wl.cons rg (o_storeB (atL (k := 10) rfl) sz27 (by decide) rfl (w := eRat x2) rfl rfl rfl (v := eRat x2) rfl setL ?_)
            refine Wl.nil ?_
            obtain ⟨J, h, hJ⟩ := h
            refine Vc.join' (σ := ((GRat × GRat) × (Nat × Nat × Nat))) (fun y => J y.1) (fun y => envOf [(1, eL eRat factors), (6, .int .i64 ((factors.length : Int) + 1)), (7, .sl 3 rg 78 y.2.2.2 0 out.length), (8, .ptr rg 8 y.2.1 0 0), (9, .int .i64 k1), (10, .ptr rg 10 y.2.2.1 0 0)]) (fun y => stL S rg [(8, .arr 3 [eRat y.1.1], y.2.1), (10, .arr 3 [eRat y.1.2], y.2.2.1), (78, .arr 3 (List.map eRat out), y.2.2.2)]) (fun y h => ?_) ?_
            · obtain ⟨⟨x3, x4⟩, ⟨g9, g10, g11⟩⟩ := y
              replace h := hJ (x3, x4) h
              show Vc _ _ _ _ (envOf [(1, eL eRat factors), (6, .int .i64 ((factors.length : Int) + 1)), (7, .sl 3 rg 78 g11 0 out.length), (8, .ptr rg 8 g9 0 0), (9, .int .i64 k1), (10, .ptr rg 10 g10 0 0)]) (stL S rg [(8, .arr 3 [eRat x3], g9), (10, .arr 3 [eRat x4], g10), (78, .arr 3 (List.map eRat out), g11)])
              refine Vc.seq' ?_
              have hg := h.1
              replace h := h.2
              have hg1 := h.1
              replace h := h.2
              obtain ⟨r, hc, h⟩ := h
              obtain ⟨r1, hc1, h⟩ := h
              obtain ⟨r2, r3, hc2, h⟩ := h
              refine Vc.drawn' mixed rg (usOf [(5, pc (.int .i64 r)), (6, pc (eRat r1)), (7, pc (.tuple [eRat r2, eErr 107 r3]))]) (by kernel_rfl) ?_
              refine dL (E := ([(rg, 10)], none)) rfl rfl (by simp) (cfn) (o_loadBA (atL (k := 10) rfl) sz27 (by decide) ag27 rfl rfl (v := eRat x4) rfl ?_)
              refine dP rfl rfl (o_move (v := .int .i64 ((factors.length : Int) + 1)) rfl ?_)
              refine dP rfl rfl (o_subG rfl rfl hg ?_)
              refine dP rfl rfl (o_move (v := .int .i64 k1) rfl ?_)
              refine dP rfl rfl (o_subG rfl rfl hg1 ?_)
              refine dC (vs := [AV.int .i64 (((factors.length : Int) + 1) - 1), AV.int .i64 (k1 - 1)]) rfl (vl' vr (vl' vr (vn))) (fun _ => common_choose_ctr hc (fun _ hr => ⟨by rw [hr], rfl⟩)) rfl ?_
              refine dC (vs := [AV.int .i64 r]) rfl (vl' vr (vn)) (fun _ => rational_Of_ctr hc1 (fun _ hr => ⟨by rw [hr], rfl⟩)) rfl ?_
              refine dC (vs := [eRat x4, eRat r1]) rfl (vl' vr (vl' vr (vn))) (fun _ => rational_Div_ctr hc2 (fun _ _ hr => ⟨by rw [hr.1, hr.2], rfl⟩)) rfl ?_
              refine dP rfl rfl (o_move (v := .tuple [eRat r2, eErr 107 r3]) rfl ?_)
              refine dP rfl rfl (o_extract (v := eRat r2) rfl rfl rfl ?_)
              refine dP rfl rfl (o_extract (v := eErr 107 r3) rfl rfl rfl ?_)
              refine dL (E := ([], some (rg, 11))) rfl rfl (by simp) (cfa (by simp [apartE]) (cfn)) (o_alloc zav27 ok27 (kk := 3) rfl (fun g12 => ?_))
              refine dL (E := ([], some (rg, 11))) rfl rfl (by simp) (cfo (by kernel_rfl) (cfo (by kernel_rfl) (cfn))) (o_storeB (atL (k := 11) rfl) sz27 (by decide) rfl (w := eRat r2) rfl rfl rfl (v := eRat r2) rfl setL ?_)
              refine dP rfl rfl (o_assign (v := eErr 107 r3) rfl ?_)
              refine dN ?_
              refine Vc.seq' ?_
              refine Vc.seq' ?_
              refine Vc.region' ?_
              refine Wl.cons rg (o_move (v := eErr 107 r3) rfl ?_)
              refine Wl.cons rg (o_isnon td31 (E := 107) rfl rfl rfl ?_)
              refine Wl.nil ?_
              refine Vc.cond' rfl (fun hb3 => ?_) (fun hb3 => ?_)
              · replace h := h.1 hb3
                refine Vc.seq' ?_
                refine Vc.region' ?_
                refine Wl.cons rg (o_move (v := eErr 107 r3) rfl ?_)
                refine Wl.cons rg (o_assign (v := .nil) rfl ?_)
                refine Wl.cons rg (o_assign (v := eErr 107 r3) rfl ?_)
                refine Wl.nil ?_
                refine Vc.ret' ?_
                refine res_tmp (v := .nil) rfl ?_
                refine res_tmp (v := eErr 107 r3) rfl ?_
                refine res_nil ?_
                show Gives _ (.tuple [.nil, eErr 107 r3]) _
                exact gives_out hrg (VW.tupL (vl' (VW.nilL) (vl' vr (vn)))) (hQ _ _ h)
              · replace h := h.2 hb3
                refine Vc.skip' ?_
                refine Vc.region' ?_
                refine Wl.cons rg (o_move (v := .sl 3 rg 78 g11 0 out.length) rfl ?_)
                refine Wl.cons rg (o_loadBA (atL (k := 11) rfl) sz27 (by decide) ag27 rfl rfl (v := eRat r2) rfl ?_)
                refine Wl.cons rg (o_bslice td22 ok27 zav27 (es := [eRat r2]) rfl (kk := 3) rfl rfl rfl rfl rfl rfl (fun g13 => ?_))
                refine Wl.cons rg (o_appR td22 bts27 ok27 zav27 (es := out) (xs := [r2]) (enc := eRat) (atL (k := 78) rfl) (by first | rfl | simp only [len_set', len_rep']) (view_row (atL (k := 77) rfl) (by simp only [len_set', len_rep', List.length_map, List.length_append, List.length_cons, List.length_nil])) (kk := 3) rfl rfl (fun _ => rfl) (fun _ => rfl) h.1 rfl (fun _ => setL) (fun g14 => ?_))
                replace h := h.2
                refine Wl.cons rg (o_assign (v := .sl 3 rg 78 g14 0 ((out ++ [r2]).length)) rfl ?_)
                refine Wl.nil ?_
                refine Vc.region' ?_
                refine Wl.cons rg (o_move (v := .int .i64 k1) rfl ?_)
                refine Wl.cons rg (o_addG rfl rfl h.1 ?_)
                replace h := h.2
                refine Wl.cons rg (o_assign (v := .int .i64 (k1 + 1)) rfl ?_)
                refine Wl.nil ?_
                exact ⟨(((k1 + 1), x3, (out ++ [r2])), (g9, g14)), (canon (fc vr (fc vr (fc vr (fc vr (fc vr (fn)))))) (sc rfl (sc rfl (sn)))), h⟩
            · refine Vc.seq' ?_
              refine Vc.region' ?_
              refine Wl.cons rg (o_move (v := .int .i64 k1) rfl ?_)
              refine Wl.cons rg (o_move (v := .int .i64 ((factors.length : Int) + 1)) rfl ?_)
              refine Wl.cons rg (o_lss rfl rfl ?_)
              refine Wl.nil ?_
              refine Vc.cond' rfl (fun hb4 => ?_) (fun hb4 => ?_)
              · replace h := h.1 hb4
                refine Vc.seq' ?_
                obtain ⟨r4, hc3, h⟩ := h
                have hg2 := h.1
                replace h := h.2
                have hg3 := h.1
                replace h := h.2
                obtain ⟨r5, hc4, h⟩ := h
                obtain ⟨r6, hc5, h⟩ := h
                refine Vc.drawn' mixed rg (usOf [(1, pc (eRat r4)), (7, pc (eRat r5)), (8, pc (eRat r6))]) (by kernel_rfl) ?_
                refine dL (E := ([(rg, 8)], none)) rfl rfl (by simp) (cfn) (o_loadBA (atL (k := 8) rfl) sz27 (by decide) ag27 rfl rfl (v := eRat x2) rfl ?_)
                refine dC (vs := [AV.int .i64 1]) rfl (vl' vr (vn)) (fun _ => rational_Of_ctr hc3 (fun _ hr => ⟨by rw [hr], rfl⟩)) rfl ?_
                refine dP rfl rfl (o_move (v := eL eRat factors) rfl ?_)
                refine dP rfl rfl (o_move (v := .int .i64 k1) rfl ?_)
                refine dP rfl rfl (o_subG rfl rfl hg2 ?_)
                refine dP rfl rfl (o_idxL td22 sz27 (by decide) (fun _ => rfl) rfl rfl hg3 ?_)
                refine dP rfl rfl (o_loadIA sz27 (by decide) ag27 rfl rfl (v := eRat (at' factors (k1 - 1))) rfl ?_)
                refine dC (vs := [eRat r4, eRat (at' factors (k1 - 1))]) rfl (vl' vr (vl' vr (vn))) (fun _ => rational_Sub_ctr hc4 (fun _ hr => ⟨by rw [hr], rfl⟩)) rfl ?_
                refine dC (vs := [eRat x2, eRat r5]) rfl (vl' vr (vl' vr (vn))) (fun _ => rational_Mul_ctr hc5 (fun _ hr => ⟨by rw [hr], rfl⟩)) rfl ?_
                refine dL (E := ([], some (rg, 10))) rfl rfl (by simp) (cfo (by kernel_rfl) (cfn)) (o_storeB (atL (k := 10) rfl) sz27 (by decide) rfl (w := eRat r6) rfl rfl rfl (v := eRat r6) rfl setL ?_)
                refine dN ?_
                have hg4 := h.1
                replace h := h.2
                have hg5 := h.1
                replace h := h.2
                obtain ⟨r7, hc6, h⟩ := h
                refine Vc.drawn' mixed rg (usOf [(6, pc (eRat r7))]) (by kernel_rfl) ?_
                refine dL (E := ([(rg, 8)], none)) rfl rfl (by simp) (cfn) (o_loadBA (atL (k := 8) rfl) sz27 (by decide) ag27 rfl rfl (v := eRat x2) rfl ?_)
                refine dP rfl rfl (o_move (v := eL eRat factors) rfl ?_)
                refine dP rfl rfl (o_move (v := .int .i64 k1) rfl ?_)
                refine dP rfl rfl (o_subG rfl rfl hg4 ?_)
                refine dP rfl rfl (o_idxL td22 sz27 (by decide) (fun _ => rfl) rfl rfl hg5 ?_)
                refine dP rfl rfl (o_loadIA sz27 (by decide) ag27 rfl rfl (v := eRat (at' factors (k1 - 1))) rfl ?_)
                refine dC (vs := [eRat x2, eRat (at' factors (k1 - 1))]) rfl (vl' vr (vl' vr (vn))) (fun _ => rational_Mul_ctr hc6 (fun _ hr => ⟨by rw [hr], rfl⟩)) rfl ?_
                refine dL (E := ([], some (rg, 8))) rfl rfl (by simp) (cfo (by kernel_rfl) (cfn)) (o_storeB (atL (k := 8) rfl) sz27 (by decide) rfl (w := eRat r7) rfl rfl rfl (v := eRat r7) rfl setL ?_)
                refine dN ?_
                exact ⟨((r7, r6), (g6, g8, g7)), (canon (fc vr (fc vr (fc vr (fc vr (fc vr (fc vr (fn))))))) (sc rfl (sc rfl (sc rfl (sn))))), h⟩
              · replace h := h.2 hb4
                refine Vc.skip' ?_
                exact ⟨((x2, x2), (g6, g8, g7)), (canon (fc vr (fc vr (fc vr (fc vr (fc vr (fc vr (fn))))))) (sc rfl (sc rfl (sc rfl (sn))))), h⟩
          · replace h := h.2 hb2
            refine Vc.exit' (exB_self ?_)
            refine Vc.seq' ?_
            refine Vc.region' ?_
            refine Wl.cons rg (o_move (v := .sl 3 rg 78 g7 0 out.length) rfl ?_)
            refine Wl.cons rg (o_assign (v := .sl 3 rg 78 g7 0 out.length) rfl ?_)
            refine Wl.cons rg (o_assign (v := .niface) rfl ?_)
            refine Wl.nil ?_
            refine Vc.ret' ?_
            refine res_tmp (v := .sl 3 rg 78 g7 0 out.length) rfl ?_
            refine res_tmp (v := .niface) rfl ?_
            refine res_nil ?_
            show Gives _ (.tuple [.sl 3 rg 78 g7 0 out.length, .niface]) _
            refine gives_freeze (k := 78) (xs := List.map eRat out) rfl (v' := .tuple [eL eRat out, .niface]) (VW.tupL (vl' (frz_full rfl) (vl' vr (vn)))) ?_
            exact gives_out hrg (VW.tupL (vl' vr (vl' vr (vn)))) (hQ _ _ h)
      · refine Vc.region' ?_
        refine Wl.cons rg (o_move (v := eL eRat factors) rfl ?_)
        refine Wl.cons rg (o_len td22 rfl ?_)
        refine Wl.cons rg (o_lss rfl rfl ?_)
        refine Wl.cons rg (o_move (v := .bool (decide ((factors.length : Int) < 1))) rfl ?_)
        refine Wl.guard rfl rfl (fun hb5 => ?_) (fun hb5 => ?_)
        · replace h := h.2 hb5
          refine Wl.cons rg (o_move (v := eL eRat factors) rfl ?_)
          refine Wl.guardT rfl rfl hb5 ?_
          refine Wl.cons rg (o_len td22 rfl ?_)
          refine Wl.guardT rfl rfl hb5 ?_
          refine Wl.cons rg (o_gtr rfl rfl ?_)
          refine Wl.cons rg (o_pickF rfl hb5 (v := .bool (decide (3 < (factors.length : Int)))) rfl ?_)
          refine Wl.nil ?_
          exact ⟨((decide (3 < (factors.length : Int))), g2), (canon (fc vr (fc vr (fc vr (fn)))) (sc rfl (sn))), h⟩
        · replace h := h.1 hb5
          refine Wl.guardF rfl rfl hb5 rfl ?_
          refine Wl.guardF rfl rfl hb5 rfl ?_
          refine Wl.cons rg (o_pickT rfl hb5 (v := .bool true) rfl ?_)
          refine Wl.nil ?_
          exact ⟨(true, g2), (canon (fc vr (fc vr (fc vr (fn)))) (sc rfl (sn))), h⟩
  · refine Vc.region' ?_
    refine Wl.cons rg (o_loadBA (atL (k := 2) rfl) sz27 (by decide) ag27 rfl rfl (v := eRat p) rfl ?_)
    refine Wl.cons rg (o_bslice td22 ok27 zav27 (es := [eRat p]) rfl (kk := 3) rfl rfl rfl rfl rfl rfl (fun g15 => ?_))
    refine Wl.wk (canon_freeze (k := 14) (xs := List.map eRat [p]) rfl (es := [(1, eL eRat factors), (2, .ptr rg 2 g1 0 0), (14, eL eRat [p])]) (fc vr (fc vr (fc (frz_full rfl) (fn)))) (m := [(2, .arr 3 [eRat p], g1)]) (sc rfl (sn))) ?_
    refine Wl.cons rg (o_call (us := [eL eRat [p]]) rfl (vl' vr (vn)) (common_probs_ctr h fun r8 h => ?_))
    refine Wl.cons rg (o_not rfl ?_)
    refine Wl.cons rg (o_move (v := .bool (!r8)) rfl ?_)
    refine Wl.guard rfl rfl (fun hb6 => ?_) (fun hb6 => ?_)
    · replace h := h.2 hb6
      refine Wl.cons rg (o_move (v := eL eRat factors) rfl ?_)
      refine Wl.guardT rfl rfl hb6 ?_
      refine Wl.cons rg (o_call (us := [eL eRat factors]) rfl (vl' vr (vn)) (common_probs_ctr h fun r9 h => ?_))
      refine Wl.guardT rfl rfl hb6 ?_
      refine Wl.cons rg (o_not rfl ?_)
      refine Wl.cons rg (o_pickF rfl hb6 (v := .bool (!r9)) rfl ?_)
      refine Wl.nil ?_
      exact ⟨((!r9), g1), (canon (fc vr (fc vr (fc vr (fn)))) (sc rfl (sn))), h⟩
    · replace h := h.1 hb6
      refine Wl.guardF rfl rfl hb6 rfl ?_
      refine Wl.guardF rfl rfl hb6 rfl ?_
      refine Wl.cons rg (o_pickT rfl hb6 (v := .bool true) rfl ?_)
      refine Wl.nil ?_
      exact ⟨(true, g1), (canon (fc vr (fc vr (fc vr (fn)))) (sc rfl (sn))), h⟩
end Go.Proofs.Ytonbnfgknijpoaa
