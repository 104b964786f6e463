/- Walks of functions. Conditions: none. -/
import Derived.Test.YtiamkdpljeemkaaWa
import Derived.Test.YtiamkdpljeemkaaGgTy
import Derived.Test.YtiamkdpljeemkaaK3
import Derived.Test.YtiamkdpljeemkaaK7
/- Walks of functions. Conditions: none. -/
namespace Go.Proofs.Ytiamkdpljeemkaa
open Go.Gg
set_option maxRecDepth 100000
theorem law15_DiagramDepends_ctr {f : GFormula} {o : List Int} {Q : Bool → Prop} {S : St} {R : AV → St → Prop} (h : law15_DiagramDepends_W f o Q) (hQ : ∀ r1, Q r1 → R (AV.bool r1) S) :
    Ctr Try.prog 5 [eFormula f, eL (AV.int .i64) o] S R := by
  unfold law15_DiagramDepends_W at h
  refine enterT Try.func5 rfl Try.ntmps5 Try.results5 (by kernel_rfl) (fun rg hrg => ?_)
  refine qZ (rZ (wZ rg (o_box (v := eFormula f) rfl rfl (kk := 3) rfl (by decide) (fun g1 => (asZ (.bool false) rfl (nZ (qZ ?_)))))))
  obtain ⟨J, h, hJ⟩ := h
  refine Vc.join' (σ := ((Bool) × (Nat))) (fun y => J y.1) (fun y => envOf [(1, eL (AV.int .i64) o), (2, .ptr rg 2 y.2 0 0), (24, .bool y.1)]) (fun y => stL S rg [(2, .arr 3 [eFormula f], y.2)]) (fun y h => ?_) ?_
  · obtain ⟨x, g2⟩ := y
    replace h := hJ x h
    show Vc _ _ _ _ (envOf [(1, eL (AV.int .i64) o), (2, .ptr rg 2 g2 0 0), (24, .bool x)]) (stL S rg [(2, .arr 3 [eFormula f], g2)])
    refine Vc.cond' rfl (fun hb => ?_) (fun hb => ?_)
    · replace h := h.1 hb
      refine qZ (rZ (wZ rg (o_call (us := []) rfl (vn) (law15_awake_ctr h fun r h => (asZ (.bool r) rfl (nZ ?_))))))
      refine Vc.ret' ?_
      refine res_tmp (v := .bool r) rfl (res_nil ?_)
      show Gives _ (.bool r) _
      exact gives_out hrg (VW.refl _) (hQ _ h)
    replace h := h.2 hb
    refine Vc.skip' ?_
    refine qZ (rZ (wZ rg (o_loadBA (atL (k := 2) rfl) sz24 (by decide) ag24 rfl rfl (v := eFormula f) rfl (mvZ (eL (AV.int .i64) o) rfl (wZ rg (o_call (us := [eFormula f, eL (AV.int .i64) o]) rfl (vl' vr (vl' vr (vn))) (diagram_Build_ctr h fun r1 r2 h => (mvZ (.tuple [eDiagram r1, eErr 73 r2]) rfl (wZ rg (o_extract (v := eDiagram r1) rfl rfl rfl (wZ rg (o_extract (v := eErr 73 r2) rfl rfl rfl ?_))))))))))))
    refine wZ rg (o_alloc zav30 ok30 (kk := 3) rfl (fun g3 => (wZ rg (o_storeB (atL (k := 5) rfl) sz30 (by decide) rfl (w := eDiagram r1) rfl rfl rfl (v := eDiagram r1) rfl setL (asZ (eErr 73 r2) rfl (nZ (qZ (rZ (wZ rg (o_loadBA (atL (k := 5) rfl) sz30 (by decide) ag30 rfl rfl (v := eDiagram r1) rfl (wZ rg (o_call (us := [eDiagram r1]) rfl (vl' vr (vn)) (diagram_Support_ctr h fun r3 r4 h => ?_)))))))))))))
    refine mvZ (.tuple [.int .i64 r3, eErr 73 r4]) rfl (wZ rg (o_extract (v := .int .i64 r3) rfl rfl rfl (wZ rg (o_extract (v := eErr 73 r4) rfl rfl rfl (asZ (.int .i64 r3) rfl (asZ (eErr 73 r4) rfl (nZ (qZ (rZ (wZ rg (o_loadBA (atL (k := 5) rfl) sz30 (by decide) ag30 rfl rfl (v := eDiagram r1) rfl (wZ rg (o_call (us := [eDiagram r1]) rfl (vl' vr (vn)) (diagram_Size_ctr h fun r5 r6 h => ?_))))))))))))))
    refine mvZ (.tuple [.int .i64 r5, eErr 73 r6]) rfl (wZ rg (o_extract (v := .int .i64 r5) rfl rfl rfl (wZ rg (o_extract (v := eErr 73 r6) rfl rfl rfl (asZ (.int .i64 r5) rfl (asZ (eErr 73 r6) rfl (nZ (qZ (rZ (wZ rg (o_loadBA (atL (k := 5) rfl) sz30 (by decide) ag30 rfl rfl (v := eDiagram r1) rfl (wZ rg (o_call (us := [eDiagram r1]) rfl (vl' vr (vn)) (diagram_Levels_ctr h fun r7 r8 h => ?_))))))))))))))
    refine mvZ (.tuple [eL (AV.int .i64) r7, eErr 73 r8]) rfl (wZ rg (o_extract (v := eL (AV.int .i64) r7) rfl rfl rfl (wZ rg (o_extract (v := eErr 73 r8) rfl rfl rfl (asZ (eL (AV.int .i64) r7) rfl (asZ (eErr 73 r8) rfl (nZ (qZ (rZ (wZ rg (o_loadBA (atL (k := 2) rfl) sz24 (by decide) ag24 rfl rfl (v := eFormula f) rfl ?_)))))))))))
    refine wZ rg (o_call (us := [eFormula f]) rfl (vl' vr (vn)) (truth_Relevant_ctr h fun r9 r10 h => (mvZ (.tuple [.int .i64 r9, eErr 73 r10]) rfl (wZ rg (o_extract (v := .int .i64 r9) rfl rfl rfl (wZ rg (o_extract (v := eErr 73 r10) rfl rfl rfl (asZ (.int .i64 r9) rfl (asZ (eErr 73 r10) rfl (nZ (qZ (qZ (rZ (mvZ (eErr 73 r2) rfl (wZ rg (o_isnon td32 (E := 73) rfl rfl rfl ?_))))))))))))))))
    refine mvZ (.bool (Option.isSome r2)) rfl ?_
    refine Wl.guard rfl rfl (fun hb1 => ?_) (fun hb1 => ?_)
    · replace h := h.2 hb1
      refine mvZ (eErr 73 r4) rfl ?_
      refine Wl.guardT rfl rfl hb1 ?_
      refine wZ rg (o_isnon td32 (E := 73) rfl rfl rfl (wZ rg (o_pickF rfl hb1 (v := .bool (Option.isSome r4)) rfl (mvZ (.bool (Option.isSome r4)) rfl ?_))))
      refine Wl.guard rfl rfl (fun hb2 => ?_) (fun hb2 => ?_)
      · replace h := h.2 hb2
        refine mvZ (eErr 73 r6) rfl ?_
        refine Wl.guardT rfl rfl hb2 ?_
        refine wZ rg (o_isnon td32 (E := 73) rfl rfl rfl (wZ rg (o_pickF rfl hb2 (v := .bool (Option.isSome r6)) rfl (mvZ (.bool (Option.isSome r6)) rfl ?_))))
        refine Wl.guard rfl rfl (fun hb3 => ?_) (fun hb3 => ?_)
        · replace h := h.2 hb3
          refine mvZ (eErr 73 r8) rfl ?_
          refine Wl.guardT rfl rfl hb3 ?_
          refine wZ rg (o_isnon td32 (E := 73) rfl rfl rfl (wZ rg (o_pickF rfl hb3 (v := .bool (Option.isSome r8)) rfl (mvZ (.bool (Option.isSome r8)) rfl ?_))))
          refine Wl.guard rfl rfl (fun hb4 => ?_) (fun hb4 => ?_)
          · replace h := h.2 hb4
            refine mvZ (eErr 73 r10) rfl ?_
            refine Wl.guardT rfl rfl hb4 ?_
            refine wZ rg (o_isnon td32 (E := 73) rfl rfl rfl (wZ rg (o_pickF rfl hb4 (v := .bool (Option.isSome r10)) rfl (mvZ (.bool (Option.isSome r10)) rfl ?_))))
            refine Wl.guard rfl rfl (fun hb5 => ?_) (fun hb5 => ?_)
            · replace h := h.2 hb5
              refine mvZ (.int .i64 r3) rfl ?_
              refine Wl.guardT rfl rfl hb5 ?_
              refine mvZ (.int .i64 r9) rfl ?_
              refine Wl.guardT rfl rfl hb5 ?_
              refine wZ rg (o_neq rfl rfl (wZ rg (o_pickF rfl hb5 (v := .bool (r3 != r9)) rfl (nZ ?_))))
              refine Vc.cond' rfl (fun hb6 => ?_) (fun hb6 => ?_)
              · replace h := h.1 hb6
                refine qZ (rZ (asZ (.bool false) rfl (nZ ?_)))
                refine Vc.ret' ?_
                refine res_tmp (v := .bool false) rfl (res_nil ?_)
                show Gives _ (.bool false) _
                exact gives_out hrg (VW.refl _) (hQ _ h)
              replace h := h.2 hb6
              refine Vc.skip' ?_
              refine qZ (rZ (asZ (.int .i64 0) rfl (nZ (qZ (qZ (rZ (asZ (.int .i64 0) rfl (nZ ?_))))))))
              refine Vc.blk ?_
              obtain ⟨I, μ, h0, hI⟩ := h
              refine Vc.loop' (σ := (Int × Int)) (fun y => I y) (fun y => μ y) (fun y => envOf [(2, .ptr rg 2 g2 0 0), (9, .int .i64 r5), (11, eL (AV.int .i64) r7), (15, .int .i64 y.1), (16, .int .i64 y.2)]) (fun y => stL S rg [(2, .arr 3 [eFormula f], g2)]) (0, 0) (canon (fc vr (fc vr (fc vr (fc vr (fc vr (fn)))))) (sc rfl (sn))) h0 (fun y h => ?_)
              obtain ⟨sum, i⟩ := y
              replace h := hI (sum, i) h
              show Vc _ _ _ _ (envOf [(2, .ptr rg 2 g2 0 0), (9, .int .i64 r5), (11, eL (AV.int .i64) r7), (15, .int .i64 sum), (16, .int .i64 i)]) (stL S rg [(2, .arr 3 [eFormula f], g2)])
              refine qZ (qZ (rZ (mvZ (.int .i64 i) rfl (mvZ (eL (AV.int .i64) r7) rfl (wZ rg (o_len td25 rfl (wZ rg (o_lss rfl rfl (nZ ?_)))))))))
              refine Vc.cond' rfl (fun hb7 => ?_) (fun hb7 => ?_)
              · replace h := h.1 hb7
                refine Vc.skip' ?_
                refine qZ ?_
                refine Vc.blk ?_
                refine rZ ?_
                refine mvZ (.int .i64 sum) rfl (mvZ (eL (AV.int .i64) r7) rfl (mvZ (.int .i64 i) rfl (wZ rg (o_idxL td25 sz3 (by decide) (fun _ => rfl) rfl rfl h.1 ?_))))
                replace h := h.2
                refine wZ rg (o_loadI1 sz3 ag3 rfl rfl (v := .int .i64 (at' r7 i)) rfl (wZ rg (o_addG rfl rfl h.1 ?_)))
                replace h := h.2
                refine asZ (.int .i64 (sum + (at' r7 i))) rfl (nZ (rZ (mvZ (.int .i64 i) rfl (wZ rg (o_addG rfl rfl h.1 ?_)))))
                replace h := h.2
                refine asZ (.int .i64 (i + 1)) rfl (nZ ?_)
                exact ⟨((sum + (at' r7 i)), (i + 1)), (canon (fc vr (fc vr (fc vr (fc vr (fc vr (fn)))))) (sc rfl (sn))), h⟩
              replace h := h.2 hb7
              refine Vc.exit' (exB_self ?_)
              refine qZ (rZ (mvZ (.int .i64 sum) rfl (mvZ (.int .i64 r5) rfl (wZ rg (o_eql rfl rfl (mvZ (.bool (sum == r5)) rfl ?_))))))
              refine Wl.guard rfl rfl (fun hb8 => ?_) (fun hb8 => ?_)
              · replace h := h.1 hb8
                refine mvZ (eL (AV.int .i64) r7) rfl ?_
                refine Wl.guardT rfl rfl hb8 ?_
                refine wZ rg (o_len td25 rfl ?_)
                refine Wl.guardT rfl rfl hb8 ?_
                refine wZ rg (o_faP td24 rfl rfl (by rw [sz3]; decide) rfl ?_)
                refine Wl.guardT rfl rfl hb8 ?_
                refine wZ rg (o_loadB1 (atL (k := 2) rfl) sz3 ag3 rfl rfl (v := .int .i64 f.Vars) rfl ?_)
                refine Wl.guardT rfl rfl hb8 ?_
                refine wZ rg (o_eql rfl rfl (wZ rg (o_pickT rfl hb8 (v := .bool ((r7.length : Int) == f.Vars)) rfl (asZ (.bool ((r7.length : Int) == f.Vars)) rfl (nZ ?_)))))
                refine Vc.ret' ?_
                refine res_tmp (v := .bool ((r7.length : Int) == f.Vars)) rfl (res_nil ?_)
                show Gives _ (.bool ((r7.length : Int) == f.Vars)) _
                exact gives_out hrg (VW.refl _) (hQ _ h)
              replace h := h.2 hb8
              refine Wl.guardF rfl rfl hb8 rfl ?_
              refine Wl.guardF rfl rfl hb8 rfl ?_
              refine Wl.guardF rfl rfl hb8 rfl ?_
              refine Wl.guardF rfl rfl hb8 rfl ?_
              refine wZ rg (o_pickF rfl hb8 (v := .bool false) rfl (asZ (.bool false) rfl (nZ ?_)))
              refine Vc.ret' ?_
              refine res_tmp (v := .bool false) rfl (res_nil ?_)
              show Gives _ (.bool false) _
              exact gives_out hrg (VW.refl _) (hQ _ h)
            replace h := h.1 hb5
            refine Wl.guardF rfl rfl hb5 rfl ?_
            refine Wl.guardF rfl rfl hb5 rfl ?_
            refine wZ rg (o_pickT rfl hb5 (v := .bool true) rfl (nZ ?_))
            refine Vc.cond' rfl (fun _ => ?_) (fun hb => Bool.noConfusion hb)
            refine qZ (rZ (asZ (.bool false) rfl (nZ ?_)))
            refine Vc.ret' ?_
            refine res_tmp (v := .bool false) rfl (res_nil ?_)
            show Gives _ (.bool false) _
            exact gives_out hrg (VW.refl _) (hQ _ h)
          replace h := h.1 hb4
          refine Wl.guardF rfl rfl hb4 rfl ?_
          refine wZ rg (o_pickT rfl hb4 (v := .bool true) rfl (mvZ (.bool true) rfl ?_))
          refine Wl.guardF rfl rfl rfl rfl ?_
          refine Wl.guardF rfl rfl rfl rfl ?_
          refine Wl.guardF rfl rfl rfl rfl ?_
          refine wZ rg (o_pickT rfl rfl (v := .bool true) rfl (nZ ?_))
          refine Vc.cond' rfl (fun _ => ?_) (fun hb => Bool.noConfusion hb)
          refine qZ (rZ (asZ (.bool false) rfl (nZ ?_)))
          refine Vc.ret' ?_
          refine res_tmp (v := .bool false) rfl (res_nil ?_)
          show Gives _ (.bool false) _
          exact gives_out hrg (VW.refl _) (hQ _ h)
        replace h := h.1 hb3
        refine Wl.guardF rfl rfl hb3 rfl ?_
        refine wZ rg (o_pickT rfl hb3 (v := .bool true) rfl (mvZ (.bool true) rfl ?_))
        refine Wl.guardF rfl rfl rfl rfl ?_
        refine Wl.guardF rfl rfl rfl rfl ?_
        refine wZ rg (o_pickT rfl rfl (v := .bool true) rfl (mvZ (.bool true) rfl ?_))
        refine Wl.guardF rfl rfl rfl rfl ?_
        refine Wl.guardF rfl rfl rfl rfl ?_
        refine Wl.guardF rfl rfl rfl rfl ?_
        refine wZ rg (o_pickT rfl rfl (v := .bool true) rfl (nZ ?_))
        refine Vc.cond' rfl (fun _ => ?_) (fun hb => Bool.noConfusion hb)
        refine qZ (rZ (asZ (.bool false) rfl (nZ ?_)))
        refine Vc.ret' ?_
        refine res_tmp (v := .bool false) rfl (res_nil ?_)
        show Gives _ (.bool false) _
        exact gives_out hrg (VW.refl _) (hQ _ h)
      replace h := h.1 hb2
      refine Wl.guardF rfl rfl hb2 rfl ?_
      refine wZ rg (o_pickT rfl hb2 (v := .bool true) rfl (mvZ (.bool true) rfl ?_))
      refine Wl.guardF rfl rfl rfl rfl ?_
      refine Wl.guardF rfl rfl rfl rfl ?_
      refine wZ rg (o_pickT rfl rfl (v := .bool true) rfl (mvZ (.bool true) rfl ?_))
      refine Wl.guardF rfl rfl rfl rfl ?_
      refine Wl.guardF rfl rfl rfl rfl ?_
      refine wZ rg (o_pickT rfl rfl (v := .bool true) rfl (mvZ (.bool true) rfl ?_))
      refine Wl.guardF rfl rfl rfl rfl ?_
      refine Wl.guardF rfl rfl rfl rfl ?_
      refine Wl.guardF rfl rfl rfl rfl ?_
      refine wZ rg (o_pickT rfl rfl (v := .bool true) rfl (nZ ?_))
      refine Vc.cond' rfl (fun _ => ?_) (fun hb => Bool.noConfusion hb)
      refine qZ (rZ (asZ (.bool false) rfl (nZ ?_)))
      refine Vc.ret' ?_
      refine res_tmp (v := .bool false) rfl (res_nil ?_)
      show Gives _ (.bool false) _
      exact gives_out hrg (VW.refl _) (hQ _ h)
    replace h := h.1 hb1
    refine Wl.guardF rfl rfl hb1 rfl ?_
    refine wZ rg (o_pickT rfl hb1 (v := .bool true) rfl (mvZ (.bool true) rfl ?_))
    refine Wl.guardF rfl rfl rfl rfl ?_
    refine Wl.guardF rfl rfl rfl rfl ?_
    refine wZ rg (o_pickT rfl rfl (v := .bool true) rfl (mvZ (.bool true) rfl ?_))
    refine Wl.guardF rfl rfl rfl rfl ?_
    refine Wl.guardF rfl rfl rfl rfl ?_
    refine wZ rg (o_pickT rfl rfl (v := .bool true) rfl (mvZ (.bool true) rfl ?_))
    refine Wl.guardF rfl rfl rfl rfl ?_
    refine Wl.guardF rfl rfl rfl rfl ?_
    refine wZ rg (o_pickT rfl rfl (v := .bool true) rfl (mvZ (.bool true) rfl ?_))
    refine Wl.guardF rfl rfl rfl rfl ?_
    refine Wl.guardF rfl rfl rfl rfl ?_
    refine Wl.guardF rfl rfl rfl rfl ?_
    refine wZ rg (o_pickT rfl rfl (v := .bool true) rfl (nZ ?_))
    refine Vc.cond' rfl (fun _ => ?_) (fun hb => Bool.noConfusion hb)
    refine qZ (rZ (asZ (.bool false) rfl (nZ ?_)))
    refine Vc.ret' ?_
    refine res_tmp (v := .bool false) rfl (res_nil ?_)
    show Gives _ (.bool false) _
    exact gives_out hrg (VW.refl _) (hQ _ h)
  refine rZ ?_
  refine wZ rg (o_call (us := []) rfl (vn) (law15_awake_ctr h fun r11 h => (wZ rg (o_not rfl (mvZ (.bool (!r11)) rfl ?_)))))
  refine Wl.guard rfl rfl (fun hb9 => ?_) (fun hb9 => ?_)
  · replace h := h.2 hb9
    refine wZ rg (o_loadBA (atL (k := 2) rfl) sz24 (by decide) ag24 rfl rfl (v := eFormula f) rfl ?_)
    refine Wl.guardT rfl rfl hb9 ?_
    refine mvZ (eL (AV.int .i64) o) rfl ?_
    refine Wl.guardT rfl rfl hb9 ?_
    refine wZ rg (o_call (us := [eFormula f, eL (AV.int .i64) o]) rfl (vl' vr (vl' vr (vn))) (law15_valid_ctr h fun r12 h => ?_))
    refine Wl.guardT rfl rfl hb9 ?_
    refine wZ rg (o_not rfl (wZ rg (o_pickF rfl hb9 (v := .bool (!r12)) rfl (nZ ?_))))
    exact ⟨((!r12), g1), (canon (fc vr (fc vr (fc vr (fn)))) (sc rfl (sn))), h⟩
  replace h := h.1 hb9
  refine Wl.guardF rfl rfl hb9 rfl ?_
  refine Wl.guardF rfl rfl hb9 rfl ?_
  refine Wl.guardF rfl rfl hb9 rfl ?_
  refine wZ rg (o_pickT rfl hb9 (v := .bool true) rfl (nZ ?_))
  exact ⟨(true, g1), (canon (fc vr (fc vr (fc vr (fn)))) (sc rfl (sn))), h⟩
end Go.Proofs.Ytiamkdpljeemkaa
