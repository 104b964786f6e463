/- Walks of functions. Conditions: none. -/
import Derived.Test.YtiamkdpljeemkaaWa
import Derived.Test.YtiamkdpljeemkaaGgTy
import Derived.Test.YtiamkdpljeemkaaGd
import Derived.Test.YtiamkdpljeemkaaK3
/- Walks of functions. Conditions: none. -/
namespace Go.Proofs.Ytiamkdpljeemkaa
open Go.Gg
set_option maxRecDepth 100000
theorem diagram_Cubes_1__e2_ctr {fu : Nat} : ∀ {r : Int} {c : GCube} {u : GDiagram} {u1 : List GCube} {q0 k0 g0 q1 k1 g1 q2 k2 g2 q3 k3 g3 : Nat} (_hdk : DK [(q0, k0), (q3, k3), (q1, k1), (q2, k2)]) {Q : List GCube → Bool → Prop} {S : St} {R : AV → St → Prop} (_h : diagram_Cubes_1__e2_W fu r c u u1 Q) (_hQ : ∀ r1 r2, ∀ h3, Q r1 r2 → R (AV.bool r2) (stX S [(q0, k0, .arr 1 [.sl 2 q3 k3 h3 0 r1.length], g0), (q3, k3, .arr 2 (List.map eCube r1), h3), (q1, k1, .arr 3 [eDiagram u], g1), (q2, k2, .arr 1 [.fn (.func 80) [] [.ptr q0 k0 g0 0 0, .ptr q1 k1 g1 0 0, .ptr q2 k2 g2 0 0]], g2)])),
    Ctr Try.prog 80 [AV.int .i64 r, eCube c, .ptr q0 k0 g0 0 0, .ptr q1 k1 g1 0 0, .ptr q2 k2 g2 0 0] (stX S [(q0, k0, .arr 1 [.sl 2 q3 k3 g3 0 u1.length], g0), (q3, k3, .arr 2 (List.map eCube u1), g3), (q1, k1, .arr 3 [eDiagram u], g1), (q2, k2, .arr 1 [.fn (.func 80) [] [.ptr q0 k0 g0 0 0, .ptr q1 k1 g1 0 0, .ptr q2 k2 g2 0 0]], g2)]) R := by
  induction fu with
  | zero =>
    intro r c u u1 q0 k0 g0 q1 k1 g1 q2 k2 g2 q3 k3 g3 hdk Q S R h hQ
    exact False.elim h
  | succ fu ih =>
  intro r c u u1 q0 k0 g0 q1 k1 g1 q2 k2 g2 q3 k3 g3 hdk Q S R h hQ
  rw [diagram_Cubes_1__e2_W] at h
  refine enterT Try.func80 rfl Try.ntmps80 Try.results80 (by kernel_rfl) (fun rg hrg => ?_)
  have hdx : DX [(q0, k0, .arr 1 [.sl 2 q3 k3 g3 0 u1.length], g0), (q3, k3, .arr 2 (List.map eCube u1), g3), (q1, k1, .arr 3 [eDiagram u], g1), (q2, k2, .arr 1 [.fn (.func 80) [] [.ptr q0 k0 g0 0 0, .ptr q1 k1 g1 0 0, .ptr q2 k2 g2 0 0]], g2)] := hdk
  have hfr := fun X' e => fresh_set (S := S) (rg := rg) (X := [(q0, k0, .arr 1 [.sl 2 q3 k3 g3 0 u1.length], g0), (q3, k3, .arr 2 (List.map eCube u1), g3), (q1, k1, .arr 3 [eDiagram u], g1), (q2, k2, .arr 1 [.fn (.func 80) [] [.ptr q0 k0 g0 0 0, .ptr q1 k1 g1 0 0, .ptr q2 k2 g2 0 0]], g2)]) (X' := X') e hrg
  have hne0 := fresh_ne hdx hrg 0 rfl
  have hne3 := fresh_ne hdx hrg 1 rfl
  have hne1 := fresh_ne hdx hrg 2 rfl
  have hne2 := fresh_ne hdx hrg 3 rfl
  refine qZ (rZ (wZ rg (o_box (v := eCube c) rfl rfl (kk := 2) rfl (by decide) (fun g4 => (asZ (.bool false) rfl (nZ (qZ (qZ (rZ (mvZ (.int .i64 r) rfl (nZ ?_)))))))))))
  refine Vc.blk ?_
  refine qZ (rZ (wZ rg (o_eql rfl rfl (asZ (.bool (r == 0)) rfl (nZ ?_)))))
  refine Vc.cond' rfl (fun hb => ?_) (fun hb => ?_)
  · replace h := h.1 hb
    refine qZ (rZ (asZ (.bool true) rfl (nZ ?_)))
    refine Vc.ret' ?_
    refine res_tmp (v := .bool true) rfl (res_nil ?_)
    show Gives _ (.bool true) _
    exact gives_out (hfr _ rfl) (VW.refl _) (hQ _ _ _ h)
  replace h := h.2 hb
  refine qZ (rZ (wZ rg (o_eql rfl rfl (asZ (.bool (r == 1)) rfl (nZ ?_)))))
  refine Vc.cond' rfl (fun hb1 => ?_) (fun hb1 => ?_)
  · replace h := h.1 hb1
    refine qZ (rZ (wZ rg (o_loadB1 (atX hne0 hdx 0 rfl) sz38 ag38 rfl rfl (v := .sl 2 q3 k3 g3 0 u1.length) rfl (wZ rg (o_loadBA (atL (k := 6) rfl) sz44 (by decide) ag44 rfl rfl (v := eCube c) rfl (wZ rg (o_bslice td38 ok44 zav44 (es := [eCube c]) rfl (kk := 2) rfl rfl rfl rfl rfl rfl (fun g5 => ?_))))))))
    refine wZ rg (o_appR td38 bts44 ok44 zav44 (es := u1) (xs := [c]) (enc := eCube) (atX hne3 hdx 1 rfl) (by first | rfl | omega | (simp only [go_sem] <;> omega)) (view_rowE (atL (k := 17) rfl) (by first | rfl | omega | (simp only [go_sem] <;> omega))) (kk := 2) rfl rfl (fun _ => rfl) (fun _ => rfl) h.1 rfl (fun _ => (setX hne3 hdx 1 rfl rfl)) (fun g6 => ?_))
    replace h := h.2
    refine wZ rg (o_storeB (atX hne0 hdx 0 rfl) sz38 (by decide) rfl (w := .sl 2 q3 k3 g6 0 ((u1 ++ [c]).length)) rfl rfl rfl (v := .sl 2 q3 k3 g6 0 ((u1 ++ [c]).length)) rfl (setX hne0 hdx 0 rfl rfl) (nZ (qZ (rZ (wZ rg (o_loadB1 (atX hne0 hdx 0 rfl) sz38 ag38 rfl rfl (v := .sl 2 q3 k3 g6 0 ((u1 ++ [c]).length)) rfl (wZ rg (o_lenR td38 rfl (wZ rg (o_leq rfl rfl ?_))))))))))
    refine asZ (.bool (decide (((u1 ++ [c]).length : Int) ≤ 1024))) rfl (nZ ?_)
    refine Vc.ret' ?_
    refine res_tmp (v := .bool (decide (((u1 ++ [c]).length : Int) ≤ 1024))) rfl (res_nil ?_)
    show Gives _ (.bool (decide (((u1 ++ [c]).length : Int) ≤ 1024))) _
    exact gives_out (hfr _ rfl) (VW.refl _) (hQ _ _ _ h)
  replace h := h.2 hb1
  refine Vc.skip' ?_
  refine qZ (rZ (wZ rg (o_faP td30 rfl rfl (by rw [sz28]; decide) rfl (wZ rg (o_loadB1 (atX hne1 hdx 2 rfl) sz28 ag28 rfl rfl (v := eL eDNode u.Nodes) rfl (mvZ (.int .i64 r) rfl (wZ rg (o_subG rfl rfl h.1 ?_))))))))
  replace h := h.2
  refine wZ rg (o_idxL td28 sz97 (by decide) (fun _ => rfl) rfl rfl h.1 ?_)
  replace h := h.2
  refine wZ rg (o_loadIA sz97 (by decide) ag97 rfl rfl (v := eDNode (at' u.Nodes (r - 2))) rfl (wZ rg (o_alloc zav97 ok97 (kk := 3) rfl (fun g7 => (wZ rg (o_storeB (atL (k := 8) rfl) sz97 (by decide) rfl (w := eDNode (at' u.Nodes (r - 2))) rfl rfl rfl (v := eDNode (at' u.Nodes (r - 2))) rfl setL (nZ (qZ (rZ (wZ rg (o_faP td97 rfl rfl (by rw [sz3]; decide) rfl ?_)))))))))))
  refine wZ rg (o_loadB1 (atL (k := 8) rfl) sz3 ag3 rfl rfl (v := .int .i64 ((at' u.Nodes (r - 2)).Var)) rfl (wZ rg (o_shlG rfl rfl h.1 ?_)))
  replace h := h.2
  obtain ⟨bit, hs⟩ : ∃ qz : Int, qz = (1 * 2 ^ (Int.toNat ((at' u.Nodes (r - 2)).Var))) := ⟨_, rfl⟩
  replace h := h bit hs
  refine wZ rg (o_assign (v := .int .i64 bit) (by subst hs; rfl) (nZ (qZ (rZ (wZ rg (o_loadB1 (atX hne2 hdx 3 rfl) sz112 ag112 rfl rfl (v := .fn (.func 80) [] [.ptr q0 k0 g0 0 0, .ptr q1 k1 g1 0 0, .ptr q2 k2 g2 0 0]) rfl (wZ rg (o_faP td97 rfl rfl (by rw [sz3]; decide) rfl (wZ rg (o_loadB1 (atL (k := 8) rfl) sz3 ag3 rfl rfl (v := .int .i64 ((at' u.Nodes (r - 2)).Lo)) rfl ?_))))))))))
  refine wZ rg (o_faP td44 rfl rfl (by rw [sz3]; decide) rfl (wZ rg (o_loadB1 (atL (k := 6) rfl) sz3 ag3 rfl rfl (v := .int .i64 c.Yes) rfl (wZ rg (o_faP td44 rfl rfl (by rw [sz3]; decide) rfl (wZ rg (o_loadB1 (atL (k := 6) rfl) sz3 ag3 rfl rfl (v := .int .i64 c.No) rfl (mvZ (.int .i64 bit) rfl (wZ rg (o_or rfl rfl ?_))))))))))
  refine wZ rg (o_build td44 zav44 bok44 szs44 sz44 (ps := [(0, .int .i64 c.Yes), (1, .int .i64 (bits .or .i64 c.No bit))]) rfl rfl (v := .agg [.int .i64 c.Yes, .int .i64 (bits .or .i64 c.No bit)]) rfl ?_)
  refine wZ rg (o_call (us := [AV.int .i64 ((at' u.Nodes (r - 2)).Lo), eCube (⟨c.Yes, (bits .or .i64 c.No bit)⟩ : GCube), .ptr q0 k0 g0 0 0, .ptr q1 k1 g1 0 0, .ptr q2 k2 g2 0 0]) rfl (vl' vr (vl' vr (vl' vr (vl' vr (vl' vr (vn)))))) (ctrX (sx_c (atX hne0 hdx 0 rfl) (sx_c (atX hne3 hdx 1 rfl) (sx_c (atX hne1 hdx 2 rfl) (sx_c (atX hne2 hdx 3 rfl) (sx_n))))) (ih (dk_c (ni_c (dk_at 0 1 hdk rfl rfl rfl) (ni_c (dk_at 0 2 hdk rfl rfl rfl) (ni_c (dk_at 0 3 hdk rfl rfl rfl) (ni_n)))) (dk_c (ni_c (dk_at 1 2 hdk rfl rfl rfl) (ni_c (dk_at 1 3 hdk rfl rfl rfl) (ni_n))) (dk_c (ni_c (dk_at 2 3 hdk rfl rfl rfl) (ni_n)) (dk_c (ni_n) (dk_n))))) h fun u2 r1 g8 h => ?_)))
  refine Wl.eqS (sy_c (sy_c (sx_c (atX hne1 hdx 2 rfl) (sx_c (atX hne2 hdx 3 rfl) (sx_n))) (setX hne3 hdx 1 rfl rfl)) (setX hne0 hdx 0 rfl rfl)) ?_
  refine mvZ (.bool r1) rfl ?_
  refine Wl.guard rfl rfl (fun hb2 => ?_) (fun hb2 => ?_)
  · replace h := h.1 hb2
    refine wZ rg (o_loadB1 (atX hne2 hdx 3 rfl) sz112 ag112 rfl rfl (v := .fn (.func 80) [] [.ptr q0 k0 g0 0 0, .ptr q1 k1 g1 0 0, .ptr q2 k2 g2 0 0]) rfl ?_)
    refine Wl.guardT rfl rfl hb2 ?_
    refine wZ rg (o_faP td97 rfl rfl (by rw [sz3]; decide) rfl ?_)
    refine Wl.guardT rfl rfl hb2 ?_
    refine wZ rg (o_loadB1 (atL (k := 8) rfl) sz3 ag3 rfl rfl (v := .int .i64 ((at' u.Nodes (r - 2)).Hi)) rfl ?_)
    refine Wl.guardT rfl rfl hb2 ?_
    refine wZ rg (o_faP td44 rfl rfl (by rw [sz3]; decide) rfl ?_)
    refine Wl.guardT rfl rfl hb2 ?_
    refine wZ rg (o_loadB1 (atL (k := 6) rfl) sz3 ag3 rfl rfl (v := .int .i64 c.Yes) rfl ?_)
    refine Wl.guardT rfl rfl hb2 ?_
    refine mvZ (.int .i64 bit) rfl ?_
    refine Wl.guardT rfl rfl hb2 ?_
    refine wZ rg (o_or rfl rfl ?_)
    refine Wl.guardT rfl rfl hb2 ?_
    refine wZ rg (o_faP td44 rfl rfl (by rw [sz3]; decide) rfl ?_)
    refine Wl.guardT rfl rfl hb2 ?_
    refine wZ rg (o_loadB1 (atL (k := 6) rfl) sz3 ag3 rfl rfl (v := .int .i64 c.No) rfl ?_)
    refine Wl.guardT rfl rfl hb2 ?_
    refine wZ rg (o_build td44 zav44 bok44 szs44 sz44 (ps := [(0, .int .i64 (bits .or .i64 c.Yes bit)), (1, .int .i64 c.No)]) rfl rfl (v := .agg [.int .i64 (bits .or .i64 c.Yes bit), .int .i64 c.No]) rfl ?_)
    refine Wl.guardT rfl rfl hb2 ?_
    refine wZ rg (o_call (us := [AV.int .i64 ((at' u.Nodes (r - 2)).Hi), eCube (⟨(bits .or .i64 c.Yes bit), c.No⟩ : GCube), .ptr q0 k0 g0 0 0, .ptr q1 k1 g1 0 0, .ptr q2 k2 g2 0 0]) rfl (vl' vr (vl' vr (vl' vr (vl' vr (vl' vr (vn)))))) (ctrX (sx_c (atX hne0 hdx 0 rfl) (sx_c (atX hne3 hdx 1 rfl) (sx_c (atX hne1 hdx 2 rfl) (sx_c (atX hne2 hdx 3 rfl) (sx_n))))) (ih (dk_c (ni_c (dk_at 0 1 hdk rfl rfl rfl) (ni_c (dk_at 0 2 hdk rfl rfl rfl) (ni_c (dk_at 0 3 hdk rfl rfl rfl) (ni_n)))) (dk_c (ni_c (dk_at 1 2 hdk rfl rfl rfl) (ni_c (dk_at 1 3 hdk rfl rfl rfl) (ni_n))) (dk_c (ni_c (dk_at 2 3 hdk rfl rfl rfl) (ni_n)) (dk_c (ni_n) (dk_n))))) h fun u3 r2 g9 h => ?_)))
    refine Wl.eqS (sy_c (sy_c (sx_c (atX hne1 hdx 2 rfl) (sx_c (atX hne2 hdx 3 rfl) (sx_n))) (setX hne3 hdx 1 rfl rfl)) (setX hne0 hdx 0 rfl rfl)) ?_
    refine wZ rg (o_pickT rfl hb2 (v := .bool r2) rfl (asZ (.bool r2) rfl (nZ ?_)))
    refine Vc.ret' ?_
    refine res_tmp (v := .bool r2) rfl (res_nil ?_)
    show Gives _ (.bool r2) _
    exact gives_out (hfr _ rfl) (VW.refl _) (hQ _ _ _ h)
  replace h := h.2 hb2
  refine Wl.guardF rfl rfl hb2 rfl ?_
  refine Wl.guardF rfl rfl hb2 rfl ?_
  refine Wl.guardF rfl rfl hb2 rfl ?_
  refine Wl.guardF rfl rfl hb2 rfl ?_
  refine Wl.guardF rfl rfl hb2 rfl ?_
  refine Wl.guardF rfl rfl hb2 rfl ?_
  refine Wl.guardF rfl rfl hb2 rfl ?_
  refine Wl.guardF rfl rfl hb2 rfl ?_
  refine Wl.guardF rfl rfl hb2 rfl ?_
  refine Wl.guardF rfl rfl hb2 rfl ?_
  refine wZ rg (o_pickF rfl hb2 (v := .bool false) rfl (asZ (.bool false) rfl (nZ ?_)))
  refine Vc.ret' ?_
  refine res_tmp (v := .bool false) rfl (res_nil ?_)
  show Gives _ (.bool false) _
  exact gives_out (hfr _ rfl) (VW.refl _) (hQ _ _ _ h)
theorem diagram_Cubes_ctr {d : GDiagram} {Q : List GCube → Option Int → Prop} {S : St} {R : AV → St → Prop} (h : diagram_Cubes_W d Q) (hQ : ∀ r1 r2, Q r1 r2 → R (.tuple [eL eCube r1, eErr 73 r2]) S) :
    Ctr Try.prog 25 [eDiagram d] S R := by
  unfold diagram_Cubes_W at h
  refine enterT Try.func25 rfl Try.ntmps25 Try.results25 (by kernel_rfl) (fun rg hrg => ?_)
  refine qZ (rZ (wZ rg (o_box (v := eDiagram d) rfl rfl (kk := 3) rfl (by decide) (fun g1 => (asZ .nil rfl (asZ .niface rfl (nZ (qZ (qZ (rZ (wZ rg (o_loadBA (atL (k := 1) rfl) sz30 (by decide) ag30 rfl rfl (v := eDiagram d) rfl (wZ rg (o_call (us := [eDiagram d]) rfl (vl' vr (vn)) (diagram_Check_ctr h fun err h => (asZ (eErr 73 err) rfl (nZ (qZ (rZ (mvZ (eErr 73 err) rfl ?_))))))))))))))))))))
  refine wZ rg (o_isnon td32 (E := 73) rfl rfl rfl (nZ ?_))
  refine Vc.cond' rfl (fun hb => ?_) (fun hb => ?_)
  · replace h := h.1 hb
    refine qZ (rZ (mvZ (eErr 73 err) rfl (asZ .nil rfl (asZ (eErr 73 err) rfl (nZ ?_)))))
    refine Vc.ret' ?_
    refine res_tmp (v := .nil) rfl (res_tmp (v := eErr 73 err) rfl (res_nil ?_))
    show Gives _ (.tuple [.nil, eErr 73 err]) _
    exact gives_out hrg (VW.tupL (vl' (VW.nilL) (vl' vr (vn)))) (hQ _ _ h)
  replace h := h.2 hb
  refine Vc.skip' ?_
  refine qZ (rZ (wZ rg (o_alloc zav38 ok38 (kk := 1) rfl (fun g2 => (nZ (qZ (rZ (wZ rg (o_alloc zav112 ok112 (kk := 1) rfl (fun g3 => (nZ (qZ (rZ (wZ rg (o_func (vs := []) (us := [.ptr rg 5 g2 0 0, .ptr rg 1 g1 0 0, .ptr rg 6 g3 0 0]) rfl rfl ?_)))))))))))))))
  refine wZ rg (o_storeB (atL (k := 6) rfl) sz112 (by decide) rfl (w := .fn (.func 80) [] [.ptr rg 5 g2 0 0, .ptr rg 1 g1 0 0, .ptr rg 6 g3 0 0]) rfl rfl rfl (v := .fn (.func 80) [] [.ptr rg 5 g2 0 0, .ptr rg 1 g1 0 0, .ptr rg 6 g3 0 0]) rfl setL (nZ (qZ (qZ (rZ (wZ rg (o_loadB1 (atL (k := 6) rfl) sz112 ag112 rfl rfl (v := .fn (.func 80) [] [.ptr rg 5 g2 0 0, .ptr rg 1 g1 0 0, .ptr rg 6 g3 0 0]) rfl ?_)))))))
  refine wZ rg (o_faP td30 rfl rfl (by rw [sz3]; decide) rfl (wZ rg (o_loadB1 (atL (k := 1) rfl) sz3 ag3 rfl rfl (v := .int .i64 d.Root) rfl (wZ rg (o_build td44 zav44 bok44 szs44 sz44 (ps := []) rfl rfl (v := .agg [.int .i64 0, .int .i64 0]) rfl ?_)))))
  refine Wl.matB 5 0 6000 2 (b := fun g4 => .sl 2 rg 6000 g4 0 (([] : List GCube).length)) rfl rfl (by decide) (by decide) rfl (fun g4 => ?_)
  obtain ⟨_, h⟩ := h
  refine wZ rg (o_call (us := [AV.int .i64 d.Root, eCube (⟨0, 0⟩ : GCube), .ptr rg 5 g2 0 0, .ptr rg 1 g1 0 0, .ptr rg 6 g3 0 0]) rfl (vl' vr (vl' vr (vl' vr (vl' vr (vl' vr (vn)))))) (ctrX (sx_c (atL (k := 5) rfl) (sx_c (atL (k := 6000) rfl) (sx_c (atL (k := 1) rfl) (sx_c (atL (k := 6) rfl) (sx_n))))) (diagram_Cubes_1__e2_ctr (dk_c (ni_c (ni_o rfl) (ni_c (ni_o rfl) (ni_c (ni_o rfl) (ni_n)))) (dk_c (ni_c (ni_o rfl) (ni_c (ni_o rfl) (ni_n))) (dk_c (ni_c (ni_o rfl) (ni_n)) (dk_c (ni_n) (dk_n))))) h fun u r g5 h => ?_)))
  refine Wl.eqS (sy_c (sy_c (sx_c (atL (k := 1) rfl) (sx_c (atL (k := 6) rfl) (sx_n))) setL) setL) ?_
  refine wZ rg (o_not rfl (nZ ?_))
  refine Vc.cond' rfl (fun hb1 => ?_) (fun hb1 => ?_)
  · replace h := h.1 hb1
    refine qZ (rZ (wZ rg (o_iface (by rw [td73]; trivial) (v := .int .i64 4) rfl (asZ .nil rfl (asZ (.iface 73 (.int .i64 4)) rfl (nZ ?_))))))
    refine Vc.ret' ?_
    refine res_tmp (v := .nil) rfl (res_tmp (v := .iface 73 (.int .i64 4)) rfl (res_nil ?_))
    show Gives _ (.tuple [.nil, .iface 73 (.int .i64 4)]) _
    exact gives_out hrg (VW.tupL (vl' (VW.nilL) (vl' vr (vn)))) (hQ _ _ h)
  replace h := h.2 hb1
  refine Vc.skip' ?_
  refine qZ (rZ (wZ rg (o_loadB1 (atL (k := 5) rfl) sz38 ag38 rfl rfl (v := .sl 2 rg 6000 g5 0 u.length) rfl (asZ (.sl 2 rg 6000 g5 0 u.length) rfl (asZ .niface rfl (nZ ?_))))))
  refine Vc.ret' ?_
  refine res_tmp (v := .sl 2 rg 6000 g5 0 u.length) rfl (res_tmp (v := .niface) rfl (res_nil ?_))
  show Gives _ (.tuple [.sl 2 rg 6000 g5 0 u.length, .niface]) _
  refine gives_freeze (k := 6000) (xs := List.map eCube u) rfl (v' := .tuple [eL eCube u, .niface]) (VW.tupL (vl' (frz_full rfl) (vl' vr (vn)))) ?_
  exact gives_out hrg (VW.tupL (vl' vr (vl' vr (vn)))) (hQ _ _ h)
end Go.Proofs.Ytiamkdpljeemkaa
/- Walks of functions. Conditions: none. -/
namespace Go.Proofs.Ytiamkdpljeemkaa
open Go.Gg
set_option maxRecDepth 100000
theorem ref12_Holds_ctr {c : GCube} {state : Int} {Q : Bool → Prop} {S : St} {R : AV → St → Prop} (h : ref12_Holds_W c state Q) (hQ : ∀ r1, Q r1 → R (AV.bool r1) S) :
    Ctr Try.prog 27 [eCube c, AV.int .i64 state] S R := by
  unfold ref12_Holds_W at h
  refine enterT Try.func27 rfl Try.ntmps27 Try.results27 (by kernel_rfl) (fun rg hrg => ?_)
  refine qZ (rZ (wZ rg (o_box (v := eCube c) rfl rfl (kk := 2) rfl (by decide) (fun g1 => (asZ (.bool false) rfl (nZ (qZ (rZ (mvZ (.int .i64 state) rfl (wZ rg (o_faP td44 rfl rfl (by rw [sz3]; decide) rfl (wZ rg (o_loadB1 (atL (k := 2) rfl) sz3 ag3 rfl rfl (v := .int .i64 c.Yes) rfl (wZ rg (o_and rfl rfl (wZ rg (o_faP td44 rfl rfl (by rw [sz3]; decide) rfl ?_)))))))))))))))))
  refine wZ rg (o_loadB1 (atL (k := 2) rfl) sz3 ag3 rfl rfl (v := .int .i64 c.Yes) rfl (wZ rg (o_eql rfl rfl (mvZ (.bool ((bits .and .i64 state c.Yes) == c.Yes)) rfl ?_))))
  refine Wl.guard rfl rfl (fun hb => ?_) (fun hb => ?_)
  · replace h := h.1 hb
    refine mvZ (.int .i64 state) rfl ?_
    refine Wl.guardT rfl rfl hb ?_
    refine wZ rg (o_faP td44 rfl rfl (by rw [sz3]; decide) rfl ?_)
    refine Wl.guardT rfl rfl hb ?_
    refine wZ rg (o_loadB1 (atL (k := 2) rfl) sz3 ag3 rfl rfl (v := .int .i64 c.No) rfl ?_)
    refine Wl.guardT rfl rfl hb ?_
    refine wZ rg (o_and rfl rfl ?_)
    refine Wl.guardT rfl rfl hb ?_
    refine wZ rg (o_eql rfl rfl (wZ rg (o_pickT rfl hb (v := .bool ((bits .and .i64 state c.No) == 0)) rfl (asZ (.bool ((bits .and .i64 state c.No) == 0)) rfl (nZ ?_)))))
    refine Vc.ret' ?_
    refine res_tmp (v := .bool ((bits .and .i64 state c.No) == 0)) rfl (res_nil ?_)
    show Gives _ (.bool ((bits .and .i64 state c.No) == 0)) _
    exact gives_out hrg (VW.refl _) (hQ _ h)
  replace h := h.2 hb
  refine Wl.guardF rfl rfl hb rfl ?_
  refine Wl.guardF rfl rfl hb rfl ?_
  refine Wl.guardF rfl rfl hb rfl ?_
  refine Wl.guardF rfl rfl hb rfl ?_
  refine wZ rg (o_pickF rfl hb (v := .bool false) rfl (asZ (.bool false) rfl (nZ ?_)))
  refine Vc.ret' ?_
  refine res_tmp (v := .bool false) rfl (res_nil ?_)
  show Gives _ (.bool false) _
  exact gives_out hrg (VW.refl _) (hQ _ h)
end Go.Proofs.Ytiamkdpljeemkaa
