/- Chapter 15: the diagram of a formula has its value; a state is in one cube exactly if the value is true. Conditions: none. -/
import Derived.Test.YtiamkdpljeemkaaMb
import Derived.Test.YtiamkdpljeemkaaWa
/- Chapter 15: the diagram of a formula has its value; a state is in one cube exactly if the value is true. Conditions: none. -/
namespace Go.Gg
/-- A law's beginning: the example, and what makes the arguments valid. -/
theorem valid_of {f : GFormula} {o : List Int} (hz : buildE f o = 0) (h10 : f.Vars ≤ 10) : FG f ∧ Or14 o ∧ o.length = f.Vars.toNat ∧ o.length ≤ 12 ∧ Dep (fF f) (natO o) ∧ VD (canD o (fF f)) ∧ dgE (canD o (fF f)) = 0 := by
  obtain ⟨g, hO, hl⟩ := buildE_zero.1 hz
  have v0 := g.v0
  have hd := fF_dep hO hl
  have h12 : o.length ≤ 12 := by omega
  have hV := VD_can hO h12 hd
  exact ⟨g, hO, by omega, h12, hd, hV, dgE_zero.2 hV⟩
theorem hits_one {d : GDiagram} (h : VD d) {s : Nat} : (cubD d).countP (hitC s) = if dF d (stA s) = true then 1 else 0 := by
  unfold cubD
  rw [pth_hits h.wt d.Root.toNat 0 0 h.root.2]
  have e : den d.Nodes (stA s) d.Root.toNat = dF d (stA s) := rfl
  rw [e]
  simp
theorem cubes_1024 {d : GDiagram} (h : VD d) (h10 : d.Order.length ≤ 10) : (cubD d).length ≤ 1024 := by
  have key : ∀ (r y m : Nat), r < 2 + d.Nodes.length → (pth d.Nodes r y m).length ≤ 2 ^ (d.Order.length - lvl d.Order.length (levO d.Order) d.Nodes r) := by
    intro r
    induction r using Nat.strongRecOn with
    | _ r ih =>
      intro y m hr
      rcases ref_cases hr with rfl | rfl | ⟨i, x, rfl, hx⟩
      · rw [pth0]; exact Nat.zero_le _
      · rw [pth1]; exact Nat.two_pow_pos _
      · have nd := h.wt.nd i x hx
        have hi := (List.getElem?_eq_some_iff.1 hx).1
        have b0 := nd.var; have b1 := nd.lo; have b2 := nd.hi; have b3 := nd.llo; have b4 := nd.lhi
        have hlv := h.ord.ord.lv.lt x.Var.toNat (by omega)
        rw [pth_node h.wt.kids hx, List.length_append, lvl_at hx]
        have l1 := ih x.Lo.toNat (by omega) y (m ||| 2 ^ x.Var.toNat) (by omega)
        have l2 := ih x.Hi.toNat (by omega) (y ||| 2 ^ x.Var.toNat) m (by omega)
        have e : 2 ^ (d.Order.length - levO d.Order x.Var.toNat) = 2 * 2 ^ (d.Order.length - levO d.Order x.Var.toNat - 1) := by
          rw [← Nat.pow_succ']
          congr 1
          omega
        have m1 : 2 ^ (d.Order.length - lvl d.Order.length (levO d.Order) d.Nodes x.Lo.toNat) ≤ 2 ^ (d.Order.length - levO d.Order x.Var.toNat - 1) := Nat.pow_le_pow_right (by omega) (by omega)
        have m2 : 2 ^ (d.Order.length - lvl d.Order.length (levO d.Order) d.Nodes x.Hi.toNat) ≤ 2 ^ (d.Order.length - levO d.Order x.Var.toNat - 1) := Nat.pow_le_pow_right (by omega) (by omega)
        omega
  have h1 := key d.Root.toNat 0 0 h.root.2
  have h2 : 2 ^ (d.Order.length - lvl d.Order.length (levO d.Order) d.Nodes d.Root.toNat) ≤ 2 ^ 10 := Nat.pow_le_pow_right (by omega) (by omega)
  exact Nat.le_trans h1 h2
theorem law15_DiagramValues_s {f : GFormula} {o : List Int} {state : Int} {Q : Bool → Prop} (ht : rng f.Top) (h : Q true) : law15_DiagramValues_W f o state Q := by
  refine ⟨fun x => x = false → (buildE f o = 0 ∧ f.Vars ≤ 10) ∧ 0 ≤ state ∧ state < ((2 ^ f.Vars.toNat : Nat) : Int), law15_awake_s (condB (fun hc => by cases hc) (fun _ => law15_valid_s ht (condB (fun _ hc => by cases hc) (fun hc => by cases hc)) (fun hz h10 => condB (fun hc => by cases hc) (fun _ => condT (fun _ hc => by cases hc) (fun hs => ?_))))), fun x hx => condB (fun _ => law15_awake_s h) (fun hx0 => ?_)⟩
  · obtain ⟨g, hO, hl⟩ := buildE_zero.1 hz
    have v0 := g.v0
    obtain ⟨n, hn⟩ : ∃ n : Nat, f.Vars = n := ⟨f.Vars.toNat, by omega⟩
    rw [hn]
    refine ⟨shl_ok (by omega), ?_⟩
    rw [shl_pow]
    intro hc
    have := of_decide_eq_false hc
    exact ⟨⟨hz, by omega⟩, by omega, by rw [Int.toNat_natCast]; omega⟩
  obtain ⟨⟨hz, h10⟩, hs0, hs1⟩ := hx hx0
  obtain ⟨g, hO, hl, h12, hd, hV, hE⟩ := valid_of hz h10
  obtain ⟨s, rfl⟩ : ∃ s : Nat, state = s := ⟨state.toNat, by omega⟩
  have hs : s < 2 ^ f.Vars.toNat := by omega
  have hp := dpow24 (n := f.Vars.toNat) (by omega)
  have eF : dF (canD o (fF f)) = fF f := dF_can hO hd
  have eO : (canD o (fF f)).Order = o := rfl
  refine diagram_Build_s ht (fun hc => absurd hz hc) (fun _ => by omega) (fun _ => ?_)
  refine dValue_s (fun hc => absurd hE hc) (fun _ hc => by rw [eO, hl] at hc; omega) (fun _ k hk hkl => ?_)
  obtain rfl : k = s := by omega
  rw [eF]
  have hle : (cubD (canD o (fF f))).length ≤ 1024 := cubes_1024 hV (by rw [eO]; omega)
  have p1 := (cubD_ok hV).1
  refine fVal_s g hs (dCubes_s (fun hc => absurd hE hc) (fun _ _ => ?_) (fun _ hc => by omega))
  refine condB (fun hc => by cases hc) (fun _ => condB (fun hc => by cases hc) (fun _ => condB (fun hc => by cases hc) (fun _ => condB (fun hc => by cases hc) (fun _ => condN (fun hc => absurd rfl hc) (fun _ => diagram_Check_s ?_)))))
  rw [hE]
  refine condB (fun hc => by cases hc) (fun _ => ?_)
  have hc1 := hits_one hV (s := k)
  rw [eF] at hc1
  refine loopUp (n := (cubD (canD o (fF f))).length) (fun i => (((((cubD (canD o (fF f))).take i).countP (hitC k) : Nat) : Int), (i : Int))) (fun y => y.2) 0 (fun i => by dsimp only; omega) rfl (fun i next hi hn1 => ?_) (fun next => ?_)
  · have hcl := List.countP_le_length (p := hitC k) (l := (cubD (canD o (fF f))).take i)
    rw [List.length_take] at hcl
    refine condT (fun _ => ⟨by omega, ref12_Holds_s (p1 _ (mem_at hi)) (by rw [eO]; omega) (by have := pow62 (n := f.Vars.toNat) (by omega); omega) (condB (fun hb => ⟨by unfold rng; omega, by unfold rng; omega, ?_⟩) (fun hb => ⟨by unfold rng; omega, ?_⟩))⟩) (fun hc => absurd (show (i : Int) < _ by omega) hc)
    · rw [take_snoc hi, List.countP_append] at hn1
      simp only [List.countP_cons, List.countP_nil, hb, if_true] at hn1
      exact hn1
    · rw [take_snoc hi, List.countP_append] at hn1
      simp only [List.countP_cons, List.countP_nil, hb] at hn1
      exact hn1
  · refine condT (fun hc => absurd hc (by omega)) (fun _ => ?_)
    rw [List.take_length, hc1]
    cases hv : fF f (stA k)
    · refine condB (fun hc => by cases hc) (fun _ => condB (fun _ => ?_) (fun hc => by cases hc))
      exact h
    · refine condB (fun _ => condE (fun _ => h) (fun hc => absurd rfl hc)) (fun hc => by cases hc)
end Go.Gg
