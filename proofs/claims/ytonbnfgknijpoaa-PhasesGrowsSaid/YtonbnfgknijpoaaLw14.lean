/- The law PhasesGrows, over the formula. Conditions: the arguments' words are words. -/
import Derived.Test.YtonbnfgknijpoaaM46b
import Derived.Test.YtonbnfgknijpoaaWLPhasesGrows
namespace Go.Gg
theorem andNot_zero {a b : Nat} (ha : a < 2 ^ 62) (hb : b < 2 ^ 62) (h : ∀ i, a.testBit i = true → b.testBit i = true) : bits .andNot .i64 (a : Int) (b : Int) = 0 := by
  show IntKind.i64.wrap (((BitVec.ofInt 64 (a : Int)) &&& ~~~(BitVec.ofInt 64 (b : Int))).toNat : Int) = 0
  have e : ((BitVec.ofInt 64 (a : Int)) &&& ~~~(BitVec.ofInt 64 (b : Int))) = 0#64 := by
    apply BitVec.eq_of_getLsbD_eq
    intro i hi
    have h1 : (BitVec.ofInt 64 (a : Int)).getLsbD i = a.testBit i := by rw [BitVec.getLsbD, ofInt_toNat ha]
    have h2 : (BitVec.ofInt 64 (b : Int)).getLsbD i = b.testBit i := by rw [BitVec.getLsbD, ofInt_toNat hb]
    rw [BitVec.getLsbD_and, BitVec.getLsbD_not, h1, h2]
    have := h i
    cases ha : a.testBit i <;> simp_all
  rw [e]; rfl
theorem fail_mono {l l' : List Int} {j j' : Int} (hl : l.length = l'.length) (h : ∀ i : Nat, i < l.length → at' l (i : Int) ≤ j → at' l' (i : Int) ≤ j') (i : Nat) : (failM l j).testBit i = true → (failM l' j').testBit i = true := by
  unfold failM
  rw [bset_bit, bset_bit]
  simp only [Bool.and_eq_true, decide_eq_true_eq, failP]
  exact fun hh => ⟨by omega, h i hh.1 hh.2⟩
/-- The formula never becomes false by more events. -/
def Mono (f : GFormula) : Prop := ∀ s s' : Nat, s < 4294967296 → s' < 4294967296 → (∀ i, s.testBit i = true → s'.testBit i = true) → FV f s = true → FV f s' = true
theorem cnt_mono {x : GNode} {v v' : List Bool} : ∀ n, (∀ j : Nat, j < n → at' v (at' x.Args (j : Int)) = true → at' v' (at' x.Args (j : Int)) = true) → cnt x v n ≤ cnt x v' n
  | 0, _ => Nat.le_refl _
  | n + 1, h => by
    have h1 := cnt_mono n fun j hj => h j (by omega)
    rw [cnt, cnt]
    have h2 := h n (by omega)
    by_cases hv : at' v (at' x.Args (n : Int)) = true
    · rw [if_pos hv, if_pos (h2 hv)]; omega
    · rw [if_neg hv]; omega
structure Below (f : GFormula) (mark : List Bool) : Prop where
  top : at' mark f.Top = true
  args : ∀ t : Nat, t < f.Nodes.length → at' mark (f.Vars + t) = true → ∀ j : Nat, j < (at' f.Nodes (t : Int)).Args.length → at' mark (at' (at' f.Nodes (t : Int)).Args (j : Int)) = true
theorem mono_of {f : GFormula} (g : FG f) {mark : List Bool} (hb : Below f mark) (hk : ∀ t : Nat, t < f.Nodes.length → at' mark (f.Vars + t) = true → (at' f.Nodes (t : Int)).Kind ≠ 1 ∧ (at' f.Nodes (t : Int)).Kind ≠ 5) : Mono f := by
  intro s s' _ _ hss
  have v0 := g.v0
  have key : ∀ a : Nat, (a : Int) < f.Vars + f.Nodes.length → at' mark (a : Int) = true → at' (vals f s f.Nodes.length) (a : Int) = true → at' (vals f s' f.Nodes.length) (a : Int) = true := by
    intro a
    induction a using Nat.strongRecOn with
    | _ a ih =>
      intro ha hm hv
      rcases Int.lt_or_le (a : Int) f.Vars with h1 | h1
      · rw [vals_bit (by omega) h1, inS_bit, Int.toNat_natCast] at hv ⊢
        exact hss a hv
      · obtain ⟨t, rfl⟩ : ∃ t : Nat, a = f.Vars.toNat + t := ⟨a - f.Vars.toNat, by omega⟩
        have e : ((f.Vars.toNat + t : Nat) : Int) = f.Vars + t := by omega
        rw [e] at hm hv ⊢
        have ht : t < f.Nodes.length := by omega
        have N := nodeE_ok (g.node t ht)
        have arg : ∀ (u : Nat) (j : Nat), j < (at' f.Nodes (t : Int)).Args.length → at' (vals f u t) (at' (at' f.Nodes (t : Int)).Args (j : Int)) = at' (vals f u f.Nodes.length) (at' (at' f.Nodes (t : Int)).Args (j : Int)) := fun u j hj => by
          have := N.arg j hj
          exact (vals_pre (m := t) this.1 (by omega) f.Nodes.length (by omega)).symm
        have hc : cnt (at' f.Nodes (t : Int)) (vals f s t) (at' f.Nodes (t : Int)).Args.length ≤ cnt (at' f.Nodes (t : Int)) (vals f s' t) (at' f.Nodes (t : Int)).Args.length := cnt_mono _ fun j hj => by
          rw [arg s j hj, arg s' j hj]
          have ha2 := N.arg j hj
          obtain ⟨b, hb2⟩ := Int.eq_ofNat_of_zero_le ha2.1
          have hm2 := hb.args t ht hm j hj
          rw [hb2] at hm2 ha2 ⊢
          exact ih b (by omega) (by omega) hm2
        rw [vals_node v0 ht] at hv ⊢
        unfold nodeV kindV at hv ⊢
        have hle := cnt_le (x := at' f.Nodes (t : Int)) (v := vals f s' t) (at' f.Nodes (t : Int)).Args.length
        obtain ⟨k1, k5⟩ := hk t ht hm
        have n0 := N.k0
        have n5 := N.k5
        by_cases h0 : (at' f.Nodes (t : Int)).Kind = 0
        · rw [if_pos h0] at hv ⊢; exact hv
        rw [if_neg h0, if_neg k1] at hv ⊢
        by_cases h2 : (at' f.Nodes (t : Int)).Kind = 2
        · rw [if_pos h2] at hv ⊢
          simp only [beq_iff_eq] at hv ⊢; omega
        rw [if_neg h2] at hv ⊢
        by_cases h3 : (at' f.Nodes (t : Int)).Kind = 3
        · rw [if_pos h3] at hv ⊢
          simp only [decide_eq_true_eq] at hv ⊢; omega
        rw [if_neg h3] at hv ⊢
        by_cases h4 : (at' f.Nodes (t : Int)).Kind = 4
        · rw [if_pos h4] at hv ⊢
          simp only [decide_eq_true_eq] at hv ⊢; omega
        · omega
  intro hv
  obtain ⟨a, ha⟩ := Int.eq_ofNat_of_zero_le g.top0
  have htop := g.top
  have hm := hb.top
  unfold FV at hv ⊢
  rw [ha] at hv hm htop ⊢
  exact key a htop hm hv
theorem ref08_Below_s {f : GFormula} {Q : List Bool → Prop} (g : FG f) (h : ∀ mark : List Bool, (mark.length : Int) = f.Vars + f.Nodes.length → Below f mark → Q mark) : ref08_Below_W f Q := by
  have v0 := g.v0
  have v24 := g.v24
  have n128 := g.n128
  have t0 := g.top0
  have t1 := g.top
  refine ⟨by unfold rng; omega, ⟨by omega, by omega, by omega, by omega⟩, ⟨t0, by omega⟩, by unfold rng; omega, ?_⟩
  refine ⟨fun y => ∃ k : Nat, y.1 = (k : Int) - 1 ∧ k ≤ f.Nodes.length ∧ (y.2.length : Int) = f.Vars + f.Nodes.length ∧ at' y.2 f.Top = true ∧ ∀ t : Nat, k ≤ t → t < f.Nodes.length → at' y.2 (f.Vars + t) = true → ∀ j : Nat, j < (at' f.Nodes (t : Int)).Args.length → at' y.2 (at' (at' f.Nodes (t : Int)).Args (j : Int)) = true, fun y => (y.1 + 1).toNat, ?_, ?_⟩
  · refine ⟨f.Nodes.length, by simp, Nat.le_refl _, by rw [set_len, len_rep']; omega, ?_, fun t h1 h2 => by omega⟩
    obtain ⟨a, ha⟩ := Int.eq_ofNat_of_zero_le t0
    rw [ha, at_set (by rw [len_rep']; omega), if_pos rfl]
  · rintro ⟨x, mark⟩ ⟨k, hx, hk, hl, htop, hI⟩
    dsimp only at hx hl htop hI
    subst hx
    refine condT (fun hc => ?_) (fun hc => ?_)
    · obtain ⟨t, rfl⟩ : ∃ t, k = t + 1 := ⟨k - 1, by omega⟩
      have ex : ((t + 1 : Nat) : Int) - 1 = (t : Int) := by omega
      rw [ex]
      have ht : t < f.Nodes.length := by omega
      refine ⟨by unfold rng; omega, ⟨by omega, by omega⟩, condB (fun hm => ⟨by unfold rng; omega, ⟨t, by dsimp only, by omega, hl, htop, fun u hu hu2 hmu => ?_⟩, by dsimp only; omega⟩) (fun hm => ⟨⟨by omega, by omega⟩, ?_⟩)⟩
      · rcases Nat.lt_or_ge t u with h1 | h1
        · exact hI u h1 hu2 hmu
        · obtain rfl : u = t := by omega
          simp only [Bool.not_eq_true'] at hm
          rw [hm] at hmu; cases hmu
      · have N := nodeE_ok (g.node t ht)
        have hle := N.len
        refine loopInv (n := (at' f.Nodes (t : Int)).Args.length) (fun j y => y.1 = (j : Int) ∧ (y.2.length : Int) = f.Vars + f.Nodes.length ∧ (∀ a : Nat, at' mark (a : Int) = true → at' y.2 (a : Int) = true) ∧ (∀ u : Nat, t < u → u < f.Nodes.length → at' y.2 (f.Vars + u) = true → at' mark (f.Vars + u) = true) ∧ ∀ i : Nat, i < j → at' y.2 (at' (at' f.Nodes (t : Int)).Args (i : Int)) = true) (fun y => y.1) 0 (fun j y h => by rw [h.1]; simp) ⟨rfl, hl, fun _ h => h, fun _ _ _ h => h, fun i hi => absurd hi (by omega)⟩ ?_ ?_
        · rintro j ⟨y1, y2⟩ next2 hj ⟨hy1, hyl, hy3, hy4, hy5⟩ hn2
          dsimp only at hy1 hyl hy3 hy4 hy5
          subst hy1
          have ha := N.arg j hj
          obtain ⟨b, hb⟩ := Int.eq_ofNat_of_zero_le ha.1
          rw [hb] at ha
          have hbl : b < y2.length := by omega
          have mono : ∀ a : Nat, at' y2 (a : Int) = true → at' (set' y2 (b : Int) true) (a : Int) = true := fun a h => by
            rw [at_set hbl]; split
            · rfl
            · exact h
          refine condT (fun _ => ⟨⟨by omega, by omega⟩, ?_⟩) (fun hc => absurd (show (j : Int) < ((at' f.Nodes (t : Int)).Args.length : Int) by omega) hc)
          rw [hb]
          refine ⟨⟨by omega, by omega⟩, by unfold rng; omega, hn2 _ ⟨by dsimp only; omega, by dsimp only; rw [set_len]; exact hyl, fun a h => mono a (hy3 a h), fun u hu hu2 hmu => ?_, fun i hi => ?_⟩⟩
          · have e : f.Vars + (u : Int) = ((f.Vars.toNat + u : Nat) : Int) := by omega
            dsimp only at hmu
            rw [e, at_set hbl, if_neg (by omega), ← e] at hmu
            exact hy4 u hu hu2 hmu
          · rcases Nat.lt_or_ge i j with h1 | h1
            · have hai := N.arg i (by omega)
              obtain ⟨c, hc⟩ := Int.eq_ofNat_of_zero_le hai.1
              have := hy5 i h1
              dsimp only
              rw [hc] at this ⊢
              exact mono c this
            · obtain rfl : i = j := by omega
              dsimp only
              rw [hb, at_set hbl, if_pos rfl]
        · rintro ⟨y1, y2⟩ next2 ⟨hy1, hyl, hy3, hy4, hy5⟩
          dsimp only at hy1 hyl hy3 hy4 hy5
          subst hy1
          refine condT (fun hc => absurd hc (by omega)) (fun _ => ⟨by unfold rng; omega, ⟨t, by dsimp only, by omega, hyl, ?_, fun u hu hu2 hmu j hj => ?_⟩, by dsimp only; omega⟩)
          · obtain ⟨a, ha⟩ := Int.eq_ofNat_of_zero_le t0
            dsimp only
            rw [ha] at htop ⊢
            exact hy3 a htop
          · rcases Nat.lt_or_ge t u with h1 | h1
            · have := hI u h1 hu2 (hy4 u h1 hu2 hmu) j hj
              have hau := (nodeE_ok (g.node u hu2)).arg j hj
              obtain ⟨c, hc⟩ := Int.eq_ofNat_of_zero_le hau.1
              dsimp only
              rw [hc] at this ⊢
              exact hy3 c this
            · obtain rfl : u = t := by omega
              exact hy5 j hj
    · exact h mark hl ⟨htop, fun t ht => hI t (by omega) ht⟩
theorem ref33_Coherent_s {f : GFormula} {Q : Bool → Prop} (g : FG f) (h : ∀ b, (b = true → Mono f) → Q b) : ref33_Coherent_W f Q := by
  have v0 := g.v0
  have v24 := g.v24
  have n128 := g.n128
  refine ref08_Below_s g fun mark hl hb => ?_
  refine scanW (n := f.Nodes.length) (fun t => ¬ (at' mark (f.Vars + (t : Int)) = true → (at' f.Nodes (t : Int)).Kind ≠ 1 ∧ (at' f.Nodes (t : Int)).Kind ≠ 5)) (by omega) (fun t next ht hI hnx => ?_) (fun hall => ?_)
  · have hb2 : (0 : Int) ≤ (t : Int) ∧ (t : Int) < (f.Nodes.length : Int) := ⟨by omega, by omega⟩
    refine ⟨by unfold rng; omega, ⟨by omega, by omega⟩, condB (fun hm => ⟨hb2, condE (fun _ => h false fun hh => by cases hh) (fun k1 => ⟨hb2, condE (fun _ => h false fun hh => by cases hh) (fun k5 => hnx fun hn => hn fun _ => ⟨k1, k5⟩)⟩)⟩) (fun hm => hnx fun hn => hn fun hm2 => by rw [hm] at hm2; cases hm2)⟩
  · exact h true fun _ => mono_of g hb fun t ht => Classical.not_not.1 (hall t ht)
theorem fails_le {m : GMission} {l l' : List Int} (o : OkM m) (h1 : OkH m l) (h2 : OkH m l') (hle : ∀ i : Nat, i < l.length → at' l (i : Int) ≤ at' l' (i : Int)) (hm : ∀ j : Nat, j < m.Phases.length → Mono (at' m.Phases (j : Int))) : failsM m l ≤ failsM m l' := by
  have k1 := fstT_le (g := fun j => FV (at' m.Phases (j : Int)) (failM l (j : Int))) m.Phases.length
  rcases Nat.lt_or_ge (failsM m l') m.Phases.length with h | h
  · have ht : FV (at' m.Phases (failsM m l' : Int)) (failM l' (failsM m l' : Int)) = true := fstT_at (g := fun j => FV (at' m.Phases (j : Int)) (failM l' (j : Int))) h
    have hn := hm _ h _ _ (o.small h2 _) (o.small h1 _) (fail_mono (by rw [h1.1, h2.1]) fun i hi hh => Int.le_trans (hle i (by rw [h1.1, ← h2.1]; exact hi)) hh) ht
    rcases Nat.lt_or_ge (failsM m l') (failsM m l) with h3 | h3
    · have := fstT_before (g := fun j => FV (at' m.Phases (j : Int)) (failM l (j : Int))) h3
      rw [hn] at this; cases this
    · exact h3
  · exact Nat.le_trans k1 h
def prevM (l : List Int) (j : Nat) : Nat := if j = 0 then 0 else failM l ((j : Int) - 1)
theorem law46_PhasesGrows_s {m : GMission} {l later : List Int} {Q : Bool → Prop} (w : WrM m) (ll : l.length ≤ 9223372036854775807) (h : Q true) : law46_PhasesGrows_W m l later Q := by
  refine ⟨fun y => y = false → FrM m ∧ histE m l = 0, ?_, ?_⟩
  · refine law46_awake_s (condB (fun hh => by cases hh) fun _ => ?_)
    refine law46_large_s w fun b hb => condB (fun _ hh => by cases hh) fun e => condT (fun _ hh => by cases hh) fun _ => ref46_CheckHistory_s w (hb e) ll fun hh => ⟨hb e, by simpa using hh⟩
  · intro y hy
    refine condB (fun _ => law46_awake_s h) fun hf => ?_
    obtain ⟨f, he⟩ := hy hf
    obtain ⟨hm, hh⟩ := okH he
    have o := okM w f hm
    have hp := o.p24
    have hk6 := o.k6
    have hl24 : l.length ≤ 24 := by rw [hh.1]; exact hp
    refine loopUp (n := m.Phases.length) (fun j => ((prevM l j : Int), (j : Int))) (fun y => y.2) 0 (fun j => by simp) rfl ?_ ?_
    · intro j next hj hn
      refine condT (fun _ => phases_Failed_s w f ll (fun hne => absurd he hne) (fun _ hbad => by omega) fun _ _ => ?_) (fun hc => absurd (show (j : Int) < (m.Phases.length : Int) by omega) hc)
      have s1 : prevM l j < 2 ^ 62 := by
        unfold prevM
        split
        · decide
        · exact Nat.lt_trans (failM_lt) (pow62 (by omega))
      have s2 : failM l (j : Int) < 2 ^ 62 := Nat.lt_trans (failM_lt) (pow62 (by omega))
      have hz := andNot_zero s1 s2 fun i hi => by
        unfold prevM at hi
        split at hi
        · simp at hi
        · exact fail_mono rfl (fun i _ h => by omega) i hi
      rw [hz]
      refine condB (fun hh => by cases hh) fun _ => condN (fun hh => absurd rfl hh) fun _ => ⟨by unfold rng; omega, ?_⟩
      have e : prevM l (j + 1) = failM l (j : Int) := by
        unfold prevM
        rw [if_neg (by omega)]
        congr 1; omega
      rw [e] at hn
      exact hn
    intro next
    refine condT (fun hc => absurd hc (by omega)) fun _ => ?_
    refine scanW (fun j => ¬ Mono (at' m.Phases (j : Int))) w.lf (fun j next2 hj hI hnx => ?_) (fun hall => ?_)
    · exact ⟨⟨by omega, by omega⟩, ref33_Coherent_s (o.fg j hj).1 fun b hb => condB (fun _ => h) fun hb2 => hnx fun hn => hn (hb (by simpa using hb2))⟩
    · have hmono : ∀ j : Nat, j < m.Phases.length → Mono (at' m.Phases (j : Int)) := fun j hj => Classical.not_not.1 (hall j hj)
      refine ⟨by simp; omega, fun y => OkH m y ∧ ∀ i : Nat, i < l.length → at' l (i : Int) ≤ at' y (i : Int), ?_, ?_⟩
      · refine loopInv (n := l.length) (fun i y => y.1 = (i : Int) ∧ y.2.length = l.length ∧ ∀ a : Nat, a < l.length → at' l (a : Int) ≤ at' y.2 (a : Int) ∧ at' y.2 (a : Int) ≤ (m.Phases.length : Int)) (fun y => y.1) 0 (fun i y h => by rw [h.1]; simp) ⟨rfl, by simp, fun a ha => ⟨Int.le_refl _, (hh.2 a ha).2⟩⟩ ?_ ?_
        · rintro i ⟨y1, y2⟩ next2 hi ⟨hy1, hy2, hy3⟩ hn2
          dsimp only at hy1 hy2 hy3
          subst hy1
          have fin : OkH m y2 ∧ ∀ i : Nat, i < l.length → at' l (i : Int) ≤ at' y2 (i : Int) := ⟨⟨by rw [hy2, hh.1], fun a ha => by
            have h1 := hy3 a (by omega)
            have h2 := hh.2 a (by omega)
            omega⟩, fun a ha => (hy3 a ha).1⟩
          refine condT (fun _ => condT (fun hlat => ⟨⟨by omega, by omega⟩, ⟨by omega, hlat⟩, ?_⟩) (fun _ => fin)) (fun _ => fin)
          refine ⟨_, rfl, ⟨by omega, by omega⟩, by unfold rng; omega, hn2 _ ⟨by dsimp only; omega, by dsimp only; rw [set_len]; exact hy2, fun a ha => ?_⟩⟩
          dsimp only
          rw [at_set (by omega)]
          have h1 := hy3 a ha
          split
          · rename_i hai
            subst hai
            have h2 := hh.2 a ha
            omega
          · exact h1
        · rintro ⟨y1, y2⟩ next2 ⟨hy1, hy2, hy3⟩
          dsimp only at hy1 hy2 hy3
          subst hy1
          exact condT (fun hc => absurd hc (by omega)) fun _ => ⟨⟨by rw [hy2, hh.1], fun a ha => by
            have h1 := hy3 a (by omega)
            have h2 := hh.2 a (by omega)
            omega⟩, fun a ha => (hy3 a ha).1⟩
      · rintro z ⟨hz, hz2⟩
        refine phases_Fails_s w f ll (fun hne => absurd he hne) fun _ => phases_Fails_s w f (by rw [hz.1]; omega) (fun hne => absurd (okH_E hm hz) hne) fun _ => condB (fun _ => condB (fun _ => ?_) (fun hh => by cases hh)) (fun hh => by cases hh)
        have := fails_le o hh hz hz2 hmono
        rw [decide_eq_true (by omega)]
        exact h
end Go.Gg
