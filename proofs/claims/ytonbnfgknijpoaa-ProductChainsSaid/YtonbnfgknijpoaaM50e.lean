/- Chains of components: they are accepted. Conditions: the numbers fit the machine. -/
import Derived.Test.YtonbnfgknijpoaaM50d
import Derived.Test.YtonbnfgknijpoaaWPchain
namespace Go.Gg

def lexM (a b : GMove) : Prop := a.From < b.From ∨ (a.From = b.From ∧ a.To < b.To)
theorem mvs_mem {f r : List GRat} {n : Nat} : ∀ S, ∀ m ∈ mvs f r n S, ∃ s i, s < S ∧ i < n ∧ m = itm f r s i ∧ good f r s i = true
  | 0, m, hm => by simp [mvs] at hm
  | S + 1, m, hm => by
    rw [mvs, List.mem_append, List.mem_append] at hm
    rcases hm with hm | hm | hm
    · obtain ⟨s, i, h1, h2⟩ := mvs_mem S m hm
      exact ⟨s, i, by omega, h2⟩
    · obtain ⟨i, _, h2, _, h4, h5⟩ := dn_To n (Nat.le_refl n) m hm
      exact ⟨S, i, by omega, h2, h4, h5⟩
    · obtain ⟨i, h2, _, h4, h5⟩ := up_To n m hm
      exact ⟨S, i, by omega, h2, h4, h5⟩
theorem block_From {f r : List GRat} {s n : Nat} {m : GMove} (hm : m ∈ dn f r s n n ++ up f r s n) : m.From = (s : Int) := by
  rw [List.mem_append] at hm
  rcases hm with hm | hm
  · obtain ⟨i, _, _, _, rfl, _⟩ := dn_To n (Nat.le_refl n) m hm; rfl
  · obtain ⟨i, _, _, rfl, _⟩ := up_To n m hm; rfl
theorem mvs_srt {f r : List GRat} {n : Nat} : ∀ S, (mvs f r n S).Pairwise lexM
  | 0 => List.Pairwise.nil
  | S + 1 => by
    rw [mvs, List.pairwise_append]
    refine ⟨mvs_srt S, ?_, fun a ha b hb => ?_⟩
    · refine (all_srt (f := f) (r := r) (s := S) (n := n)).imp_of_mem fun {a b} ha hb h => Or.inr ⟨?_, h⟩
      rw [block_From ha, block_From hb]
    · obtain ⟨s, i, h1, _, rfl, _⟩ := mvs_mem S a ha
      refine Or.inl ?_
      rw [block_From hb]
      show (s : Int) < (S : Int)
      omega
theorem at_getElem {α : Type} [Inhabited α] {l : List α} {i : Nat} (h : i < l.length) : at' l (i : Int) = l[i] := by
  simp [at', List.getD_eq_getElem?_getD, List.getElem?_eq_getElem h]
theorem at_mem' {α : Type} [Inhabited α] {l : List α} {i : Nat} (h : i < l.length) : at' l (i : Int) ∈ l := by
  rw [at_getElem h]; exact List.getElem_mem h
theorem chain_state_s {c : GChain} {x : Int} {Q : Bool → Prop} (h0 : 0 ≤ x) (h1 : x < c.States) (h : Q true) : chain_state_W c x Q :=
  condT (fun _ => by rw [decide_eq_true h1]; exact h) (fun hh => absurd h0 hh)
theorem chain_before_s {a b : GMove} {Q : Bool → Prop} (hl : lexM a b) (h : Q true) : chain_before_W a b Q := by
  refine condT (fun _ => h) (fun hc => condE (fun he => ?_) (fun he => ?_))
  · rcases hl with h1 | h1
    · exact absurd h1 hc
    · rw [decide_eq_true h1.2]; exact h
  · rcases hl with h1 | h1
    · exact absurd h1 hc
    · exact absurd h1.1 he
theorem chain_Check_s {c : GChain} {Q : Option Int → Prop} (s1 : 1 ≤ c.States) (s2 : c.States ≤ 256) (hd : (c.Down.length : Int) = c.States) (hst : c.Start = 0) (hlen : c.Moves.length ≤ 1000000)
    (hm : ∀ i : Nat, i < c.Moves.length → (0 ≤ (at' c.Moves (i : Int)).From ∧ (at' c.Moves (i : Int)).From < c.States) ∧ (0 ≤ (at' c.Moves (i : Int)).To ∧ (at' c.Moves (i : Int)).To < c.States) ∧ (at' c.Moves (i : Int)).From ≠ (at' c.Moves (i : Int)).To ∧
      Fr (at' c.Moves (i : Int)).Rate ∧ okR (at' c.Moves (i : Int)).Rate = true ∧ 0 < sgnR (valR (at' c.Moves (i : Int)).Rate))
    (hs : c.Moves.Pairwise lexM) (h : Q none) : chain_Check_W c Q := by
  refine ⟨fun y => y = false, ?_, ?_⟩
  · exact condT (fun hh => by omega) (fun _ => decide_eq_false (by omega))
  rintro _ rfl
  refine condB (fun hh => by cases hh) (fun _ => condN (fun hh => absurd hd hh) (fun _ => chain_state_s (by omega) (by omega) (condB (fun hh => by cases hh) (fun _ => ?_))))
  refine scanW (fun _ => False) (by omega) (fun i next hi _ hnx => ⟨⟨by omega, by omega⟩, ?_⟩) (fun _ => h)
  obtain ⟨⟨f0, f1⟩, ⟨t0, t1⟩, hne, hfr, hok, hsg⟩ := hm i hi
  refine ⟨fun y => y = false, chain_state_s f0 f1 (condB (fun hh => by cases hh) (fun _ => chain_state_s t0 t1 rfl)), ?_⟩
  rintro _ rfl
  refine condB (fun hh => by cases hh) (fun _ => condE (fun hh => absurd hh hne) (fun _ => ?_))
  refine ⟨fun y => y = false, rational_Valid_s hfr ?_, ?_⟩
  · rw [hok]
    exact condB (fun hh => by cases hh) (fun _ => rational_Sign_s hfr (decide_eq_false (by omega)))
  rintro _ rfl
  refine condB (fun hh => by cases hh) (fun _ => ⟨fun y => y = false, ?_, ?_⟩)
  · refine condT (fun hp => ⟨by unfold rng; omega, ⟨by omega, by omega⟩, true, ?_, rfl⟩) (fun _ => rfl)
    obtain ⟨j, rfl⟩ : ∃ j, i = j + 1 := ⟨i - 1, by omega⟩
    have e : (((j + 1 : Nat) : Int) - 1) = (j : Int) := by omega
    rw [e, at_getElem (show j < c.Moves.length by omega), at_getElem hi]
    exact chain_before_s (List.pairwise_iff_getElem.1 hs j (j + 1) (by omega) hi (by omega)) rfl
  · rintro _ rfl
    exact condB (fun hh => by cases hh) (fun _ => hnx (fun hh => hh))
theorem base_Bools_same {a : List Bool} {Q : Bool → Prop} (la : a.length ≤ 1099511627776) (h : Q true) : base_Bools_W a a Q :=
  condN (fun hh => absurd rfl hh) (fun _ => scanW (fun _ => False) (by omega) (fun i next hi _ hnx => ⟨⟨by omega, by omega⟩, ⟨by omega, by omega⟩, condN (fun hh => absurd rfl hh) (fun _ => hnx (fun hh => hh))⟩) (fun _ => h))
theorem base_Chain_same {a : GChain} {Q : Bool → Prop} (ld : a.Down.length ≤ 1099511627776) (lm : a.Moves.length ≤ 1099511627776) (hm : ∀ i : Nat, i < a.Moves.length → Fr (at' a.Moves (i : Int)).Rate) (h : Q true) : base_Chain_W a a Q := by
  refine condN (fun hh => absurd rfl hh) (fun _ => condN (fun hh => absurd rfl hh) (fun _ => base_Bools_same ld (condB (fun hh => by cases hh) (fun _ => condN (fun hh => absurd rfl hh) (fun _ => ?_)))))
  refine scanW (fun _ => False) (by omega) (fun i next hi _ hnx => ?_) (fun _ => h)
  have fr := hm i hi
  refine ⟨⟨by omega, by omega⟩, ⟨by omega, by omega⟩, condN (fun hh => absurd rfl hh) (fun _ => ⟨⟨by omega, by omega⟩, ⟨by omega, by omega⟩, condN (fun hh => absurd rfl hh) (fun _ => ⟨⟨by omega, by omega⟩, ⟨by omega, by omega⟩, true, base_Rat_s (Nat.le_trans fr.2.2.1 (by omega)) (Nat.le_trans fr.2.2.2 (by omega)) (decide_eq_true rfl), condB (fun hh => by cases hh) (fun _ => hnx (fun hh => hh))⟩)⟩)⟩
theorem chainM_moves {f r : List GRat} {φ : GFormula} {k : Nat} (hf : Frs k f) (hr : Frs k r) (hl : f.length = r.length) (hall : ∀ i : Nat, i < f.length → (rateB (at' f (i : Int)) = true ∧ rateB (at' r (i : Int)) = true)) {S : Nat} (hS : S ≤ 2 ^ f.length) :
    ∀ i : Nat, i < (mvs f r f.length S).length → (0 ≤ (at' (mvs f r f.length S) (i : Int)).From ∧ (at' (mvs f r f.length S) (i : Int)).From < ((2 ^ f.length : Nat) : Int)) ∧ (0 ≤ (at' (mvs f r f.length S) (i : Int)).To ∧ (at' (mvs f r f.length S) (i : Int)).To < ((2 ^ f.length : Nat) : Int)) ∧ (at' (mvs f r f.length S) (i : Int)).From ≠ (at' (mvs f r f.length S) (i : Int)).To ∧
      Fr (at' (mvs f r f.length S) (i : Int)).Rate ∧ okR (at' (mvs f r f.length S) (i : Int)).Rate = true ∧ 0 < sgnR (valR (at' (mvs f r f.length S) (i : Int)).Rate) := by
  intro i hi
  obtain ⟨s, j, h1, h2, h3, h4⟩ := mvs_mem S _ (at_mem' hi)
  rw [h3]
  have hs : s < 2 ^ f.length := Nat.lt_of_lt_of_le h1 hS
  have ht := flp_lt hs h2
  have hne : flp s j ≠ s := by
    have hj : 0 < 2 ^ j := Nat.pow_pos (by omega)
    rcases bit01 s j with hb | hb
    · have := flp_down hb; omega
    · have := flp_up hb; omega
  refine ⟨⟨Int.natCast_nonneg s, Int.ofNat_lt.2 hs⟩, ⟨Int.natCast_nonneg _, Int.ofNat_lt.2 ht⟩, fun e => hne (Int.ofNat.inj e).symm, ?_, ?_, of_decide_eq_true h4⟩
  · show Fr (rateAt f r s j)
    unfold rateAt
    split
    · exact (hr j (by omega)).1
    · exact (hf j h2).1
  · show okR (rateAt f r s j) = true
    unfold rateAt
    split
    · exact rateB_ok (hall j h2).2
    · exact rateB_ok (hall j h2).1
end Go.Gg
