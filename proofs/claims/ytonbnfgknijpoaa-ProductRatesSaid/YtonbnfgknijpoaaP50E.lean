/- The law of the rates, whole. Conditions: the argument's words are words. -/
import Derived.Test.YtonbnfgknijpoaaP50D
namespace Go.Gg

/-- A fraction of words. -/
def WrR (a : GRat) : Prop := Words a.Num ∧ Words a.Den
def WrL (l : List GRat) : Prop := ∀ i : Nat, i < l.length → WrR (at' l (i : Int))
/-- Two words at the most. -/
def Two (a : GRat) : Prop := a.Num.length ≤ 2 ∧ a.Den.length ≤ 2
theorem Two_Fr {a : GRat} (hw : WrR a) (h : Two a) : Fr a ∧ RB 65 (valR a) := ⟨⟨hw.1, hw.2, Nat.le_trans h.1 (by omega), Nat.le_trans h.2 (by omega)⟩, RB_valR hw.1 hw.2 h.1 h.2⟩
theorem law49_Brief_s {x : GRat} {n : Int} {Q : Bool → Prop} (h : ∀ b, (b = true → Two x) → Q b) : law49_Brief_W x n Q := by
  refine condT (fun _ => condT (fun h1 => h _ fun h2 => ⟨by omega, by have := of_decide_eq_true h2; omega⟩) (fun _ => h _ fun hh => (by cases hh))) (fun _ => ?_)
  refine condT (fun h1 => condE (fun h2 => h _ fun _ => ⟨by omega, by omega⟩) (fun _ => condE (fun h2 => ⟨by omega, h _ fun _ => ⟨by omega, by omega⟩⟩) (fun _ => h _ fun hh => (by cases hh)))) (fun _ => h _ fun hh => (by cases hh))
theorem law50_short_s {l : List GRat} {m : Int} {Q : Bool → Prop} (la : l.length ≤ 9223372036854775807) (h : ∀ b, (b = true → (l.length : Int) ≤ m ∧ ∀ i : Nat, i < l.length → Two (at' l (i : Int))) → Q b) : law50_short_W l m Q := by
  refine ⟨fun x => ∃ i : Nat, x = i ∧ i ≤ l.length ∧ ∀ j : Nat, j < i → Two (at' l (j : Int)), fun x => l.length - x.toNat, ⟨0, rfl, by omega, fun j hj => absurd hj (by omega)⟩, ?_⟩
  rintro _ ⟨i, rfl, hi, hI⟩
  refine condT (fun hi2 => ⟨⟨by omega, hi2⟩, law49_Brief_s fun b hb => condB (fun h1 => h _ fun hh => (by cases hh)) (fun h1 => ⟨by unfold rng; omega, ⟨i + 1, by omega, by omega, fun j hj => ?_⟩, by dsimp only; omega⟩)⟩) (fun hi2 => h _ fun hd => ⟨of_decide_eq_true hd, fun j hj => hI j (by omega)⟩)
  rcases Nat.lt_or_ge j i with h2 | h2
  · exact hI j h2
  · obtain rfl : j = i := by omega
    exact hb (by simpa using h1)
theorem law50_ProductRates_s {x : GRates} {a b : GRat} {Q : Bool → Prop} (l1 : x.Fail.length ≤ 9223372036854775807) (l2 : x.Repair.length ≤ 9223372036854775807)
    (w1 : WrL x.Fail) (w2 : WrL x.Repair) (wa : WrR a) (wb : WrR b) (h : Q true) : law50_ProductRates_W x a b Q := by
  refine ⟨fun y => y = false → Frs 65 x.Fail ∧ Frs 65 x.Repair ∧ (Fr a ∧ RB 65 (valR a)) ∧ (Fr b ∧ RB 65 (valR b)), ?_, ?_⟩
  · refine law50_awake_s (condB (fun hh => (by cases hh)) fun _ => ?_)
    refine law50_short_s l1 fun r1 h1 => condB (fun _ hh => (by cases hh)) fun e1 => ?_
    refine law50_short_s l2 fun r2 h2 => condB (fun _ hh => (by cases hh)) fun e2 => ?_
    refine law50_short_s (by simp) fun r3 h3 e3 => ?_
    have h1 := (h1 (by simpa using e1)).2
    have h2 := (h2 (by simpa using e2)).2
    have h3 := (h3 (by simpa using e3)).2
    exact ⟨fun i hi => Two_Fr (w1 i hi) (h1 i hi), fun i hi => Two_Fr (w2 i hi) (h2 i hi), Two_Fr wa (h3 0 (by simp)), Two_Fr wb (h3 1 (by simp))⟩
  · intro y hy
    refine condB (fun _ => law50_awake_s h) fun hf => ?_
    obtain ⟨f1, f2, fa, fb⟩ := hy hf
    refine product_Stationary_s (k := 65) (by omega) (by omega) f1 f2 (ref50_Stationary_s (k := 65) (by omega) (by omega) f1 f2 ?_)
    refine product_Unavailable_s (k := 65) fa.1 fb.1 fa.2 fb.2 (by omega) (ref50_Unavailable_s (k := 65) fa.1 fb.1 fa.2 fb.2 (by omega) ?_)
    have hl := stat_lens (k := 65) (by omega) (by omega) f1 f2
    refine base_Num_s (condE (fun _ => ?_) (fun hh => absurd rfl hh))
    refine base_Rats_same hl.1 (fun i hi => ⟨Nat.le_trans (hl.2 i hi).1.2.2.1 (by omega), Nat.le_trans (hl.2 i hi).1.2.2.2 (by omega)⟩) (condB (fun _ => ?_) (fun hh => (by cases hh)))
    refine base_Num_s (condE (fun _ => ?_) (fun hh => absurd rfl hh))
    obtain ⟨q, e, hq⟩ := unav_RB (k := 65) (by omega) fa.2 fb.2
    have fq := Fr_ratOf hq (by omega)
    rw [← e] at fq
    refine base_Rat_s (Nat.le_trans fq.2.2.1 (by omega)) (Nat.le_trans fq.2.2.2 (by omega)) ?_
    rw [decide_eq_true rfl]
    exact h
end Go.Gg
