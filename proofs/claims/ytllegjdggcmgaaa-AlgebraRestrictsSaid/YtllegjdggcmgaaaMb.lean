/- Tables of nodes: the program's functions that make nodes and choose. Conditions: none. -/
import Derived.Test.YtllegjdggcmgaaaMa
import Derived.Test.YtllegjdggcmgaaaWa
/- Tables of nodes: the program's functions that make nodes and choose. Conditions: none. -/
namespace Go.Gg
/-- A table of an order. -/
structure TS (o place : List Int) (nodes : List GDNode) (unique memo : GMap Int) : Prop where
  ord : Or14 o
  pl : place.length = o.length
  pl2 : ∀ v : Nat, v < o.length → at' place (v : Int) = (levO o v : Int)
  tb : TB o.length (levO o) nodes unique memo
abbrev lvO (o : List Int) (nodes : List GDNode) (r : Int) : Nat := lvl o.length (levO o) nodes r.toNat
section
variable {o place : List Int} {nodes : List GDNode} {unique memo : GMap Int}
theorem TS.wt (h : TS o place nodes unique memo) : WT o.length (levO o) nodes := h.tb.wt
theorem TS.at (h : TS o place nodes unique memo) {r : Int} (hr : Vd nodes r) (h2 : 2 ≤ r) : nodes[(r - 2).toNat]? = some (at' nodes (r - 2)) ∧ (0 ≤ (at' nodes (r - 2)).Var ∧ (at' nodes (r - 2)).Var < o.length) ∧ (0 ≤ (at' nodes (r - 2)).Lo ∧ (at' nodes (r - 2)).Lo < r) ∧ (0 ≤ (at' nodes (r - 2)).Hi ∧ (at' nodes (r - 2)).Hi < r) ∧
    lvO o nodes r = levO o (at' nodes (r - 2)).Var.toNat ∧ lvO o nodes r < lvO o nodes (at' nodes (r - 2)).Lo ∧ lvO o nodes r < lvO o nodes (at' nodes (r - 2)).Hi := by
  have h0 := hr.1
  have h1 := hr.2
  have hx := at_get (N := nodes) (i := (r - 2).toNat) (by omega)
  rw [show (((r - 2).toNat : Nat) : Int) = r - 2 by omega] at hx
  obtain ⟨a, b, c, d, e, f⟩ := h.wt.nd _ _ hx
  have hl : lvO o nodes r = levO o (at' nodes (r - 2)).Var.toNat := by
    have := lvl_at (n := o.length) (lev := levO o) hx
    rw [show 2 + (r - 2).toNat = r.toNat by omega] at this
    exact this
  exact ⟨hx, a, ⟨by omega, by omega⟩, ⟨by omega, by omega⟩, hl, by rw [hl]; exact e, by rw [hl]; exact f⟩
theorem level_s (h : TS o place nodes unique memo) (hb : nodes.length ≤ 1099511627776) {r : Int} (hr : Vd nodes r) {Q : Int → Prop} (hQ : Q (lvO o nodes r : Int)) : decision_Table__level__e_W r o place nodes unique memo Q := by
  have h0 := hr.1
  have h1 := hr.2
  refine condT (fun h2 => ?_) (fun h2 => ?_)
  · rw [show lvO o nodes r = o.length from lvl_lt (by omega)] at hQ; exact hQ
  · obtain ⟨_, a, _, _, e, _, _⟩ := h.at hr (by omega)
    have hp := h.pl
    have := h.pl2 (at' nodes (r - 2)).Var.toNat (by omega)
    rw [show (((at' nodes (r - 2)).Var.toNat : Nat) : Int) = (at' nodes (r - 2)).Var by omega] at this
    refine ⟨by unfold rng; omega, ⟨by omega, by omega⟩, ⟨by omega, by omega⟩, ?_⟩
    rw [this, ← e]
    exact hQ
/-- A reference with the event at a level set. -/
def kid (o : List Int) (nodes : List GDNode) (r : Int) (L : Nat) (b : Bool) : Int := if lvO o nodes r = L then (bif b then (at' nodes (r - 2)).Hi else (at' nodes (r - 2)).Lo) else r
theorem Kids_s (h : TS o place nodes unique memo) (hb : nodes.length ≤ 1099511627776) {r : Int} (hr : Vd nodes r) {L : Nat} (hL : L < o.length) {Q : Int → Int → Prop} (hQ : Q (kid o nodes r L false) (kid o nodes r L true)) : decision_Table__Kids__e_W r (L : Int) o place nodes unique memo Q := by
  have h0 := hr.1
  have h1 := hr.2
  refine level_s h hb hr (condN (fun hc => ?_) (fun hc => ?_))
  · rw [kid, kid, if_neg (by omega), if_neg (by omega)] at hQ; exact hQ
  · have h2 : 2 ≤ r := by
      by_cases h2 : r < 2
      · rw [show lvO o nodes r = o.length from lvl_lt (by omega)] at hc; omega
      · omega
    rw [kid, kid, if_pos (by omega), if_pos (by omega)] at hQ
    exact ⟨by unfold rng; omega, ⟨by omega, by omega⟩, hQ⟩
theorem kid_vd (h : TS o place nodes unique memo) {r : Int} (hr : Vd nodes r) {L : Nat} (hL : L < o.length) (b : Bool) : Vd nodes (kid o nodes r L b) := by
  have h0 := hr.1
  have h1 := hr.2
  unfold kid
  split
  · rename_i hc
    have h2 : 2 ≤ r := by
      by_cases h2 : r < 2
      · rw [show lvO o nodes r = o.length from lvl_lt (by omega)] at hc; omega
      · omega
    obtain ⟨_, _, c, d, _⟩ := h.at hr h2
    cases b
    · exact ⟨c.1, by simp only [cond_false]; omega⟩
    · exact ⟨d.1, by simp only [cond_true]; omega⟩
  · exact hr
theorem kid_lvl (h : TS o place nodes unique memo) {r : Int} (hr : Vd nodes r) {L : Nat} (hL : L < o.length) (hLr : L ≤ lvO o nodes r) (b : Bool) : L + 1 ≤ lvO o nodes (kid o nodes r L b) := by
  have h0 := hr.1
  have h1 := hr.2
  unfold kid
  split
  · rename_i hc
    have h2 : 2 ≤ r := by
      by_cases h2 : r < 2
      · rw [show lvO o nodes r = o.length from lvl_lt (by omega)] at hc; omega
      · omega
    obtain ⟨_, _, _, _, _, f, g⟩ := h.at hr h2
    cases b
    · simp only [cond_false]; omega
    · simp only [cond_true]; omega
  · rename_i hc; omega
theorem kid_dn (h : TS o place nodes unique memo) {r : Int} (hr : Vd nodes r) {v : Nat} (hv : v < o.length) (hLr : levO o v ≤ lvO o nodes r) (b : Bool) (σ : Asg) : dn nodes (kid o nodes r (levO o v) b) σ = dn nodes r (setA σ v b) := by
  have h0 := hr.1
  have h1 := hr.2
  have hlv := (h.ord.at_lev hv).1
  unfold kid
  split
  · rename_i hc
    have h2 : 2 ≤ r := by
      by_cases h2 : r < 2
      · rw [show lvO o nodes r = o.length from lvl_lt (by omega)] at hc; omega
      · omega
    obtain ⟨hx, a, c, d, e, _, _⟩ := h.at hr h2
    have hvv : (at' nodes (r - 2)).Var.toNat = v := h.ord.ord.lv.inj _ _ (by omega) hv (by omega)
    have := h.wt.den_cof hx σ b
    rw [hvv, show 2 + (r - 2).toNat = r.toNat by omega] at this
    unfold dn
    rw [this]
    cases b <;> rfl
  · rename_i hc
    exact (h.wt.den_set h1 (by show levO o v < lvO o nodes r; omega) σ).symm
theorem beq_dec {a b : Int} : (a == b) = decide (a = b) := by rw [Bool.eq_iff_iff]; simp
theorem vd_dep (h : TS o place nodes unique memo) {r : Int} (hr : Vd nodes r) {l : Nat} (hl : l ≤ lvl o.length (levO o) nodes r.toNat) : Dep (dn nodes r) ((natO o).drop l) :=
  (h.wt.dep h.ord.ord hr.2).sub fun v hv => h.ord.ord.mem.2 ⟨(h.ord.ord.mem.1 hv).1, by have := (h.ord.ord.mem.1 hv).2; omega⟩
theorem lvl_of_dep (h : TS o place nodes unique memo) {r : Int} (hr : Vd nodes r) {l : Nat} (hl : l ≤ o.length) (hd : Dep (dn nodes r) ((natO o).drop l)) : l ≤ lvO o nodes r := h.wt.lvl_ge h.ord.ord hr.2 hl hd
/-- The reference of a node. -/
theorem Make_s (h : TS o place nodes unique memo) (hb : nodes.length + 1 ≤ 1099511627776) {v lo hi : Int} (hv : 0 ≤ v ∧ v < o.length) (hlo : Vd nodes lo) (hhi : Vd nodes hi) (h1 : levO o v.toNat < lvO o nodes lo) (h2 : levO o v.toNat < lvO o nodes hi) :
    ∃ nodes' unique' r, (TS o place nodes' unique' memo ∧ Pre nodes nodes' ∧ Vd nodes' r ∧ (∀ σ, dn nodes' r σ = bif σ v.toNat then dn nodes hi σ else dn nodes lo σ) ∧ nodes'.length ≤ nodes.length + 1) ∧
      ∀ Q : List GDNode → GMap Int → Int → Prop, Q nodes' unique' r → decision_Table__Make__e2_W v lo hi o place nodes unique memo Q := by
  by_cases he : lo = hi
  · exact ⟨nodes, unique, lo, ⟨h, Pre.refl _, hlo, fun σ => by rw [← he]; cases σ v.toNat <;> rfl, by omega⟩, fun Q hQ => condE (fun _ => hQ) (fun hc => absurd he hc)⟩
  cases hm : mget unique [v, lo, hi] with
  | some r =>
    obtain ⟨a, b⟩ := h.tb.make_old hm
    refine ⟨nodes, unique, r, ⟨h, Pre.refl _, a, b, by omega⟩, fun Q hQ => condE (fun hc => absurd hc he) (fun _ => condB (fun hc => ?_) (fun _ => ?_))⟩
    · rw [hm] at hc; cases hc
    · rw [hm]; exact hQ
  | none =>
    obtain ⟨a, b, c⟩ := h.tb.make_new hv hlo hhi he h1 h2 hm
    refine ⟨_, _, _, ⟨⟨h.ord, h.pl, h.pl2, a⟩, ⟨_, rfl⟩, b, c, by simp⟩, fun Q hQ => condE (fun hc => absurd hc he) (fun _ => condB (fun _ => ⟨by unfold rng; omega, by rw [List.length_append, List.length_singleton]; omega, hQ⟩) (fun hc => ?_))⟩
    rw [hm] at hc; cases hc
/-- The reference of a choice. -/
theorem Choose_s : ∀ (k fu : Nat) {nodes : List GDNode} {unique memo : GMap Int} {c a b : Int}, k < fu → TS o place nodes unique memo → nodes.length + 2 ^ k ≤ 1099511627776 → Vd nodes c → Vd nodes a → Vd nodes b →
    o.length ≤ k + lvO o nodes c → o.length ≤ k + lvO o nodes a → o.length ≤ k + lvO o nodes b →
    ∃ nodes' unique' memo' r, (TS o place nodes' unique' memo' ∧ Pre nodes nodes' ∧ Vd nodes' r ∧ (∀ σ, dn nodes' r σ = bif dn nodes c σ then dn nodes a σ else dn nodes b σ) ∧ nodes'.length + 1 ≤ nodes.length + 2 ^ k) ∧
      ∀ Q : List GDNode → GMap Int → GMap Int → Int → Prop, Q nodes' unique' memo' r → decision_Table__Choose__e_W fu c a b o place nodes unique memo Q := by
  intro k
  induction k with
  | zero =>
    intro fu nodes unique memo c a b hfu h hb hc ha hb' lc la lb
    obtain ⟨g, rfl⟩ : ∃ g, fu = g + 1 := ⟨fu - 1, by omega⟩
    have hc0 := hc.1
    have hc2 : c < 2 := by
      by_cases h2 : c < 2
      · exact h2
      · obtain ⟨_, x, _, _, e, _⟩ := h.at hc (by omega)
        have := (h.ord.at_lev (v := (at' nodes (c - 2)).Var.toNat) (by omega)).1
        omega
    rcases (show c = 0 ∨ c = 1 by omega) with rfl | rfl
    · refine ⟨nodes, unique, memo, b, ⟨h, Pre.refl _, hb', fun σ => by rw [dn0]; rfl, by simp⟩, fun Q hQ => ?_⟩
      rw [decision_Table__Choose__e_W]
      refine ⟨fun _ => False, ⟨fun x => x = decide (a = b), condE (fun hh => by cases hh) (fun _ => beq_dec), ?_⟩, fun _ hh => hh.elim⟩
      rintro x rfl
      refine condT (fun he => by rw [he]; exact hQ) (fun _ => condE (fun _ => hQ) (fun hh => absurd rfl hh))
    · refine ⟨nodes, unique, memo, a, ⟨h, Pre.refl _, ha, fun σ => by rw [dn1]; rfl, by simp⟩, fun Q hQ => ?_⟩
      rw [decision_Table__Choose__e_W]
      refine ⟨fun _ => False, ⟨fun x => x = true, condE (fun _ => rfl) (fun hh => absurd rfl hh), ?_⟩, fun _ hh => hh.elim⟩
      rintro x rfl
      exact condB (fun _ => hQ) (fun hh => by cases hh)
  | succ k ih =>
    intro fu nodes unique memo c a b hfu h hb hc ha hb' lc la lb
    obtain ⟨g, rfl⟩ : ∃ g, fu = g + 1 := ⟨fu - 1, by omega⟩
    have hpk : 0 < 2 ^ k := Nat.pow_pos (by omega)
    rw [Nat.pow_succ] at hb
    have h1 : 1 ≤ 2 ^ (k + 1) := Nat.pow_pos (by omega)
    have hc0 := hc.1
    -- what is answered at once
    by_cases q1 : c = 1 ∨ a = b
    · refine ⟨nodes, unique, memo, a, ⟨h, Pre.refl _, ha, fun σ => ?_, by omega⟩, fun Q hQ => ?_⟩
      · rcases q1 with rfl | rfl
        · rw [dn1]; rfl
        · cases dn nodes c σ <;> rfl
      · rw [decision_Table__Choose__e_W]
        refine ⟨fun _ => False, ⟨fun x => x = true, condE (fun _ => rfl) (fun hh => by simpa using q1.resolve_left hh), ?_⟩, fun _ hh => hh.elim⟩
        rintro x rfl
        exact condB (fun _ => hQ) (fun hh => by cases hh)
    by_cases q2 : c = 0
    · refine ⟨nodes, unique, memo, b, ⟨h, Pre.refl _, hb', fun σ => by rw [q2, dn0]; rfl, by omega⟩, fun Q hQ => ?_⟩
      rw [decision_Table__Choose__e_W]
      refine ⟨fun _ => False, ⟨fun x => x = false, condE (fun hh => absurd (.inl hh) q1) (fun _ => by simpa using fun hh => q1 (.inr hh)), ?_⟩, fun _ hh => hh.elim⟩
      rintro x rfl
      exact condB (fun hh => by cases hh) (fun _ => condE (fun _ => hQ) (fun hh => absurd q2 hh))
    by_cases q3 : a = 1 ∧ b = 0
    · refine ⟨nodes, unique, memo, c, ⟨h, Pre.refl _, hc, fun σ => by rw [q3.1, q3.2, dn0, dn1]; cases dn nodes c σ <;> rfl, by omega⟩, fun Q hQ => ?_⟩
      rw [decision_Table__Choose__e_W]
      refine ⟨fun _ => False, ⟨fun x => x = false, condE (fun hh => absurd (.inl hh) q1) (fun _ => by simpa using fun hh => q1 (.inr hh)), ?_⟩, fun _ hh => hh.elim⟩
      rintro x rfl
      exact condB (fun hh => by cases hh) (fun _ => condE (fun hh => absurd hh q2) (fun _ => condE (fun _ => condE (fun _ => hQ) (fun hh => absurd q3.2 hh)) (fun hh => absurd q3.1 hh)))
    have enter : ∀ Q : List GDNode → GMap Int → GMap Int → Int → Prop,
        condW (Option.isSome (mget memo [c, a, b]))
        (Q nodes unique memo (Option.getD (mget memo [c, a, b]) 0))
        (decision_Table__level__e_W c o place nodes unique memo fun r =>
        decision_Table__level__e_W a o place nodes unique memo fun r1 =>
        decision_Table__level__e_W b o place nodes unique memo fun r2 =>
        decision_Table__Kids__e_W c (min (min r r1) r2) o place nodes unique memo fun r3 r4 =>
        decision_Table__Kids__e_W a (min (min r r1) r2) o place nodes unique memo fun r5 r6 =>
        decision_Table__Kids__e_W b (min (min r r1) r2) o place nodes unique memo fun r7 r8 =>
        decision_Table__Choose__e_W g r3 r5 r7 o place nodes unique memo fun u u1 u2 lo =>
        decision_Table__Choose__e_W g r4 r6 r8 o place u u1 u2 fun u3 u4 u5 hi =>
        ((0 : Int) ≤ (min (min r r1) r2) ∧ (min (min r r1) r2) < (o.length : Int)) ∧
        decision_Table__Make__e2_W (at' o (min (min r r1) r2)) lo hi o place u3 u4 u5 fun u6 u7 r9 =>
        Q u6 u7 (mput u5 [c, a, b] r9) r9) → decision_Table__Choose__e_W (g + 1) c a b o place nodes unique memo Q := fun Q hq => by
      rw [decision_Table__Choose__e_W]
      refine ⟨fun _ => True, ⟨fun x => x = false, condE (fun hh => absurd (.inl hh) q1) (fun _ => by simpa using fun hh => q1 (.inr hh)), ?_⟩, fun _ _ => hq⟩
      rintro x rfl
      exact condB (fun hh => by cases hh) (fun _ => condE (fun hh => absurd hh q2) (fun _ => condE (fun q4 => condE (fun hh => absurd ⟨q4, hh⟩ q3) (fun _ => trivial)) (fun _ => trivial)))
    cases hm : mget memo [c, a, b] with
    | some r =>
      obtain ⟨_, m2, m3⟩ := h.tb.me c a b r hm
      refine ⟨nodes, unique, memo, r, ⟨h, Pre.refl _, m2, m3, by omega⟩, fun Q hQ => enter Q ?_⟩
      rw [hm]
      exact condB (fun _ => hQ) (fun hh => by cases hh)
    | none =>
      have hc2 : 2 ≤ c := by omega
      obtain ⟨_, cv, _, _, ce, _⟩ := h.at hc hc2
      have clv := (h.ord.at_lev (v := (at' nodes (c - 2)).Var.toNat) (by omega)).1
      generalize hL : min (min (lvO o nodes c) (lvO o nodes a)) (lvO o nodes b) = L
      have hLn : L < o.length := by omega
      have hLI : min (min (lvO o nodes c : Int) (lvO o nodes a : Int)) (lvO o nodes b : Int) = (L : Int) := by omega
      have hbn : nodes.length ≤ 1099511627776 := by omega
      obtain ⟨v, hv⟩ : ∃ v : Nat, at' o (L : Int) = v := ⟨(at' o (L : Int)).toNat, by have := h.ord.rg L hLn; omega⟩
      have hvn : v < o.length := by have := h.ord.rg L hLn; omega
      have hvL : levO o v = L := by have := h.ord.lev_at hLn; rwa [hv, Int.toNat_natCast] at this
      have kv := fun (r : Int) (hr : Vd nodes r) (b : Bool) => kid_vd h hr hLn b
      have kl := fun (r : Int) (hr : Vd nodes r) (hl : L ≤ lvO o nodes r) (b : Bool) => kid_lvl h hr hLn hl b
      have kd := fun (r : Int) (hr : Vd nodes r) (hl : L ≤ lvO o nodes r) (b : Bool) (σ : Asg) => by
        have := kid_dn h hr hvn (by rw [hvL]; exact hl) b σ
        rwa [hvL] at this
      have lC : L ≤ lvO o nodes c := by omega
      have lA : L ≤ lvO o nodes a := by omega
      have lB : L ≤ lvO o nodes b := by omega
      obtain ⟨n1, u1, m1, lo, ⟨t1, p1, v1, d1, s1⟩, w1⟩ := ih g (by omega) h (by omega) (kv c hc false) (kv a ha false) (kv b hb' false) (by have := kl c hc lC false; omega) (by have := kl a ha lA false; omega) (by have := kl b hb' lB false; omega)
      have lv1 : ∀ r b, Vd nodes r → L ≤ lvO o nodes r → L + 1 ≤ lvO o n1 (kid o nodes r L b) := fun r b hr hl => by
        show L + 1 ≤ lvl o.length (levO o) n1 (kid o nodes r L b).toNat
        rw [Pre.lvl (kv r hr b) p1]; exact kl r hr hl b
      obtain ⟨n2, u2, m2, hi, ⟨t2, p2, v2, d2, s2⟩, w2⟩ := ih g (by omega) t1 (by omega) ((kv c hc true).pre p1) ((kv a ha true).pre p1) ((kv b hb' true).pre p1) (by have := lv1 c true hc lC; omega) (by have := lv1 a true ha lA; omega) (by have := lv1 b true hb' lB; omega)
      have v1' := v1.pre p2
      have dlo : ∀ σ, dn n2 lo σ = bif dn nodes c (setA σ v false) then dn nodes a (setA σ v false) else dn nodes b (setA σ v false) := fun σ => by
        rw [dn_pre v1 p2, d1, kd c hc lC, kd a ha lA, kd b hb' lB]
      have dhi : ∀ σ, dn n2 hi σ = bif dn nodes c (setA σ v true) then dn nodes a (setA σ v true) else dn nodes b (setA σ v true) := fun σ => by
        rw [d2, dn_pre (kv c hc true) p1, dn_pre (kv a ha true) p1, dn_pre (kv b hb' true) p1, kd c hc lC, kd a ha lA, kd b hb' lB]
      have dep : ∀ (r : Int) (hr : Vd nodes r), L ≤ lvO o nodes r → ∀ (b : Bool) (σ σ' : Asg), (∀ w ∈ (natO o).drop (L + 1), σ w = σ' w) → dn nodes r (setA σ v b) = dn nodes r (setA σ' v b) := fun r hr hl b σ σ' hh => by
        have := vd_dep h hr hl
        have hdr : (natO o).drop L = v :: (natO o).drop (L + 1) := by have := h.ord.ord.drop hvn; rwa [hvL] at this
        rw [hdr] at this
        exact this.set σ σ' hh
      have llo : L + 1 ≤ lvO o n2 lo := lvl_of_dep t2 v1' (by omega) fun σ σ' hh => by
        simp only [dlo]
        rw [dep c hc lC false σ σ' hh, dep a ha lA false σ σ' hh, dep b hb' lB false σ σ' hh]
      have lhi : L + 1 ≤ lvO o n2 hi := lvl_of_dep t2 v2 (by omega) fun σ σ' hh => by
        simp only [dhi]
        rw [dep c hc lC true σ σ' hh, dep a ha lA true σ σ' hh, dep b hb' lB true σ σ' hh]
      obtain ⟨n3, u3, r, ⟨t3, p3, v3, d3, s3⟩, w3⟩ := Make_s t2 (by omega) (v := (v : Int)) ⟨by omega, by omega⟩ v1' v2 (by rw [Int.toNat_natCast, hvL]; omega) (by rw [Int.toNat_natCast, hvL]; omega)
      have p13 := (p1.trans p2).trans p3
      have hres : ∀ σ, dn n3 r σ = bif dn nodes c σ then dn nodes a σ else dn nodes b σ := fun σ => by
        rw [d3, Int.toNat_natCast]
        cases hs : σ v
        · rw [cond_false, dlo, show setA σ v false = σ by rw [← hs]; exact setA_id]
        · rw [cond_true, dhi, show setA σ v true = σ by rw [← hs]; exact setA_id]
      refine ⟨n3, u3, mput m2 [c, a, b] r, r, ⟨⟨t3.ord, t3.pl, t3.pl2, t3.tb.memo_put (hc.pre p13) (ha.pre p13) (hb'.pre p13) v3 (fun σ => by rw [dn_pre hc p13, dn_pre ha p13, dn_pre hb' p13]; exact hres σ)⟩, p13, v3, hres, by rw [Nat.pow_succ]; omega⟩, fun Q hQ => enter Q ?_⟩
      rw [hm]
      refine condB (fun hh => by cases hh) (fun _ => level_s h hbn hc (level_s h hbn ha (level_s h hbn hb' ?_)))
      rw [hLI]
      refine Kids_s h hbn hc hLn (Kids_s h hbn ha hLn (Kids_s h hbn hb' hLn (w1 _ (w2 _ ⟨⟨by omega, by omega⟩, ?_⟩))))
      rw [hv]
      exact w3 _ hQ
end
end Go.Gg
namespace Go.Gg
section
variable {o place : List Int} {nodes : List GDNode} {unique memo : GMap Int}
/-- What an operation on a table leaves: a reference with a function, so many nodes more. -/
structure After (o place : List Int) (nodes nodes' : List GDNode) (unique' memo' : GMap Int) (r : Int) (f : Asg → Bool) (c : Nat) : Prop where
  ts : TS o place nodes' unique' memo'
  pre : Pre nodes nodes'
  vd : Vd nodes' r
  dn : dn nodes' r = f
  le : nodes'.length ≤ nodes.length + c
theorem Choose_e (h : TS o place nodes unique memo) (hb : nodes.length + 2 ^ o.length ≤ 1099511627776) {c a b : Int} (hc : Vd nodes c) (ha : Vd nodes a) (hb' : Vd nodes b) :
    ∃ nodes' unique' memo' r, After o place nodes nodes' unique' memo' r (fun σ => bif dn nodes c σ then dn nodes a σ else dn nodes b σ) (2 ^ o.length) ∧
      ∀ Q : List GDNode → GMap Int → GMap Int → Int → Prop, Q nodes' unique' memo' r → ∃ fu, decision_Table__Choose__e_W fu c a b o place nodes unique memo Q := by
  obtain ⟨n1, u1, m1, r, ⟨a1, a2, a3, a4, a5⟩, w⟩ := Choose_s o.length (o.length + 1) (by omega) h hb hc ha hb' (by omega) (by omega) (by omega)
  exact ⟨n1, u1, m1, r, ⟨a1, a2, a3, funext a4, by omega⟩, fun Q hQ => ⟨o.length + 1, w Q hQ⟩⟩
theorem And_e (h : TS o place nodes unique memo) (hb : nodes.length + 2 ^ o.length ≤ 1099511627776) {a b : Int} (ha : Vd nodes a) (hb' : Vd nodes b) :
    ∃ nodes' unique' memo' r, After o place nodes nodes' unique' memo' r (fun σ => dn nodes a σ && dn nodes b σ) (2 ^ o.length) ∧
      ∀ Q : List GDNode → GMap Int → GMap Int → Int → Prop, Q nodes' unique' memo' r → decision_Table__And__e_W a b o place nodes unique memo Q := by
  obtain ⟨n1, u1, m1, r, h1, w⟩ := Choose_e h hb ha hb' vd0
  refine ⟨n1, u1, m1, r, ⟨h1.ts, h1.pre, h1.vd, by rw [h1.dn, dn0]; funext σ; cases dn nodes a σ <;> rfl, h1.le⟩, fun Q hQ => w Q hQ⟩
theorem Or_e (h : TS o place nodes unique memo) (hb : nodes.length + 2 ^ o.length ≤ 1099511627776) {a b : Int} (ha : Vd nodes a) (hb' : Vd nodes b) :
    ∃ nodes' unique' memo' r, After o place nodes nodes' unique' memo' r (fun σ => dn nodes a σ || dn nodes b σ) (2 ^ o.length) ∧
      ∀ Q : List GDNode → GMap Int → GMap Int → Int → Prop, Q nodes' unique' memo' r → decision_Table__Or__e_W a b o place nodes unique memo Q := by
  obtain ⟨n1, u1, m1, r, h1, w⟩ := Choose_e h hb ha vd1 hb'
  refine ⟨n1, u1, m1, r, ⟨h1.ts, h1.pre, h1.vd, by rw [h1.dn, dn1]; funext σ; cases dn nodes a σ <;> rfl, h1.le⟩, fun Q hQ => w Q hQ⟩
theorem Not_e (h : TS o place nodes unique memo) (hb : nodes.length + 2 ^ o.length ≤ 1099511627776) {a : Int} (ha : Vd nodes a) :
    ∃ nodes' unique' memo' r, After o place nodes nodes' unique' memo' r (fun σ => !dn nodes a σ) (2 ^ o.length) ∧
      ∀ Q : List GDNode → GMap Int → GMap Int → Int → Prop, Q nodes' unique' memo' r → decision_Table__Not__e_W a o place nodes unique memo Q := by
  obtain ⟨n1, u1, m1, r, h1, w⟩ := Choose_e h hb ha vd0 vd1
  refine ⟨n1, u1, m1, r, ⟨h1.ts, h1.pre, h1.vd, by rw [h1.dn, dn0, dn1]; funext σ; cases dn nodes a σ <;> rfl, h1.le⟩, fun Q hQ => w Q hQ⟩
theorem Xor_e (h : TS o place nodes unique memo) (hb : nodes.length + 2 * 2 ^ o.length ≤ 1099511627776) {a b : Int} (ha : Vd nodes a) (hb' : Vd nodes b) :
    ∃ nodes' unique' memo' r, After o place nodes nodes' unique' memo' r (fun σ => dn nodes a σ != dn nodes b σ) (2 * 2 ^ o.length) ∧
      ∀ Q : List GDNode → GMap Int → GMap Int → Int → Prop, Q nodes' unique' memo' r → decision_Table__Xor__e_W a b o place nodes unique memo Q := by
  obtain ⟨n1, u1, m1, r1, h1, w1⟩ := Not_e h (by omega) hb'
  have := h1.le
  obtain ⟨n2, u2, m2, r, h2, w2⟩ := Choose_e h1.ts (by omega) (ha.pre h1.pre) h1.vd (hb'.pre h1.pre)
  have := h2.le
  refine ⟨n2, u2, m2, r, ⟨h2.ts, h1.pre.trans h2.pre, h2.vd, ?_, by omega⟩, fun Q hQ => w1 _ (w2 Q hQ)⟩
  rw [h2.dn, h1.dn, dn_pre ha h1.pre, dn_pre hb' h1.pre]
  funext σ
  show (bif dn nodes a σ then !dn nodes b σ else dn nodes b σ) = _
  cases dn nodes a σ <;> cases dn nodes b σ <;> rfl
theorem Event_e (h : TS o place nodes unique memo) (hb : nodes.length + 1 ≤ 1099511627776) {v : Int} (hv : 0 ≤ v ∧ v < o.length) :
    ∃ nodes' unique' r, After o place nodes nodes' unique' memo r (fun σ => σ v.toNat) 1 ∧
      ∀ Q : List GDNode → GMap Int → Int → Prop, Q nodes' unique' r → decision_Table__Event__e_W v o place nodes unique memo Q := by
  have hl := (h.ord.at_lev (v := v.toNat) (by omega)).1
  obtain ⟨n1, u1, r, ⟨a1, a2, a3, a4, a5⟩, w⟩ := Make_s h hb hv vd0 vd1 (by show _ < lvl _ _ _ 0; rw [lvl_lt (by omega)]; exact hl) (by show _ < lvl _ _ _ 1; rw [lvl_lt (by omega)]; exact hl)
  refine ⟨n1, u1, r, ⟨a1, a2, a3, ?_, a5⟩, fun Q hQ => w Q hQ⟩
  funext σ
  rw [a4, dn0, dn1]
  cases σ v.toNat <;> rfl
/-! ### Compose -/
def wcost (K : Nat) : Nat → Nat
  | 0 => 0
  | k + 1 => 2 * wcost K k + K
theorem wcost_le {K : Nat} : ∀ k, wcost K k + K ≤ 2 ^ k * K
  | 0 => by simp [wcost]
  | k + 1 => by
    have := wcost_le (K := K) k
    rw [wcost, Nat.pow_succ, Nat.mul_right_comm]
    omega
/-- What has been replaced. -/
def Done (nodes : List GDNode) (e : Nat) (g : Asg → Bool) (done : GMap Int) : Prop := ∀ r x, mget done [r] = some x → Vd nodes r ∧ Vd nodes x ∧ ∀ σ, dn nodes x σ = dn nodes r (setA σ e (g σ))
theorem Done.pre {nodes' : List GDNode} {e : Nat} {g : Asg → Bool} {done : GMap Int} (h : Done nodes e g done) (hp : Pre nodes nodes') : Done nodes' e g done := fun r x hx => by
  obtain ⟨a, b, c⟩ := h r x hx
  exact ⟨a.pre hp, b.pre hp, fun σ => by rw [dn_pre a hp, dn_pre b hp]; exact c σ⟩
theorem Compose_1_e {e : Int} (he : 0 ≤ e ∧ e < o.length) : ∀ (k fu : Nat) {nodes : List GDNode} {unique memo done : GMap Int} {r by1 : Int} {g : Asg → Bool}, k < fu → TS o place nodes unique memo → nodes.length + wcost (2 ^ o.length + 1) k ≤ 1099511627776 → Vd nodes r → Vd nodes by1 → dn nodes by1 = g → Done nodes e.toNat g done →
    o.length ≤ k + lvO o nodes r →
    ∃ done' nodes' unique' memo' x, (Done nodes' e.toNat g done' ∧ After o place nodes nodes' unique' memo' x (fun σ => dn nodes r (setA σ e.toNat (g σ))) (wcost (2 ^ o.length + 1) k)) ∧
      ∀ Q : GMap Int → List GDNode → GMap Int → GMap Int → Int → Prop, Q done' nodes' unique' memo' x → decision_Table__Compose_1__e_W fu r e by1 done o place nodes unique memo Q := by
  intro k
  have hel : e.toNat < o.length := by omega
  have hpos : 0 < 2 ^ o.length := Nat.pow_pos (by omega)
  induction k with
  | zero =>
    intro fu nodes unique memo done r by1 g hfu h hb hr hby hg hD hk
    obtain ⟨f, rfl⟩ : ∃ f, fu = f + 1 := ⟨fu - 1, by omega⟩
    have hlt := (h.ord.at_lev hel).1
    have hp := h.pl
    have hpe := h.pl2 e.toNat hel
    rw [show ((e.toNat : Nat) : Int) = e by omega] at hpe
    refine ⟨done, nodes, unique, memo, r, ⟨hD, ⟨h, Pre.refl _, hr, funext fun σ => (h.wt.den_set hr.2 (by show levO o e.toNat < lvO o nodes r; omega) σ).symm, by omega⟩⟩, fun Q hQ => ?_⟩
    rw [decision_Table__Compose_1__e_W]
    refine ⟨_, level_s h (by omega) hr rfl, ⟨by omega, by omega⟩, condT (fun _ => hQ) (fun hc => absurd ?_ hc)⟩
    rw [hpe]; omega
  | succ k ih =>
    intro fu nodes unique memo done r by1 g hfu h hb hr hby hg hD hk
    obtain ⟨f, rfl⟩ : ∃ f, fu = f + 1 := ⟨fu - 1, by omega⟩
    have hlt := (h.ord.at_lev hel).1
    have hp := h.pl
    have hpe := h.pl2 e.toNat hel
    rw [show ((e.toNat : Nat) : Int) = e by omega] at hpe
    rw [wcost] at hb
    have hb0 : nodes.length ≤ 1099511627776 := by omega
    by_cases q1 : levO o e.toNat < lvO o nodes r
    · refine ⟨done, nodes, unique, memo, r, ⟨hD, ⟨h, Pre.refl _, hr, funext fun σ => (h.wt.den_set hr.2 q1 σ).symm, by omega⟩⟩, fun Q hQ => ?_⟩
      rw [decision_Table__Compose_1__e_W]
      refine ⟨_, level_s h hb0 hr rfl, ⟨by omega, by omega⟩, condT (fun _ => hQ) (fun hc => absurd ?_ hc)⟩
      rw [hpe]; omega
    have enter : ∀ Q : GMap Int → List GDNode → GMap Int → GMap Int → Int → Prop, _ → decision_Table__Compose_1__e_W (f + 1) r e by1 done o place nodes unique memo Q := fun Q hq => by
      rw [decision_Table__Compose_1__e_W]
      exact ⟨_, level_s h hb0 hr rfl, ⟨by omega, by omega⟩, condT (fun hc => absurd (by rw [hpe] at hc; omega) q1) (fun _ => hq)⟩
    cases hm : mget done [r] with
    | some x =>
      obtain ⟨_, m2, m3⟩ := hD r x hm
      refine ⟨done, nodes, unique, memo, x, ⟨hD, ⟨h, Pre.refl _, m2, by rw [← hg] at m3 ⊢; exact funext m3, by omega⟩⟩, fun Q hQ => enter Q ?_⟩
      rw [hm]
      exact condB (fun _ => hQ) (fun hc => by cases hc)
    | none =>
      have h2 : 2 ≤ r := by
        by_cases h2 : r < 2
        · have h0 := hr.1
          rw [show lvO o nodes r = o.length from lvl_lt (by omega)] at q1; omega
        · omega
      obtain ⟨hx, xv, xl, xh, xe, xlo, xhi⟩ := h.at hr h2
      have hr2 := hr.2
      generalize hV : (at' nodes (r - 2)).Var = vr at xv xe
      generalize hLo : (at' nodes (r - 2)).Lo = lo at xl xlo
      generalize hHi : (at' nodes (r - 2)).Hi = hi at xh xhi
      have vlo : Vd nodes lo := ⟨xl.1, by omega⟩
      have vhi : Vd nodes hi := ⟨xh.1, by omega⟩
      have hdr : ∀ σ, dn nodes r σ = bif σ vr.toNat then dn nodes hi σ else dn nodes lo σ := fun σ => by
        have := h.wt.den_at hx σ
        rw [hV, hLo, hHi, show 2 + (r - 2).toNat = r.toNat by omega] at this
        exact this
      by_cases q2 : vr = e
      · obtain ⟨n1, u1, m1, x, a1, w1⟩ := Choose_e h (by omega) hby vhi vlo
        have hdx : dn n1 x = fun σ => dn nodes r (setA σ e.toNat (g σ)) := by
          rw [a1.dn]
          funext σ
          rw [hdr, q2, setA_same, hg]
          have e1 : dn nodes hi (setA σ e.toNat (g σ)) = dn nodes hi σ := h.wt.den_set vhi.2 (by show levO o e.toNat < lvO o nodes hi; rw [q2] at xe; omega) σ
          have e2 : dn nodes lo (setA σ e.toNat (g σ)) = dn nodes lo σ := h.wt.den_set vlo.2 (by show levO o e.toNat < lvO o nodes lo; rw [q2] at xe; omega) σ
          rw [e1, e2]
        refine ⟨mput done [r] x, n1, u1, m1, x, ⟨fun r' x' hx' => ?_, ⟨a1.ts, a1.pre, a1.vd, hdx, by have := a1.le; rw [wcost]; omega⟩⟩, fun Q hQ => enter Q ?_⟩
        · rw [mget_put1] at hx'
          by_cases hrr : r' = r
          · rw [if_pos hrr] at hx'; cases hx'
            subst hrr
            exact ⟨hr.pre a1.pre, a1.vd, fun σ => by rw [hdx, dn_pre hr a1.pre]⟩
          · rw [if_neg hrr] at hx'; exact hD.pre a1.pre r' x' hx'
        · rw [hm]
          refine condB (fun hc => by cases hc) (fun _ => ⟨by unfold rng; omega, ⟨by omega, by omega⟩, joinIn ?_⟩)
          rw [hV, hLo, hHi]
          exact condE (fun _ => w1 _ hQ) (fun hc => absurd q2 hc)
      · obtain ⟨n1, u1, r2, a1, w1⟩ := Event_e h (by omega) (v := vr) ⟨by omega, by omega⟩
        have l1 := a1.le
        obtain ⟨d2, n2, u2, m2, r3, ⟨D2, a2⟩, w2⟩ := ih f (by omega) a1.ts (by omega) (vhi.pre a1.pre) (hby.pre a1.pre) (by rw [dn_pre hby a1.pre]; exact hg) (hD.pre a1.pre) (by have : lvO o n1 hi = lvO o nodes hi := Pre.lvl vhi a1.pre; omega)
        have l2 := a2.le
        have p12 := a1.pre.trans a2.pre
        obtain ⟨d3, n3, u3, m3, r4, ⟨D3, a3⟩, w3⟩ := ih f (by omega) a2.ts (by omega) (vlo.pre p12) (hby.pre p12) (by rw [dn_pre hby p12]; exact hg) D2 (by have : lvO o n2 lo = lvO o nodes lo := Pre.lvl vlo p12; omega)
        have l3 := a3.le
        have p23 := a2.pre.trans a3.pre
        have p13 := p12.trans a3.pre
        obtain ⟨n4, u4, m4, x, a4, w4⟩ := Choose_e a3.ts (by omega) (a1.vd.pre p23) (a2.vd.pre a3.pre) a3.vd
        have l4 := a4.le
        have p14 := p13.trans a4.pre
        have hdx : dn n4 x = fun σ => dn nodes r (setA σ e.toNat (g σ)) := by
          rw [a4.dn, dn_pre a1.vd p23, dn_pre a2.vd a3.pre, a1.dn, a2.dn, a3.dn, dn_pre vhi a1.pre, dn_pre vlo p12]
          funext σ
          rw [hdr, setA_ne (by omega)]
        refine ⟨mput d3 [r] x, n4, u4, m4, x, ⟨fun r' x' hx' => ?_, ⟨a4.ts, p14, a4.vd, hdx, by rw [wcost]; omega⟩⟩, fun Q hQ => enter Q ?_⟩
        · rw [mget_put1] at hx'
          by_cases hrr : r' = r
          · rw [if_pos hrr] at hx'; cases hx'
            subst hrr
            exact ⟨hr.pre p14, a4.vd, fun σ => by rw [hdx, dn_pre hr p14]⟩
          · rw [if_neg hrr] at hx'; exact D3.pre a4.pre r' x' hx'
        · rw [hm]
          refine condB (fun hc => by cases hc) (fun _ => ⟨by unfold rng; omega, ⟨by omega, by omega⟩, joinIn ?_⟩)
          rw [hV, hLo, hHi]
          exact condE (fun hc => absurd hc q2) (fun _ => ⟨n1, u1, r2, w1 _ ⟨rfl, rfl, rfl⟩, d2, n2, u2, m2, r3, w2 _ ⟨rfl, rfl, rfl, rfl, rfl⟩, d3, n3, u3, m3, r4, w3 _ ⟨rfl, rfl, rfl, rfl, rfl⟩, n4, u4, m4, x, (by
            obtain ⟨fu, hfu'⟩ := w4 (fun y15 y16 y17 y18 => y15 = n4 ∧ y16 = u4 ∧ y17 = m4 ∧ y18 = x) ⟨rfl, rfl, rfl, rfl⟩
            exact ⟨fu, hfu'⟩), hQ⟩)
theorem Compose_e (h : TS o place nodes unique memo) {r e by1 : Int} (he : 0 ≤ e ∧ e < o.length) (hb : nodes.length + 2 ^ o.length * (2 ^ o.length + 1) ≤ 1099511627776) (hr : Vd nodes r) (hby : Vd nodes by1) :
    ∃ nodes' unique' memo' x, After o place nodes nodes' unique' memo' x (fun σ => dn nodes r (setA σ e.toNat (dn nodes by1 σ))) (2 ^ o.length * (2 ^ o.length + 1)) ∧
      ∀ Q : List GDNode → GMap Int → GMap Int → Int → Prop, Q nodes' unique' memo' x → decision_Table__Compose__e_W r e by1 o place nodes unique memo Q := by
  have hc := wcost_le (K := 2 ^ o.length + 1) o.length
  have hc' : wcost (2 ^ o.length + 1) o.length ≤ 2 ^ o.length * (2 ^ o.length + 1) := Nat.le_trans (Nat.le_add_right _ _) hc
  obtain ⟨d, n1, u1, m1, x, ⟨_, a⟩, w⟩ := Compose_1_e he o.length (o.length + 1) (by omega) h (Nat.le_trans (Nat.add_le_add_left hc' _) hb) hr hby rfl (done := mnew) (fun r x hx => by simp [mget_new] at hx) (by omega)
  exact ⟨n1, u1, m1, x, ⟨a.ts, a.pre, a.vd, a.dn, Nat.le_trans a.le (Nat.add_le_add_left hc' _)⟩, fun Q hQ => ⟨o.length + 1, w _ hQ⟩⟩
theorem Restrict_e (h : TS o place nodes unique memo) {r e : Int} {b : Bool} (he : 0 ≤ e ∧ e < o.length) (hb : nodes.length + 2 ^ o.length * (2 ^ o.length + 1) ≤ 1099511627776) (hr : Vd nodes r) :
    ∃ nodes' unique' memo' x, After o place nodes nodes' unique' memo' x (fun σ => dn nodes r (setA σ e.toNat b)) (2 ^ o.length * (2 ^ o.length + 1)) ∧
      ∀ Q : List GDNode → GMap Int → GMap Int → Int → Prop, Q nodes' unique' memo' x → decision_Table__Restrict__e_W r e b o place nodes unique memo Q := by
  cases b with
  | true =>
    obtain ⟨n1, u1, m1, x, a, w⟩ := Compose_e h he hb hr vd1
    rw [dn1] at a
    exact ⟨n1, u1, m1, x, a, fun Q hQ => condB (fun _ => w _ hQ) (fun hc => by cases hc)⟩
  | false =>
    obtain ⟨n1, u1, m1, x, a, w⟩ := Compose_e h he hb hr vd0
    rw [dn0] at a
    exact ⟨n1, u1, m1, x, a, fun Q hQ => condB (fun hc => by cases hc) (fun _ => w _ hQ)⟩
/-! ### What is given out -/
theorem mput_n {V : Type} {m : GMap V} {k : List Int} {v : V} : (mput m k v).n ≤ m.n + 1 := by
  unfold mput
  dsimp only
  cases (m.f k).isSome
  · exact Nat.le_refl _
  · exact Nat.le_succ _
theorem Small_1_e (h : TS o place nodes unique memo) (hb : nodes.length ≤ 1099511627776) : ∀ (k fu : Nat) {seen : GMap Bool} {r most : Int}, k < fu → Vd nodes r → o.length ≤ k + lvO o nodes r →
    ∃ seen' : GMap Bool, seen'.n + 1 ≤ seen.n + 2 ^ k ∧ ∀ Q : GMap Bool → Prop, Q seen' → decision_Table__Small_1__e_W fu r most seen o place nodes unique memo Q := by
  intro k
  induction k with
  | zero =>
    intro fu seen r most hfu hr hk
    obtain ⟨f, rfl⟩ : ∃ f, fu = f + 1 := ⟨fu - 1, by omega⟩
    refine ⟨seen, by simp, fun Q hQ => ?_⟩
    rw [decision_Table__Small_1__e_W]
    refine condT (fun _ => hQ) (fun hc => ?_)
    obtain ⟨_, x, _, _, e, _⟩ := h.at hr (by omega)
    have := (h.ord.at_lev (v := (at' nodes (r - 2)).Var.toNat) (by omega)).1
    omega
  | succ k ih =>
    intro fu seen r most hfu hr hk
    obtain ⟨f, rfl⟩ : ∃ f, fu = f + 1 := ⟨fu - 1, by omega⟩
    have hpk : 0 < 2 ^ k := Nat.pow_pos (by omega)
    rw [Nat.pow_succ]
    by_cases h2 : r < 2
    · refine ⟨seen, by omega, fun Q hQ => ?_⟩
      rw [decision_Table__Small_1__e_W]
      exact condT (fun _ => hQ) (fun hc => absurd h2 hc)
    by_cases h3 : Option.getD (mget seen [r]) false = true
    · refine ⟨seen, by omega, fun Q hQ => ?_⟩
      rw [decision_Table__Small_1__e_W]
      exact condT (fun _ => hQ) (fun _ => condB (fun _ => hQ) (fun hc => by rw [h3] at hc; cases hc))
    by_cases h4 : most < ((GMap.n seen : Nat) : Int)
    · refine ⟨seen, by omega, fun Q hQ => ?_⟩
      rw [decision_Table__Small_1__e_W]
      exact condT (fun _ => hQ) (fun _ => condB (fun _ => hQ) (fun _ => condT (fun _ => hQ) (fun hc => absurd h4 hc)))
    obtain ⟨_, _, xl, xh, _, xlo, xhi⟩ := h.at hr (by omega)
    have hr2 := hr.2
    have hn := mput_n (m := seen) (k := [r]) (v := true)
    obtain ⟨s1, c1, w1⟩ := ih f (seen := mput seen [r] true) (r := (at' nodes (r - 2)).Lo) (most := most) (by omega) ⟨xl.1, by omega⟩ (by omega)
    obtain ⟨s2, c2, w2⟩ := ih f (seen := s1) (r := (at' nodes (r - 2)).Hi) (most := most) (by omega) ⟨xh.1, by omega⟩ (by omega)
    refine ⟨s2, by omega, fun Q hQ => ?_⟩
    rw [decision_Table__Small_1__e_W]
    exact condT (fun hc => absurd hc h2) (fun _ => condB (fun hc => absurd hc h3) (fun _ => condT (fun hc => absurd hc h4) (fun _ => ⟨by unfold rng; omega, ⟨by omega, by omega⟩, s1, w1 _ rfl, by unfold rng; omega, ⟨by omega, by omega⟩, s2, w2 _ rfl, hQ⟩)))
theorem Small_e (h : TS o place nodes unique memo) (hb : nodes.length ≤ 1099511627776) (hn : o.length ≤ 12) {r : Int} (hr : Vd nodes r) {Q : Bool → Prop} (hQ : Q true) : decision_Table__Small__e_W r 4096 o place nodes unique memo Q := by
  obtain ⟨s, c, w⟩ := Small_1_e h hb o.length (o.length + 1) (seen := mnew) (r := r) (most := 4096) (by omega) hr (by omega)
  have h12 : 2 ^ o.length ≤ 4096 := Nat.pow_le_pow_right (n := 2) (by omega) hn
  have h0 : (mnew : GMap Bool).n = 0 := rfl
  refine ⟨o.length + 1, w _ ?_⟩
  rw [decide_eq_true (by omega)]
  exact hQ
theorem Export_1_e (h : TS o place nodes unique memo) (hb : nodes.length ≤ 1099511627776) {root : Int} {oo : List Int} : ∀ (k fu : Nat) {refs : GMap Int} {M : List GDNode} {r : Int}, k < fu → Vd nodes r → o.length ≤ k + lvO o nodes r → EX o.length (levO o) nodes refs M → M.length + 2 ^ k ≤ 1099511627776 →
    ∃ (refs' : GMap Int) (M' : List GDNode) (x : Int), (EX o.length (levO o) nodes refs' M' ∧ 0 ≤ x ∧ addF (natO o) (dn nodes r) M = (M', x.toNat) ∧ M'.length + 1 ≤ M.length + 2 ^ k ∧ ∀ q : Int, r < q → mget refs' [q] = mget refs [q]) ∧
      ∀ Q : GMap Int → List GDNode → Int → Prop, Q refs' M' x → decision_Table__Export_1__e2_W fu r root refs oo M o place nodes unique memo Q := by
  intro k
  induction k with
  | zero =>
    intro fu refs M r hfu hr hk hE hB
    obtain ⟨f, rfl⟩ : ∃ f, fu = f + 1 := ⟨fu - 1, by omega⟩
    have h0 := hr.1
    have h2 : r < 2 := by
      by_cases h2 : r < 2
      · exact h2
      · obtain ⟨_, x, _, _, e, _⟩ := h.at hr (by omega)
        have := (h.ord.at_lev (v := (at' nodes (r - 2)).Var.toNat) (by omega)).1
        omega
    have hm : mget refs [r] = some r := by
      rcases (show r = 0 ∨ r = 1 by omega) with rfl | rfl
      · exact hE.c0
      · exact hE.c1
    refine ⟨refs, M, r, ⟨hE, h0, hE.old h.ord.ord h.wt hm, by simp, fun _ _ => rfl⟩, fun Q hQ => ?_⟩
    rw [decision_Table__Export_1__e2_W, hm]
    exact condB (fun _ => hQ) (fun hc => by cases hc)
  | succ k ih =>
    intro fu refs M r hfu hr hk hE hB
    obtain ⟨f, rfl⟩ : ∃ f, fu = f + 1 := ⟨fu - 1, by omega⟩
    have hpk : 0 < 2 ^ k := Nat.pow_pos (by omega)
    rw [Nat.pow_succ] at hB ⊢
    cases hm : mget refs [r] with
    | some x =>
      refine ⟨refs, M, x, ⟨hE, (hE.sound r x hm).2.2.1, hE.old h.ord.ord h.wt hm, by omega, fun _ _ => rfl⟩, fun Q hQ => ?_⟩
      rw [decision_Table__Export_1__e2_W, hm]
      exact condB (fun _ => hQ) (fun hc => by cases hc)
    | none =>
      have h0 := hr.1
      have h2 : 2 ≤ r := by
        by_cases h2 : r < 2
        · rcases (show r = 0 ∨ r = 1 by omega) with rfl | rfl
          · rw [hE.c0] at hm; cases hm
          · rw [hE.c1] at hm; cases hm
        · omega
      obtain ⟨hx, _, xl, xh, _, xlo, xhi⟩ := h.at hr h2
      have hr2 := hr.2
      obtain ⟨r1, M1, y1, ⟨E1, z1, e1, c1, k1⟩, w1⟩ := ih f (refs := refs) (M := M) (r := (at' nodes (r - 2)).Lo) (by omega) ⟨xl.1, by omega⟩ (by omega) hE (by omega)
      obtain ⟨r2, M2, y2, ⟨E2, z2, e2, c2, k2⟩, w2⟩ := ih f (refs := r1) (M := M1) (r := (at' nodes (r - 2)).Hi) (by omega) ⟨xh.1, by omega⟩ (by omega) E1 (by omega)
      have hno : mget r2 [r] = none := by rw [k2 r (by omega), k1 r (by omega)]; exact hm
      have er : r = ((2 + (r - 2).toNat : Nat) : Int) := by omega
      have hN := EX.node h.ord.ord h.wt hE.wt E2 hx z1 z2 e1 e2 (by rw [← er]; exact hno)
      rw [← er] at hN
      obtain ⟨ha, hE3⟩ := hN
      have hlen : (M2 ++ [(⟨(at' nodes (r - 2)).Var, y1, y2⟩ : GDNode)]).length = M2.length + 1 := by rw [List.length_append]; rfl
      refine ⟨_, _, ((2 + M2.length : Nat) : Int), ⟨hE3, by omega, ?_, by rw [hlen]; omega, fun q hq => ?_⟩, fun Q hQ => ?_⟩
      · rw [show dn nodes r = fun σ => den nodes σ (2 + (r - 2).toNat) from ?_, ha, Int.toNat_natCast]
        funext σ
        unfold dn
        congr 1
        omega
      · rw [mget_put1, if_neg (by omega), k2 q (by omega), k1 q (by omega)]
      · rw [decision_Table__Export_1__e2_W, hm]
        refine condB (fun hc => by cases hc) (fun _ => ⟨by unfold rng; omega, ⟨by omega, by omega⟩, w1 _ (w2 _ ⟨by rw [hlen]; omega, by rw [hlen]; unfold rng; omega, ?_⟩)⟩)
        rw [hlen, mget_put1, if_pos rfl, show (1 + ((M2.length + 1 : Nat) : Int)) = ((2 + M2.length : Nat) : Int) by omega]
        exact hQ
theorem Export_e (h : TS o place nodes unique memo) (hb : nodes.length ≤ 1099511627776) {r : Int} (hr : Vd nodes r) {Q : GDiagram → Prop} (hQ : Q (canD o (dn nodes r))) : decision_Table__Export__e_W r o place nodes unique memo Q := by
  have hn := h.ord.le
  have hp := dpow24 hn
  obtain ⟨refs, M, x, ⟨_, z, e, _, _⟩, w⟩ := Export_1_e h hb (root := 0) (oo := o) o.length (o.length + 1) (refs := mput (mput (mnew : GMap Int) [0] 0) [1] 1) (M := []) (r := r) (by omega) hr (by omega) EX.start (by simp; omega)
  refine ⟨by omega, o.length + 1, w _ ?_⟩
  have : (⟨o, M, x⟩ : GDiagram) = canD o (dn nodes r) := by
    unfold canD
    rw [e]
    simp only [GDiagram.mk.injEq, true_and]
    omega
  rw [this]
  exact hQ
end
end Go.Gg
/- Lists are the same; a new table, what is imported, what is opened. Conditions: none. -/
namespace Go.Gg
theorem rep_len {α : Type} {n : Int} {x : α} (h : 0 ≤ n) : ((rep' n x).length : Int) = n := by simp [rep']; omega
theorem rep_at {α : Type} [Inhabited α] {n : Int} {x : α} {i : Nat} (h : (i : Int) < n) : at' (rep' n x) (i : Int) = x := by
  simp [at', rep', List.getD_eq_getElem?_getD, show i < n.toNat by omega]
theorem list_ne {α : Type} [Inhabited α] {a b : List α} {i : Int} (h : at' a i ≠ at' b i) : a ≠ b := fun he => h (by rw [he])
/-- A comparison of two lists of the same length, item by item. -/
theorem eqScan {α : Type} [Inhabited α] {a b : List α} {Q : Bool → Prop} {E : α → α → Bool} (hE : ∀ x y, E x y = false ↔ x = y) [Decidable (a = b)] (la : a.length ≤ 9223372036854775807) (hl : a.length = b.length) (h : Q (decide (a = b))) :
    loopW (σ := Int) 0 fun x next1 =>
      condW (decide (x < (a.length : Int)))
        (((0 : Int) ≤ x ∧ x < (a.length : Int)) ∧
        ((0 : Int) ≤ x ∧ x < (b.length : Int)) ∧
        condW (E (at' a x) (at' b x))
          (Q false)
          (rng (x + 1) ∧
          next1 (x + 1)))
        (Q true) := by
  refine scanW (n := a.length) (fun i => at' a (i : Int) ≠ at' b (i : Int)) la (fun i next hi hI hn => ⟨⟨by omega, by omega⟩, ⟨by omega, by omega⟩, condB (fun hc => ?_) (fun hc => hn (fun hh => hh ((hE _ _).1 hc)))⟩) (fun hI => ?_)
  · have hne : at' a (i : Int) ≠ at' b (i : Int) := fun hh => by rw [(hE _ _).2 hh] at hc; cases hc
    rw [decide_eq_false (list_ne hne)] at h
    exact h
  · rw [decide_eq_true (eq_by hl fun i hi => by have := hI i hi; exact Classical.not_not.1 this)] at h
    exact h
theorem bne_eq {x y : Int} : (x != y) = false ↔ x = y := by simp
theorem base_Ints_s {a b : List Int} {Q : Bool → Prop} (la : a.length ≤ 9223372036854775807) (h : Q (decide (a = b))) : base_Ints_W a b Q :=
  condN (fun hc => by rw [decide_eq_false (fun he => hc (by rw [he]))] at h; exact h) (fun hc => eqScan (E := fun x y => x != y) (fun _ _ => bne_eq) la (by omega) h)
theorem slices_Equal_s {a b : List Int} {Q : Bool → Prop} (la : a.length ≤ 9223372036854775807) (h : Q (decide (a = b))) : slices_Equal___int_int_W a b Q :=
  condN (fun hc => by rw [decide_eq_false (fun he => hc (by rw [he]))] at h; exact h) (fun hc => eqScan (E := fun x y => x != y) (fun _ _ => bne_eq) la (by omega) h)
theorem dnodE {x y : GDNode} : (!decide ([x.Var, x.Lo, x.Hi] = [y.Var, y.Lo, y.Hi])) = false ↔ x = y := by
  rw [Bool.not_eq_false', decide_eq_true_eq, node_ext]
instance : DecidableEq GDiagram := fun a b => decidable_of_iff (a.Order = b.Order ∧ a.Nodes = b.Nodes ∧ a.Root = b.Root) (by cases a; cases b; simp)
theorem base_Diagram_s {a b : GDiagram} {Q : Bool → Prop} (lo : a.Order.length ≤ 9223372036854775807) (ln : a.Nodes.length ≤ 9223372036854775807) (h : Q (decide (a = b))) : base_Diagram_W a b Q := by
  have no : a ≠ b → Q false := fun hne => by rw [decide_eq_false hne] at h; exact h
  refine condN (fun hc => no (fun he => hc (by rw [he]))) (fun h1 => base_Ints_s lo (condB (fun hc => no (fun he => ?_)) (fun h2 => ?_)))
  · rw [he] at hc; simp at hc
  · have h2' : a.Order = b.Order := by simpa using h2
    refine condN (fun hc => no (fun he => hc (by rw [he]))) (fun h3 => eqScan (E := fun (x y : GDNode) => !decide ([x.Var, x.Lo, x.Hi] = [y.Var, y.Lo, y.Hi])) (fun _ _ => dnodE) ln (by omega) ?_)
    have : decide (a.Nodes = b.Nodes) = decide (a = b) := decide_eq_decide.2 ⟨fun he => by cases a; cases b; simp only at h1 h2' he ⊢; rw [h1, h2', he], fun he => by rw [he]⟩
    rw [this]
    exact h
/-! ### A new table, and what is imported -/
theorem New_s {o : List Int} {Q : List Int → List Int → GMap Int → GMap Int → Prop} (h : Or14 o) (hQ : ∀ place, TS o place [] mnew mnew → Q o place mnew mnew) : decision_New_W o Q := by
  have hle := h.le
  refine ⟨by omega, ⟨by omega, by omega, by omega, by omega⟩, ?_⟩
  refine loopInv (n := o.length) (fun i y => y.1 = (i : Int) ∧ y.2.length = o.length ∧ ∀ v : Nat, v < o.length → levO o v < i → at' y.2 (v : Int) = (levO o v : Int)) (fun y => y.1) 0 (fun i y hy => by rw [hy.1]; omega) ⟨rfl, by simp [rep'], fun v hv hl => absurd hl (by omega)⟩ ?_ ?_
  · rintro i ⟨x, out⟩ next hi ⟨hx, hl, hI⟩ hn
    dsimp only at hx hl hI
    subst hx
    have hr := h.rg i hi
    obtain ⟨v, hv⟩ : ∃ v : Nat, at' o (i : Int) = v := ⟨(at' o (i : Int)).toNat, by omega⟩
    have hlv := h.lev_at hi
    rw [hv, Int.toNat_natCast] at hlv
    refine condT (fun _ => ⟨⟨by omega, by omega⟩, by omega, by unfold rng; omega, hn _ ⟨by dsimp only; omega, by dsimp only; rw [set_len]; exact hl, fun u hu hul => ?_⟩⟩) (fun hc => absurd (show (i : Int) < o.length by omega) hc)
    dsimp only
    rw [hv, at_set (by omega)]
    split
    · rename_i he; subst he; rw [hlv]
    · rename_i he
      refine hI u hu ?_
      rcases Nat.lt_or_ge (levO o u) i with h5 | h5
      · exact h5
      · have h6 := (h.at_lev hu).2
        rw [show levO o u = i by omega, hv] at h6
        omega
  · rintro ⟨x, out⟩ next ⟨hx, hl, hI⟩
    dsimp only at hx hl hI
    subst hx
    exact condT (fun hc => absurd hc (by omega)) (fun _ => hQ out ⟨h, hl, fun v hv => hI v hv (h.at_lev hv).1, TB.nil⟩)
/-- A diagram's function. -/
def dF (d : GDiagram) : Asg → Bool := dn d.Nodes d.Root
theorem VD.dep {d : GDiagram} (h : VD d) : Dep (dF d) (natO d.Order) := by
  have := h.wt.dep h.ord.ord h.root.2
  exact this.sub fun v hv => List.mem_of_mem_drop hv
theorem Import_s {d : GDiagram} {place : List Int} {nodes : List GDNode} {unique memo : GMap Int} {Q : List GDNode → GMap Int → Int → Prop} (h : TS d.Order place nodes unique memo) (hb : nodes.length + d.Nodes.length ≤ 1099511627776) (hd : VD d)
    (hQ : ∀ nodes' unique' r, After d.Order place nodes nodes' unique' memo r (dF d) d.Nodes.length → Q nodes' unique' r) : decision_Table__Import__e2_W d d.Order place nodes unique memo Q := by
  have hl := hd.le
  have hle := hd.ord.le
  refine ⟨by unfold rng; omega, ⟨by omega, by omega, by omega, by omega⟩, by omega, ?_⟩
  have hlen : ((rep' (2 + (d.Nodes.length : Int)) (0 : Int)).length : Int) = 2 + d.Nodes.length := rep_len (by omega)
  refine loopInv (n := d.Nodes.length) (fun i y => (y.1 = (i : Int) ∧ (y.2.1.length : Int) = 2 + d.Nodes.length) ∧ TS d.Order place y.2.2.1 y.2.2.2 memo ∧ Pre nodes y.2.2.1 ∧ y.2.2.1.length ≤ nodes.length + i ∧ ∀ k : Nat, k < 2 + i → Vd y.2.2.1 (at' y.2.1 (k : Int)) ∧ dn y.2.2.1 (at' y.2.1 (k : Int)) = fun σ => den d.Nodes σ k) (fun y => y.1) 0
    (fun i y hy => by rw [hy.1.1]; omega) ⟨⟨rfl, by dsimp only; rw [set_len]; exact hlen⟩, h, Pre.refl _, by dsimp only; omega, fun k hk => ?_⟩ ?_ ?_
  · dsimp only
    rw [show (1 : Int) = ((1 : Nat) : Int) from rfl, at_set (by omega)]
    split
    · rename_i he
      subst he
      exact ⟨vd1, by rw [show (((1 : Nat) : Int)) = 1 from rfl, dn1]; funext σ; rw [den_one]⟩
    · rw [rep_at (by omega)]
      obtain rfl : k = 0 := by omega
      exact ⟨vd0, by rw [dn0]; funext σ; rw [den_zero]⟩
  · rintro i ⟨x, refs, n1, u1⟩ next hi ⟨⟨hx, hrl⟩, hT, hP, hn1, hI⟩ hn
    dsimp only at hx hrl hT hP hn1 hI
    subst hx
    have hg := at_get hi
    obtain ⟨a, b, c, e, f, g⟩ := hd.wt.nd i _ hg
    obtain ⟨l0, hlo⟩ : ∃ k : Nat, (at' d.Nodes (i : Int)).Lo = k := ⟨(at' d.Nodes (i : Int)).Lo.toNat, by omega⟩
    obtain ⟨h0, hhi⟩ : ∃ k : Nat, (at' d.Nodes (i : Int)).Hi = k := ⟨(at' d.Nodes (i : Int)).Hi.toNat, by omega⟩
    have q1 := hI l0 (by omega)
    have q2 := hI h0 (by omega)
    have hv : (at' d.Nodes (i : Int)).Var.toNat < d.Order.length := by omega
    have hvl := hd.ord.at_lev hv
    have below : ∀ k : Nat, k < 2 + d.Nodes.length → Vd n1 (at' refs (k : Int)) → dn n1 (at' refs (k : Int)) = (fun σ => den d.Nodes σ k) → levO d.Order (at' d.Nodes (i : Int)).Var.toNat < lvl d.Order.length (levO d.Order) d.Nodes k → levO d.Order (at' d.Nodes (i : Int)).Var.toNat < lvO d.Order n1 (at' refs (k : Int)) := fun k hk hv' hdn hlt => by
      have := lvl_of_dep hT hv' (l := levO d.Order (at' d.Nodes (i : Int)).Var.toNat + 1) (by omega) (by
        rw [hdn]
        exact (hd.wt.dep hd.ord.ord hk).sub fun w hw => hd.ord.ord.mem.2 ⟨(hd.ord.ord.mem.1 hw).1, by have := (hd.ord.ord.mem.1 hw).2; omega⟩)
      omega
    rw [hlo] at f
    rw [hhi] at g
    obtain ⟨n2, u2, r, ⟨t2, p2, v2, d2, s2⟩, w2⟩ := Make_s hT (by omega) (v := (at' d.Nodes (i : Int)).Var) (lo := at' refs (l0 : Int)) (hi := at' refs (h0 : Int)) a q1.1 q2.1 (below l0 (by omega) q1.1 q1.2 (by simpa using f)) (below h0 (by omega) q2.1 q2.2 (by simpa using g))
    refine condT (fun _ => ⟨⟨by omega, by omega⟩, by unfold rng; omega, ⟨by omega, by omega⟩, ⟨by omega, by omega⟩, ?_⟩) (fun hc => absurd (show (i : Int) < d.Nodes.length by omega) hc)
    rw [hlo, hhi]
    refine ⟨n2, u2, r, w2 _ ⟨rfl, rfl, rfl⟩, ⟨by omega, by omega⟩, by unfold rng; omega, hn _ ⟨⟨by dsimp only; omega, by dsimp only; rw [set_len]; exact hrl⟩, t2, hP.trans p2, by dsimp only; omega, fun k hk => ?_⟩⟩
    dsimp only
    rw [show (2 + (i : Int)) = ((2 + i : Nat) : Int) by omega, at_set (by omega)]
    split
    · rename_i he
      subst he
      refine ⟨v2, ?_⟩
      funext σ
      rw [d2, q1.2, q2.2, hd.wt.den_at hg]
      simp only
      rw [hlo, hhi, Int.toNat_natCast, Int.toNat_natCast]
    · have q := hI k (by omega)
      exact ⟨q.1.pre p2, by rw [dn_pre q.1 p2]; exact q.2⟩
  · rintro ⟨x, refs, n1, u1⟩ next ⟨⟨hx, hrl⟩, hT, hP, hn1, hI⟩
    dsimp only at hx hrl hT hP hn1 hI
    subst hx
    have r0 := hd.root.1
    have r1 := hd.root.2
    obtain ⟨k, hk⟩ : ∃ k : Nat, d.Root = k := ⟨d.Root.toNat, by omega⟩
    refine condT (fun hc => absurd hc (by omega)) (fun _ => ⟨⟨by omega, by omega⟩, ?_⟩)
    have q := hI k (by omega)
    refine hQ _ _ _ ⟨hT, hP, by rw [hk]; exact q.1, ?_, hn1⟩
    rw [hk, q.2]
    funext σ
    unfold dF dn
    rw [hk, Int.toNat_natCast]
/-! ### What is opened -/
/-- The number of the error of a list of diagrams. -/
def opE (l : List GDiagram) : Int :=
  if firstE (fun i => dgE (at' l (i : Int))) l.length ≠ 0 then firstE (fun i => dgE (at' l (i : Int))) l.length
  else if ∃ i < l.length, 1 ≤ i ∧ (at' l (i : Int)).Order ≠ (at' l 0).Order then 13 else 0
theorem opE_zero {l : List GDiagram} (h : opE l = 0) : (∀ i : Nat, i < l.length → VD (at' l (i : Int))) ∧ ∀ i : Nat, i < l.length → (at' l (i : Int)).Order = (at' l 0).Order := by
  unfold opE at h
  split at h
  · rename_i h1; exact absurd h h1
  · rename_i h1
    split at h
    · cases h
    · rename_i h2
      refine ⟨fun i hi => dgE_zero.1 (firstE_zero.1 (Classical.not_not.1 h1) i hi), fun i hi => ?_⟩
      by_cases h0 : i = 0
      · subst h0; rfl
      · exact Classical.not_not.1 fun hc => h2 ⟨i, hi, by omega, hc⟩
theorem opE_of {l : List GDiagram} (h1 : ∀ i : Nat, i < l.length → VD (at' l (i : Int))) (h2 : ∀ i : Nat, i < l.length → (at' l (i : Int)).Order = (at' l 0).Order) : opE l = 0 := by
  unfold opE
  rw [firstE_zero.2 fun i hi => dgE_zero.2 (h1 i hi), if_neg (by simp), if_neg]
  rintro ⟨i, hi, _, hne⟩
  exact hne (h2 i hi)
theorem ref16_Check_s {l : List GDiagram} {Q : Int → Prop} (hl : l.length ≤ 9223372036854775806) (h : Q (opE l)) : ref16_Check_W l Q := by
  unfold opE at h
  refine scanW (n := l.length) (fun i => dgE (at' l (i : Int)) ≠ 0) (by omega) (fun i next hi hI hn => ⟨⟨by omega, by omega⟩, ref15_Check_s (condN (fun h1 => ?_) (fun h1 => hn (fun hc => hc h1)))⟩) (fun hI => ?_)
  · have := firstE_hit (g := fun i => dgE (at' l (i : Int))) (fun j hj => Classical.not_not.1 (hI j hj)) h1 l.length hi
    rw [this, if_pos h1] at h
    exact h
  · have hz := fun i hi => Classical.not_not.1 (hI i hi)
    rw [firstE_zero.2 hz, if_neg (by simp)] at h
    refine loopInv (n := l.length - 1) (fun i y => y = (i : Int) + 1 ∧ ∀ j, (j < i + 1 ∧ 1 ≤ j) → (at' l (j : Int)).Order = (at' l 0).Order) (fun y => y) 1 (fun i y hy => hy.1) ⟨rfl, fun j hj => by omega⟩ ?_ ?_
    · rintro i _ next hi ⟨rfl, hI2⟩ hn
      have hv : VD (at' l ((i + 1 : Nat) : Int)) := dgE_zero.1 (hz _ (by omega))
      have hle := hv.ord.le
      rw [show (((i + 1 : Nat) : Int)) = (i : Int) + 1 by omega] at hle
      refine condT (fun _ => ⟨⟨by omega, by omega⟩, ⟨by omega, by omega⟩, _, base_Ints_s (by omega) rfl, condB (fun hc => ?_) (fun hc => ⟨by unfold rng; omega, hn _ ⟨by omega, fun j hj => ?_⟩⟩)⟩) (fun hc => absurd (show (i : Int) + 1 < (l.length : Int) by omega) hc)
      · rw [if_pos ⟨i + 1, by omega, by omega, by simpa using hc⟩] at h
        exact h
      · by_cases hji : j < i + 1
        · exact hI2 j ⟨hji, hj.2⟩
        · obtain rfl : j = i + 1 := by omega
          rw [show (((i + 1 : Nat) : Int)) = (i : Int) + 1 by omega]
          simpa using hc
    · rintro _ next ⟨rfl, hI2⟩
      refine condT (fun hc => absurd hc (by omega)) (fun _ => ?_)
      rw [if_neg] at h
      · exact h
      · rintro ⟨i, hi, h1, hne⟩
        exact hne (hI2 i ⟨by omega, h1⟩)
theorem sub_tail {α : Type} [Inhabited α] {l : List α} (_h : 1 ≤ l.length) : (sub' l 1 (l.length : Int)).length = l.length - 1 ∧ ∀ i : Nat, i < l.length - 1 → at' (sub' l 1 (l.length : Int)) (i : Int) = at' l ((i + 1 : Nat) : Int) := by
  refine ⟨by simp [sub'], fun i hi => ?_⟩
  simp only [at', sub', List.getD_eq_getElem?_getD, Int.toNat_natCast]
  rw [List.getElem?_take, if_pos (by simp; omega), List.getElem?_drop, show (Int.toNat 1) + i = i + 1 by simp; omega]
/-- A table with its list of references. -/
structure Opn (l : List GDiagram) (place : List Int) (nodes : List GDNode) (unique memo : GMap Int) (refs : List Int) : Prop where
  ts : TS (at' l 0).Order place nodes unique memo
  len : refs.length = l.length
  le : nodes.length ≤ 4096 * l.length
  ref : ∀ i : Nat, i < l.length → Vd nodes (at' refs (i : Int)) ∧ dn nodes (at' refs (i : Int)) = dF (at' l (i : Int))
theorem open_s {l : List GDiagram} {Q : Option ((List Int) × (List Int) × (List GDNode) × (GMap Int) × (GMap Int)) → List Int → Option Int → Prop} (h0 : 1 ≤ l.length) (hl : l.length ≤ 1024)
    (h1 : opE l ≠ 0 → Q none [] (some (opE l))) (h2 : opE l = 0 → ∀ place nodes unique memo refs, Opn l place nodes unique memo refs → Q (some ((at' l 0).Order, place, nodes, unique, memo)) refs none) : algebra_open_W l Q := by
  refine scanW (n := l.length) (fun i => dgE (at' l (i : Int)) ≠ 0) (by omega) (fun i next hi hI hn => ⟨⟨by omega, by omega⟩, diagram_Check_s ?_⟩) (fun hI => ?_)
  · by_cases h3 : dgE (at' l (i : Int)) = 0
    · rw [h3]
      exact condB (fun hc => by cases hc) (fun _ => hn (fun hc => hc h3))
    · have h4 : opE l = dgE (at' l (i : Int)) := by
        unfold opE
        rw [firstE_hit (g := fun i => dgE (at' l (i : Int))) (fun j hj => Classical.not_not.1 (hI j hj)) h3 l.length hi, if_pos h3]
      have := h1 (by omega)
      rw [errO_ne' h3, ← h4]
      exact condB (fun _ => this) (fun hc => by cases hc)
  · have hz := fun i hi => Classical.not_not.1 (hI i hi)
    have hf : firstE (fun i => dgE (at' l (i : Int))) l.length = 0 := firstE_zero.2 hz
    obtain ⟨tl, ta⟩ := sub_tail h0
    refine ⟨⟨by omega, by omega, by omega⟩, ?_⟩
    rw [tl]
    refine scanW (n := l.length - 1) (fun i => (at' l ((i + 1 : Nat) : Int)).Order ≠ (at' l 0).Order) (by omega) (fun i next hi hI2 hn => ⟨⟨by omega, by omega⟩, ⟨by omega, by omega⟩, _, slices_Equal_s ?_ rfl, condB (fun hc => ?_) (fun hc => hn ?_)⟩) (fun hI2 => ?_)
    · have hv : VD (at' l ((i + 1 : Nat) : Int)) := dgE_zero.1 (hz _ (by omega))
      have := hv.ord.le
      rw [ta i hi]
      omega
    · have hne : (at' l ((i + 1 : Nat) : Int)).Order ≠ (at' l 0).Order := by rw [← ta i hi]; simpa using hc
      have h4 : opE l = 13 := by
        unfold opE
        rw [hf, if_neg (by simp), if_pos ⟨i + 1, by omega, by omega, hne⟩]
      have := h1 (by rw [h4]; decide)
      rw [h4] at this
      exact this
    · rw [← ta i hi]
      simpa using hc
    · have hO : ∀ i : Nat, i < l.length → (at' l (i : Int)).Order = (at' l 0).Order := fun i hi => by
        by_cases hi0 : i = 0
        · subst hi0; rfl
        · have := hI2 (i - 1) (by omega)
          rw [show i - 1 + 1 = i by omega] at this
          exact Classical.not_not.1 this
      have hV : ∀ i : Nat, i < l.length → VD (at' l (i : Int)) := fun i hi => dgE_zero.1 (hz i hi)
      have h3 := h2 (opE_of hV hO)
      refine ⟨by omega, New_s (hV 0 (by omega)).ord fun place hT => ?_⟩
      refine loopInv (n := l.length) (fun i y => (y.1 = (i : Int) ∧ y.2.1.length = i) ∧ TS (at' l 0).Order place y.2.2.2 y.2.2.1 mnew ∧ y.2.2.2.length ≤ 4096 * i ∧ ∀ k : Nat, k < i → Vd y.2.2.2 (at' y.2.1 (k : Int)) ∧ dn y.2.2.2 (at' y.2.1 (k : Int)) = dF (at' l (k : Int))) (fun y => y.1) 0
        (fun i y hy => by rw [hy.1.1]; omega) ⟨⟨rfl, rfl⟩, hT, by simp, fun k hk => by omega⟩ ?_ ?_
      · rintro i ⟨x, refs, u1, n1⟩ next hi ⟨⟨hx, hrl⟩, hT1, hn1, hI3⟩ hn
        dsimp only at hx hrl hT1 hn1 hI3
        subst hx
        have hvi := hV i hi
        have hle := hvi.le
        refine condT (fun _ => ⟨⟨by omega, by omega⟩, ?_⟩) (fun hc => absurd (show (i : Int) < l.length by omega) hc)
        have hT1' := hT1
        rw [← hO i hi] at hT1' ⊢
        refine Import_s hT1' (by omega) hvi fun n2 u2 r ha => ⟨by rw [List.length_append, List.length_singleton]; omega, by unfold rng; omega, hn _ ⟨⟨by dsimp only; omega, by rw [List.length_append, List.length_singleton, hrl]⟩, by rw [← hO i hi]; exact ha.ts, by have := ha.le; dsimp only; omega, fun k hk => ?_⟩⟩
        dsimp only
        by_cases hki : k < i
        · have e : at' (refs ++ [r]) (k : Int) = at' refs (k : Int) := by
            simp [at', List.getD_eq_getElem?_getD, List.getElem?_append_left (show k < refs.length by omega)]
          rw [e]
          have q := hI3 k hki
          exact ⟨q.1.pre ha.pre, by rw [dn_pre q.1 ha.pre]; exact q.2⟩
        · obtain rfl : k = i := by omega
          have e : at' (refs ++ [r]) (k : Int) = r := by
            simp [at', List.getD_eq_getElem?_getD, hrl]
          rw [e]
          exact ⟨ha.vd, ha.dn⟩
      · rintro ⟨x, refs, u1, n1⟩ next ⟨⟨hx, hrl⟩, hT1, hn1, hI3⟩
        dsimp only at hx hrl hT1 hn1 hI3
        subst hx
        exact condT (fun hc => absurd hc (by omega)) (fun _ => h3 place n1 u1 mnew refs ⟨hT1, hrl, hn1, hI3⟩)
end Go.Gg
/- The functions of package algebra that give diagrams. Conditions: few events. -/
namespace Go.Gg
def noD : GDiagram := ⟨[], [], 0⟩
theorem wc12 {n : Nat} (h : n ≤ 12) : 2 ^ n ≤ 4096 ∧ 2 ^ n * (2 ^ n + 1) ≤ 16781312 := by
  have h1 : 2 ^ n ≤ 4096 := Nat.pow_le_pow_right (n := 2) (by omega) h
  exact ⟨h1, Nat.le_trans (Nat.mul_le_mul h1 (Nat.add_le_add_right h1 1)) (by decide)⟩
theorem optS {α : Type} {x : α} {A : Prop} {B : α → Prop} (h : B x) : optW (some x) A B := ⟨fun hc => (by cases hc), fun _ he => by cases he; exact h⟩
theorem optN {α : Type} {A : Prop} {B : α → Prop} (h : A) : optW (none : Option α) A B := ⟨fun _ => h, fun _ he => by cases he⟩
section
variable {o place : List Int} {nodes : List GDNode} {unique memo : GMap Int}
theorem result_s (h : TS o place nodes unique memo) (hb : nodes.length ≤ 1099511627776) (hn : o.length ≤ 12) {r : Int} (hr : Vd nodes r) {Q : GDiagram → Option Int → Prop} (hQ : Q (canD o (dn nodes r)) none) : algebra_result__e_W r o place nodes unique memo Q :=
  Small_e h hb hn hr (condB (fun hc => by cases hc) (fun _ => Export_e h hb hr hQ))
end
theorem at1 {x : GDiagram} : at' [x] (0 : Int) = x := rfl
/-! ### Operations on two diagrams -/
def bothG (M : Int → Int → List Int → List Int → List GDNode → GMap Int → GMap Int → (List GDNode → GMap Int → GMap Int → Int → Prop) → Prop) (a : GDiagram) (b : GDiagram) (Q : GDiagram → Option Int → Prop) : Prop :=
  algebra_open_W [a, b] fun o r r1 =>
  optW o
    (condW (Option.isSome r1)
      (Q (⟨[], [], 0⟩ : GDiagram) r1)
      (False))
    fun ⟨order, place, nodes, unique, memo⟩ =>
    condW (Option.isSome r1)
      (Q (⟨[], [], 0⟩ : GDiagram) r1)
      (((0 : Int) ≤ 0 ∧ 0 < (r.length : Int)) ∧
      ((0 : Int) ≤ 1 ∧ 1 < (r.length : Int)) ∧
      ∃ u u1 u2 r2, (M (at' r 0) (at' r 1) order place nodes unique memo fun y1 y2 y3 y4 => y1 = u ∧ y2 = u1 ∧ y3 = u2 ∧ y4 = r2) ∧
      ∃ r3 r4, (algebra_result__e_W r2 order place u u1 u2 fun y5 y6 => y5 = r3 ∧ y6 = r4) ∧
      Q r3 r4)
/-- A function of a table that combines two references. -/
def Op2 (M : Int → Int → List Int → List Int → List GDNode → GMap Int → GMap Int → (List GDNode → GMap Int → GMap Int → Int → Prop) → Prop) (g : Bool → Bool → Bool) : Prop :=
  ∀ {o place : List Int} {nodes : List GDNode} {unique memo : GMap Int}, TS o place nodes unique memo → o.length ≤ 12 → nodes.length ≤ 1099494850560 → ∀ {a b : Int}, Vd nodes a → Vd nodes b →
    ∃ nodes' unique' memo' r, After o place nodes nodes' unique' memo' r (fun σ => g (dn nodes a σ) (dn nodes b σ)) 16777216 ∧
      ∀ Q : List GDNode → GMap Int → GMap Int → Int → Prop, Q nodes' unique' memo' r → M a b o place nodes unique memo Q
theorem After.mono {o place : List Int} {nodes nodes' : List GDNode} {unique' memo' : GMap Int} {r : Int} {f : Asg → Bool} {c c' : Nat} (h : After o place nodes nodes' unique' memo' r f c) (hc : c ≤ c') : After o place nodes nodes' unique' memo' r f c' := ⟨h.ts, h.pre, h.vd, h.dn, Nat.le_trans h.le (Nat.add_le_add_left hc _)⟩
theorem op_and : Op2 decision_Table__And__e_W (fun x y => x && y) := by
  intro o place nodes unique memo h hn hb a b ha hb'
  obtain ⟨h1, h2⟩ := wc12 hn
  obtain ⟨n1, u1, m1, r, ha, w⟩ := And_e h (by omega) ha hb'
  exact ⟨n1, u1, m1, r, ha.mono (by omega), w⟩
theorem op_or : Op2 decision_Table__Or__e_W (fun x y => x || y) := by
  intro o place nodes unique memo h hn hb a b ha hb'
  obtain ⟨h1, h2⟩ := wc12 hn
  obtain ⟨n1, u1, m1, r, ha, w⟩ := Or_e h (by omega) ha hb'
  exact ⟨n1, u1, m1, r, ha.mono (by omega), w⟩
theorem op_xor : Op2 decision_Table__Xor__e_W (fun x y => x != y) := by
  intro o place nodes unique memo h hn hb a b ha hb'
  obtain ⟨h1, h2⟩ := wc12 hn
  obtain ⟨n1, u1, m1, r, ha, w⟩ := Xor_e h (by omega) ha hb'
  exact ⟨n1, u1, m1, r, ha.mono (by omega), w⟩
theorem Opn.r0 {l : List GDiagram} {place : List Int} {nodes : List GDNode} {unique memo : GMap Int} {refs : List Int} (h : Opn l place nodes unique memo refs) (hl : 0 < l.length) : Vd nodes (at' refs 0) ∧ dn nodes (at' refs 0) = dF (at' l 0) := h.ref 0 hl
theorem Opn.r1 {l : List GDiagram} {place : List Int} {nodes : List GDNode} {unique memo : GMap Int} {refs : List Int} (h : Opn l place nodes unique memo refs) (hl : 1 < l.length) : Vd nodes (at' refs 1) ∧ dn nodes (at' refs 1) = dF (at' l 1) := h.ref 1 hl
theorem Opn.r2 {l : List GDiagram} {place : List Int} {nodes : List GDNode} {unique memo : GMap Int} {refs : List Int} (h : Opn l place nodes unique memo refs) (hl : 2 < l.length) : Vd nodes (at' refs 2) ∧ dn nodes (at' refs 2) = dF (at' l 2) := h.ref 2 hl
theorem both_s {M : Int → Int → List Int → List Int → List GDNode → GMap Int → GMap Int → (List GDNode → GMap Int → GMap Int → Int → Prop) → Prop} {g : Bool → Bool → Bool} (hM : Op2 M g) {a b : GDiagram} {Q : GDiagram → Option Int → Prop} (hn : opE [a, b] = 0 → a.Order.length ≤ 12)
    (h1 : opE [a, b] ≠ 0 → Q noD (some (opE [a, b]))) (h2 : opE [a, b] = 0 → Q (canD a.Order (fun σ => g (dF a σ) (dF b σ))) none) : bothG M a b Q := by
  refine open_s (l := [a, b]) (by simp) (by simp) (fun hc => optN (condB (fun _ => h1 hc) (fun hh => by cases hh))) (fun hz place nodes unique memo refs hO => optS (condB (fun hh => by cases hh) (fun _ => ?_)))
  have hl := hO.len
  have hle := hO.le
  simp only [List.length_cons, List.length_nil] at hl hle
  have r0 := hO.r0 (by simp)
  have r1 := hO.r1 (by simp)
  have hnn : a.Order.length ≤ 12 := hn hz
  have hT : TS a.Order place nodes unique memo := hO.ts
  obtain ⟨n1, u1, m1, r, ha, w⟩ := hM hT hnn (by omega) r0.1 r1.1
  have := ha.le
  refine ⟨by omega, by omega, n1, u1, m1, r, w _ ⟨rfl, rfl, rfl, rfl⟩, _, _, result_s ha.ts (by omega) hnn ha.vd ⟨rfl, rfl⟩, ?_⟩
  rw [ha.dn, r0.2, r1.2]
  exact h2 hz
section
variable {a b : GDiagram} {Q : GDiagram → Option Int → Prop}
theorem algebra_And_s (hn : opE [a, b] = 0 → a.Order.length ≤ 12) (h1 : opE [a, b] ≠ 0 → Q noD (some (opE [a, b]))) (h2 : opE [a, b] = 0 → Q (canD a.Order (fun σ => dF a σ && dF b σ)) none) : algebra_And_W a b Q := both_s op_and hn h1 h2
theorem algebra_Or_s (hn : opE [a, b] = 0 → a.Order.length ≤ 12) (h1 : opE [a, b] ≠ 0 → Q noD (some (opE [a, b]))) (h2 : opE [a, b] = 0 → Q (canD a.Order (fun σ => dF a σ || dF b σ)) none) : algebra_Or_W a b Q := both_s op_or hn h1 h2
theorem algebra_Xor_s (hn : opE [a, b] = 0 → a.Order.length ≤ 12) (h1 : opE [a, b] ≠ 0 → Q noD (some (opE [a, b]))) (h2 : opE [a, b] = 0 → Q (canD a.Order (fun σ => dF a σ != dF b σ)) none) : algebra_Xor_W a b Q := both_s op_xor hn h1 h2
theorem algebra_Not_s (hn : opE [a] = 0 → a.Order.length ≤ 12) (h1 : opE [a] ≠ 0 → Q noD (some (opE [a]))) (h2 : opE [a] = 0 → Q (canD a.Order (fun σ => !dF a σ)) none) : algebra_Not_W a Q := by
  refine open_s (l := [a]) (by simp) (by simp) (fun hc => optN (condB (fun _ => h1 hc) (fun hh => by cases hh))) (fun hz place nodes unique memo refs hO => optS (condB (fun hh => by cases hh) (fun _ => ?_)))
  have hl := hO.len
  have hle := hO.le
  simp only [List.length_cons, List.length_nil] at hl hle
  have r0 := hO.r0 (by simp)
  have hnn : a.Order.length ≤ 12 := hn hz
  have hT : TS a.Order place nodes unique memo := hO.ts
  obtain ⟨p1, p2⟩ := wc12 hnn
  obtain ⟨n1, u1, m1, r, ha, w⟩ := Not_e hT (by omega) r0.1
  have := ha.le
  refine ⟨by omega, w _ (result_s ha.ts (by omega) hnn ha.vd ?_)⟩
  rw [ha.dn, r0.2]
  exact h2 hz
/-- A diagram's function is not that of false: its reference is not 0. -/
theorem canW {o place : List Int} {nodes : List GDNode} {unique memo : GMap Int} (h : TS o place nodes unique memo) {r s : Int} (hr : Vd nodes r) (hs : Vd nodes s) : r = s ↔ dn nodes r = dn nodes s := by
  refine ⟨fun he => by rw [he], fun he => ?_⟩
  have := h.wt.canon h.ord.ord.lv hr.2 hs.2 (fun σ => congrFun he σ)
  have := hr.1
  have := hs.1
  omega
theorem algebra_Implies_s {Q : Bool → Option Int → Prop} (hn : opE [a, b] = 0 → a.Order.length ≤ 12) (h1 : opE [a, b] ≠ 0 → Q false (some (opE [a, b]))) (h2 : opE [a, b] = 0 → ∀ v : Bool, (v = true ↔ ∀ σ, dF a σ = true → dF b σ = true) → Q v none) : algebra_Implies_W a b Q := by
  refine open_s (l := [a, b]) (by simp) (by simp) (fun hc => optN (condB (fun _ => h1 hc) (fun hh => by cases hh))) (fun hz place nodes unique memo refs hO => optS (condB (fun hh => by cases hh) (fun _ => ?_)))
  have hl := hO.len
  have hle := hO.le
  simp only [List.length_cons, List.length_nil] at hl hle
  have r0 := hO.r0 (by simp)
  have r1 := hO.r1 (by simp)
  have hnn : a.Order.length ≤ 12 := hn hz
  have hT : TS a.Order place nodes unique memo := hO.ts
  obtain ⟨p1, p2⟩ := wc12 hnn
  obtain ⟨n1, u1, m1, r, ha, w⟩ := Choose_e hT (by omega) r0.1 r1.1 vd1
  refine ⟨by omega, by omega, n1, u1, m1, r, w _ ⟨rfl, rfl, rfl, rfl⟩, h2 hz _ ?_⟩
  rw [beq_iff_eq, canW ha.ts ha.vd vd1, ha.dn, dn1, dn1, r0.2, r1.2]
  constructor
  · intro hh σ h3
    have := congrFun hh σ
    simp only at this
    rw [show dF (at' [a, b] 0) σ = true from h3] at this
    exact this
  · intro hh
    funext σ
    show (bif dF a σ then dF b σ else true) = true
    cases h3 : dF a σ
    · rfl
    · exact hh σ h3
theorem algebra_Choose_s {c : GDiagram} (hn : opE [c, a, b] = 0 → c.Order.length ≤ 12) (h1 : opE [c, a, b] ≠ 0 → Q noD (some (opE [c, a, b]))) (h2 : opE [c, a, b] = 0 → Q (canD c.Order (fun σ => bif dF c σ then dF a σ else dF b σ)) none) : algebra_Choose_W c a b Q := by
  refine open_s (l := [c, a, b]) (by simp) (by simp) (fun hc => optN (condB (fun _ => h1 hc) (fun hh => by cases hh))) (fun hz place nodes unique memo refs hO => optS (condB (fun hh => by cases hh) (fun _ => ?_)))
  have hl := hO.len
  have hle := hO.le
  simp only [List.length_cons, List.length_nil] at hl hle
  have r0 := hO.r0 (by simp)
  have r1 := hO.r1 (by simp)
  have r2 := hO.r2 (by simp)
  have hnn : c.Order.length ≤ 12 := hn hz
  have hT : TS c.Order place nodes unique memo := hO.ts
  obtain ⟨p1, p2⟩ := wc12 hnn
  obtain ⟨n1, u1, m1, r, ha, w⟩ := Choose_e hT (by omega) r0.1 r1.1 r2.1
  have := ha.le
  refine ⟨by omega, by omega, by omega, n1, u1, m1, r, w _ ⟨rfl, rfl, rfl, rfl⟩, _, _, result_s ha.ts (by omega) hnn ha.vd ⟨rfl, rfl⟩, ?_⟩
  rw [ha.dn, r0.2, r1.2, r2.2]
  exact h2 hz
theorem algebra_Compose_s {i : Int} (hn : opE [a, b] = 0 → a.Order.length ≤ 12) (h1 : opE [a, b] ≠ 0 → Q noD (some (opE [a, b]))) (h3 : opE [a, b] = 0 → (i < 0 ∨ (a.Order.length : Int) ≤ i) → Q noD (some 10))
    (h2 : opE [a, b] = 0 → 0 ≤ i ∧ i < (a.Order.length : Int) → Q (canD a.Order (fun σ => dF a (setA σ i.toNat (dF b σ)))) none) : algebra_Compose_W a i b Q := by
  refine open_s (l := [a, b]) (by simp) (by simp) (fun hc => optN (condB (fun _ => h1 hc) (fun hh => by cases hh))) (fun hz place nodes unique memo refs hO => optS (condB (fun hh => by cases hh) (fun _ => ?_)))
  have hl := hO.len
  have hle := hO.le
  simp only [List.length_cons, List.length_nil] at hl hle
  have r0 := hO.r0 (by simp)
  have r1 := hO.r1 (by simp)
  have hnn : a.Order.length ≤ 12 := hn hz
  have hT : TS a.Order place nodes unique memo := hO.ts
  obtain ⟨p1, p2⟩ := wc12 hnn
  refine ⟨fun x => x = decide (i < 0 ∨ (a.Order.length : Int) ≤ i), condT (fun hc => (decide_eq_true (.inl hc)).symm) (fun hc => decide_eq_decide.2 (by omega)), ?_⟩
  rintro x rfl
  refine condT (fun hc => h3 hz hc) (fun hc => ?_)
  obtain ⟨n1, u1, m1, r, ha, w⟩ := Compose_e hT (r := at' refs 0) (by1 := at' refs 1) (show 0 ≤ i ∧ i < (a.Order.length : Int) by omega) (by omega) r0.1 r1.1
  have := ha.le
  refine ⟨by omega, by omega, n1, u1, m1, r, w _ ⟨rfl, rfl, rfl, rfl⟩, _, _, result_s ha.ts (by omega) hnn ha.vd ⟨rfl, rfl⟩, ?_⟩
  rw [ha.dn, r0.2, r1.2]
  exact h2 hz (by omega)
theorem algebra_Restrict_s {i : Int} {v : Bool} (hn : opE [a] = 0 → a.Order.length ≤ 12) (h1 : opE [a] ≠ 0 → Q noD (some (opE [a]))) (h3 : opE [a] = 0 → (i < 0 ∨ (a.Order.length : Int) ≤ i) → Q noD (some 10))
    (h2 : opE [a] = 0 → 0 ≤ i ∧ i < (a.Order.length : Int) → Q (canD a.Order (fun σ => dF a (setA σ i.toNat v))) none) : algebra_Restrict_W a i v Q := by
  refine open_s (l := [a]) (by simp) (by simp) (fun hc => optN (condB (fun _ => h1 hc) (fun hh => by cases hh))) (fun hz place nodes unique memo refs hO => optS (condB (fun hh => by cases hh) (fun _ => ?_)))
  have hl := hO.len
  have hle := hO.le
  simp only [List.length_cons, List.length_nil] at hl hle
  have r0 := hO.r0 (by simp)
  have hnn : a.Order.length ≤ 12 := hn hz
  have hT : TS a.Order place nodes unique memo := hO.ts
  obtain ⟨p1, p2⟩ := wc12 hnn
  refine ⟨fun x => x = decide (i < 0 ∨ (a.Order.length : Int) ≤ i), condT (fun hc => (decide_eq_true (.inl hc)).symm) (fun hc => decide_eq_decide.2 (by omega)), ?_⟩
  rintro x rfl
  refine condT (fun hc => h3 hz hc) (fun hc => ?_)
  obtain ⟨n1, u1, m1, r, ha, w⟩ := Restrict_e hT (r := at' refs 0) (b := v) (show 0 ≤ i ∧ i < (a.Order.length : Int) by omega) (by omega) r0.1
  have := ha.le
  refine ⟨by omega, w _ (result_s ha.ts (by omega) hnn ha.vd ?_)⟩
  rw [ha.dn, r0.2]
  exact h2 hz (by omega)
/-! ### Quantifiers -/
/-- Events of a set taken out, one after the other. -/
def quF (g : Bool → Bool → Bool) (p : Nat → Bool) : Nat → (Asg → Bool) → Asg → Bool
  | 0, f => f
  | k + 1, f => fun σ => bif p k then g (quF g p k f (setA σ k false)) (quF g p k f (setA σ k true)) else quF g p k f σ
def quantG (M : Int → Int → List Int → List Int → List GDNode → GMap Int → GMap Int → (List GDNode → GMap Int → GMap Int → Int → Prop) → Prop) (d : GDiagram) (mask : Int) (Q : GDiagram → Option Int → Prop) : Prop :=
  algebra_open_W [d] fun o r r1 =>
  optW o
    (condW (Option.isSome r1)
      (Q (⟨[], [], 0⟩ : GDiagram) r1)
      (joinW (α := Bool) (fun next4 =>
        condW (decide (mask < 0))
          (next4 true)
          ((((0 : Int) ≤ (d.Order.length : Int) ∧ (d.Order.length : Int) ≤ 64) ∧ rng (1 * 2 ^ (Int.toNat (d.Order.length : Int)))) ∧
          next4 (decide ((1 * 2 ^ (Int.toNat (d.Order.length : Int))) ≤ mask))))
        fun x5 =>
        condW x5
          (Q (⟨[], [], 0⟩ : GDiagram) (some 3))
          (((0 : Int) ≤ 0 ∧ 0 < (r.length : Int)) ∧
          loopW (σ := Int × Int) ((at' r 0), 0) fun ⟨r8, x6⟩ next3 =>
            condW (decide (x6 < (d.Order.length : Int)))
              (((0 : Int) ≤ x6 ∧ x6 ≤ 64) ∧
              condW ((bits .and .i64 (mask / 2 ^ (Int.toNat x6)) 1) == 1)
                (False)
                (rng (x6 + 1) ∧
                next3 (r8, (x6 + 1))))
              (False))))
    fun ⟨order, place, nodes, unique, memo⟩ =>
    condW (Option.isSome r1)
      (Q (⟨[], [], 0⟩ : GDiagram) r1)
      (joinW (α := Bool) (fun next2 =>
        condW (decide (mask < 0))
          (next2 true)
          ((((0 : Int) ≤ (d.Order.length : Int) ∧ (d.Order.length : Int) ≤ 64) ∧ rng (1 * 2 ^ (Int.toNat (d.Order.length : Int)))) ∧
          next2 (decide ((1 * 2 ^ (Int.toNat (d.Order.length : Int))) ≤ mask))))
        fun x =>
        condW x
          (Q (⟨[], [], 0⟩ : GDiagram) (some 3))
          (((0 : Int) ≤ 0 ∧ 0 < (r.length : Int)) ∧
          loopW (σ := Int × Int × (List GDNode) × (GMap Int) × (GMap Int)) ((at' r 0), 0, nodes, unique, memo) fun ⟨r2, x1, x2, x3, x4⟩ next1 =>
            condW (decide (x1 < (d.Order.length : Int)))
              (((0 : Int) ≤ x1 ∧ x1 ≤ 64) ∧
              condW ((bits .and .i64 (mask / 2 ^ (Int.toNat x1)) 1) == 1)
                (decision_Table__Restrict__e_W r2 x1 false order place x2 x3 x4 fun u u1 u2 r3 =>
                decision_Table__Restrict__e_W r2 x1 true order place u u1 u2 fun u3 u4 u5 r4 =>
                M r3 r4 order place u3 u4 u5 fun u6 u7 u8 r5 =>
                rng (x1 + 1) ∧
                next1 (r5, (x1 + 1), u6, u7, u8))
                (rng (x1 + 1) ∧
                next1 (r2, (x1 + 1), x2, x3, x4)))
              (algebra_result__e_W r2 order place x2 x3 x4 fun r6 r7 =>
              Q r6 r7)))
theorem quant_s {M : Int → Int → List Int → List Int → List GDNode → GMap Int → GMap Int → (List GDNode → GMap Int → GMap Int → Int → Prop) → Prop} {g : Bool → Bool → Bool} (hM : Op2 M g) {mask : Int} (hn : opE [a] = 0 → a.Order.length ≤ 12)
    (h1 : opE [a] ≠ 0 → Q noD (some (opE [a]))) (h3 : opE [a] = 0 → (mask < 0 ∨ ((2 ^ a.Order.length : Nat) : Int) ≤ mask) → Q noD (some 3))
    (h2 : opE [a] = 0 → 0 ≤ mask ∧ mask < ((2 ^ a.Order.length : Nat) : Int) → Q (canD a.Order (quF g (inS mask.toNat) a.Order.length (dF a))) none) : quantG M a mask Q := by
  refine open_s (l := [a]) (by simp) (by simp) (fun hc => optN (condB (fun _ => h1 hc) (fun hh => by cases hh))) (fun hz place nodes unique memo refs hO => optS (condB (fun hh => by cases hh) (fun _ => ?_)))
  have hl := hO.len
  have hle := hO.le
  simp only [List.length_cons, List.length_nil] at hl hle
  have r0 := hO.r0 (by simp)
  have hnn : a.Order.length ≤ 12 := hn hz
  have hT : TS a.Order place nodes unique memo := hO.ts
  obtain ⟨p1, p2⟩ := wc12 hnn
  have e0 : at' [a] 0 = a := rfl
  rw [e0] at r0 ⊢
  refine ⟨fun x => x = decide (mask < 0 ∨ ((2 ^ a.Order.length : Nat) : Int) ≤ mask), condT (fun hc => (decide_eq_true (.inl hc)).symm) (fun hc => ⟨shl_ok (by omega), by rw [shl_pow]; exact decide_eq_decide.2 (by omega)⟩), ?_⟩
  rintro x rfl
  refine condT (fun hc => h3 hz hc) (fun hc => ⟨by omega, ?_⟩)
  have h2' := h2 hz (by omega)
  obtain ⟨s, rfl⟩ : ∃ s : Nat, mask = s := ⟨mask.toNat, by omega⟩
  rw [Int.toNat_natCast] at h2'
  have hs : s < 4294967296 := by omega
  refine loopInv (n := a.Order.length) (fun i y => (y.2.1 = (i : Int) ∧ TS a.Order place y.2.2.1 y.2.2.2.1 y.2.2.2.2) ∧ Vd y.2.2.1 y.1 ∧ dn y.2.2.1 y.1 = quF g (inS s) i (dF a) ∧ y.2.2.1.length ≤ 4096 + i * 67108864) (fun y => y.2.1) 0
    (fun i y hy => by rw [hy.1.1]; omega) ⟨⟨rfl, hT⟩, r0.1, r0.2, by dsimp only; omega⟩ ?_ ?_
  · rintro i ⟨r, x, n1, u1, m1⟩ next hi ⟨⟨hx, hT1⟩, hv, hd, hn1⟩ hnx
    dsimp only at hx hT1 hv hd hn1
    subst hx
    have hi12 : i < 12 := Nat.lt_of_lt_of_le hi hnn
    have hn2 : n1.length ≤ 805310464 := Nat.le_trans hn1 (by omega)
    refine condT (fun _ => ⟨by omega, ?_⟩) (fun hc => absurd (show (i : Int) < a.Order.length by omega) hc)
    rw [bit_in (s := s) (k := i) hs]
    refine condB (fun hb => ?_) (fun hb => ⟨by unfold rng; omega, hnx _ ⟨⟨by dsimp only; omega, hT1⟩, hv, ?_, by dsimp only; exact Nat.le_trans hn1 (by omega)⟩⟩)
    · obtain ⟨n2, u2, m2, rF, aF, wF⟩ := Restrict_e hT1 (r := r) (e := (i : Int)) (b := false) (by omega) (by omega) hv
      have := aF.le
      refine wF _ ?_
      obtain ⟨n3, u3, m3, rT, aT, wT⟩ := Restrict_e aF.ts (r := r) (e := (i : Int)) (b := true) (by omega) (by omega) (hv.pre aF.pre)
      have := aT.le
      refine wT _ ?_
      obtain ⟨n4, u4, m4, rR, aR, wR⟩ := hM aT.ts hnn (by omega) (aF.vd.pre aT.pre) aT.vd
      have := aR.le
      refine wR _ ⟨by unfold rng; omega, hnx _ ⟨⟨by dsimp only; omega, aR.ts⟩, aR.vd, ?_, by dsimp only; omega⟩⟩
      dsimp only
      rw [aR.dn, dn_pre aF.vd aT.pre, aT.dn, aF.dn, dn_pre hv aF.pre, hd]
      funext σ
      simp only [quF, hb, cond_true, Int.toNat_natCast]
    · dsimp only
      rw [hd]
      funext σ
      simp only [quF, hb, cond_false]
  · rintro ⟨r, x, n1, u1, m1⟩ next ⟨⟨hx, hT1⟩, hv, hd, hn1⟩
    dsimp only at hx hT1 hv hd hn1
    subst hx
    refine condT (fun hc => absurd hc (by omega)) (fun _ => result_s hT1 (by omega) hnn hv ?_)
    rw [hd]
    exact h2'
theorem algebra_Exists_s {mask : Int} (hn : opE [a] = 0 → a.Order.length ≤ 12) (h1 : opE [a] ≠ 0 → Q noD (some (opE [a]))) (h3 : opE [a] = 0 → (mask < 0 ∨ ((2 ^ a.Order.length : Nat) : Int) ≤ mask) → Q noD (some 3))
    (h2 : opE [a] = 0 → 0 ≤ mask ∧ mask < ((2 ^ a.Order.length : Nat) : Int) → Q (canD a.Order (quF (fun x y => x || y) (inS mask.toNat) a.Order.length (dF a))) none) : algebra_Exists_W a mask Q := quant_s op_or hn h1 h3 h2
theorem algebra_Forall_s {mask : Int} (hn : opE [a] = 0 → a.Order.length ≤ 12) (h1 : opE [a] ≠ 0 → Q noD (some (opE [a]))) (h3 : opE [a] = 0 → (mask < 0 ∨ ((2 ^ a.Order.length : Nat) : Int) ≤ mask) → Q noD (some 3))
    (h2 : opE [a] = 0 → 0 ≤ mask ∧ mask < ((2 ^ a.Order.length : Nat) : Int) → Q (canD a.Order (quF (fun x y => x && y) (inS mask.toNat) a.Order.length (dF a))) none) : algebra_Forall_W a mask Q := quant_s op_and hn h1 h3 h2
end
end Go.Gg
/- How many states, and the least one, the program's and the reference's. Conditions: few events. -/
namespace Go.Gg
theorem setA_setA {σ : Asg} {v : Nat} {b c : Bool} : setA (setA σ v c) v b = setA σ v b := by
  funext i; unfold setA; split <;> rfl
theorem setA_comm {σ : Asg} {v w : Nat} {b c : Bool} (h : v ≠ w) : setA (setA σ v b) w c = setA (setA σ w c) v b := by
  funext i
  unfold setA
  by_cases h1 : i = w
  · by_cases h2 : i = v
    · omega
    · rw [if_pos h1, if_neg h2, if_pos h1]
  · rw [if_neg h1]
    by_cases h2 : i = v
    · rw [if_pos h2, if_pos h2]
    · rw [if_neg h2, if_neg h2, if_neg h1]
/-- The number of states in which a function holds. -/
def cntN : Nat → (Asg → Bool) → Nat
  | 0, f => (f (fun _ => false)).toNat
  | n + 1, f => cntN n (fun σ => f (setA σ n false)) + cntN n (fun σ => f (setA σ n true))
theorem cntN_false : ∀ n, cntN n (fun _ => false) = 0
  | 0 => rfl
  | n + 1 => by rw [cntN, cntN_false n]
theorem cntN_true : ∀ n, cntN n (fun _ => true) = 2 ^ n
  | 0 => rfl
  | n + 1 => by rw [cntN, cntN_true n, Nat.pow_succ]; omega
theorem cntN_le : ∀ n (f : Asg → Bool), cntN n f ≤ 2 ^ n
  | 0, f => by rw [cntN]; cases f (fun _ => false) <;> decide
  | n + 1, f => by
    have h1 := cntN_le n (fun σ => f (setA σ n false))
    have h2 := cntN_le n (fun σ => f (setA σ n true))
    rw [cntN, Nat.pow_succ]; omega
theorem cntN_set : ∀ n (f : Asg → Bool) {v : Nat}, v < n → cntN n (fun σ => f (setA σ v false)) + cntN n (fun σ => f (setA σ v true)) = 2 * cntN n f
  | 0, _, _, h => absurd h (by omega)
  | n + 1, f, v, h => by
    by_cases hv : v = n
    · subst hv
      simp only [cntN, setA_setA]
      omega
    · have h1 := cntN_set n (fun σ => f (setA σ n false)) (v := v) (by omega)
      have h2 := cntN_set n (fun σ => f (setA σ n true)) (v := v) (by omega)
      have e : ∀ b c, (fun σ => f (setA (setA σ v b) n c)) = fun σ => f (setA (setA σ n c) v b) := fun b c => by
        funext σ; rw [setA_comm hv]
      simp only [cntN]
      simp only [e] at h1 h2
      omega
theorem cntN_not : ∀ n (f : Asg → Bool), cntN n (fun σ => !f σ) + cntN n f = 2 ^ n
  | 0, f => by simp only [cntN]; cases f (fun _ => false) <;> rfl
  | n + 1, f => by
    have h1 := cntN_not n (fun σ => f (setA σ n false))
    have h2 := cntN_not n (fun σ => f (setA σ n true))
    simp only [cntN, Nat.pow_succ]; omega
theorem cntN_or : ∀ n (f g : Asg → Bool), cntN n (fun σ => f σ || g σ) + cntN n (fun σ => f σ && g σ) = cntN n f + cntN n g
  | 0, f, g => by simp only [cntN]; cases f (fun _ => false) <;> cases g (fun _ => false) <;> rfl
  | n + 1, f, g => by
    have h1 := cntN_or n (fun σ => f (setA σ n false)) (fun σ => g (setA σ n false))
    have h2 := cntN_or n (fun σ => f (setA σ n true)) (fun σ => g (setA σ n true))
    simp only [cntN]; omega
theorem stA_bit {s v : Nat} : stA s v = s.testBit v := inS_bit
theorem algebra_Count_s {d : GDiagram} {Q : Int → Option Int → Prop} (h1 : dgE d ≠ 0 → Q 0 (some (dgE d))) (h2 : VD d → Q (cntN d.Order.length (dF d) : Int) none) : algebra_Count_W d Q := by
  refine diagram_Check_s ?_
  by_cases h0 : dgE d = 0
  · have h := dgE_zero.1 h0
    have hn := h.ord.le
    have hp := dpow24 hn
    have hl := h.le
    have hlen : ((rep' (2 + (d.Nodes.length : Int)) (0 : Int)).length : Int) = 2 + d.Nodes.length := rep_len (by omega)
    rw [h0]
    refine condB (fun hc => by cases hc) (fun _ => ⟨by unfold rng; omega, ⟨by omega, by omega, by omega, by omega⟩, shl_ok (by omega), by omega, ?_⟩)
    rw [shl_pow]
    refine loopInv (n := d.Nodes.length) (fun i y => (y.1 = (i : Int) ∧ (y.2.length : Int) = 2 + d.Nodes.length) ∧ ∀ k : Nat, k < 2 + i → at' y.2 (k : Int) = (cntN d.Order.length (fun σ => den d.Nodes σ k) : Int)) (fun y => y.1) 0
      (fun i y hy => by rw [hy.1.1]; omega) ⟨⟨rfl, by dsimp only; rw [set_len]; exact hlen⟩, fun k hk => ?_⟩ ?_ ?_
    · dsimp only
      rw [show (1 : Int) = ((1 : Nat) : Int) from rfl, at_set (by omega)]
      split
      · rename_i he
        subst he
        rw [show (fun σ => den d.Nodes σ 1) = fun _ => true from funext fun σ => den_one, cntN_true]
      · rw [rep_at (by omega)]
        obtain rfl : k = 0 := by omega
        rw [show (fun σ => den d.Nodes σ 0) = fun _ => false from funext fun σ => den_zero, cntN_false]
        rfl
    · rintro i ⟨x, st⟩ next hi ⟨⟨hx, hsl⟩, hI⟩ hn'
      dsimp only at hx hsl hI
      subst hx
      have hg := at_get hi
      obtain ⟨a, b, c, e, f, g⟩ := h.wt.nd i _ hg
      obtain ⟨l0, hlo⟩ : ∃ k : Nat, (at' d.Nodes (i : Int)).Lo = k := ⟨(at' d.Nodes (i : Int)).Lo.toNat, by omega⟩
      obtain ⟨h0', hhi⟩ : ∃ k : Nat, (at' d.Nodes (i : Int)).Hi = k := ⟨(at' d.Nodes (i : Int)).Hi.toNat, by omega⟩
      have c1 := cntN_le d.Order.length (fun σ => den d.Nodes σ l0)
      have c2 := cntN_le d.Order.length (fun σ => den d.Nodes σ h0')
      have cs := cntN_set d.Order.length (fun σ => den d.Nodes σ (2 + i)) (v := (at' d.Nodes (i : Int)).Var.toNat) (by omega)
      have ef : ∀ b, (fun σ => den d.Nodes (setA σ (at' d.Nodes (i : Int)).Var.toNat b) (2 + i)) = fun σ => den d.Nodes σ (bif b then h0' else l0) := fun b => by
        funext σ
        rw [h.wt.den_cof hg, hlo, hhi, Int.toNat_natCast, Int.toNat_natCast]
      simp only [ef, cond_true, cond_false] at cs
      dsimp only
      rw [hlo, hhi, hI l0 (by omega), hI h0' (by omega)]
      have es : Int.tdiv ((cntN d.Order.length (fun σ => den d.Nodes σ l0) : Int) + (cntN d.Order.length (fun σ => den d.Nodes σ h0') : Int)) 2 = (cntN d.Order.length (fun σ => den d.Nodes σ (2 + i)) : Int) := by
        rw [show (cntN d.Order.length (fun σ => den d.Nodes σ l0) : Int) + (cntN d.Order.length (fun σ => den d.Nodes σ h0') : Int) = 2 * (cntN d.Order.length (fun σ => den d.Nodes σ (2 + i)) : Int) by omega]
        exact Int.mul_tdiv_cancel_left _ (by decide)
      have c3 := cntN_le d.Order.length (fun σ => den d.Nodes σ (2 + i))
      rw [es]
      refine condT (fun _ => ⟨⟨by omega, by omega⟩, by unfold rng; omega, ⟨by omega, by omega⟩, ⟨by omega, by omega⟩, by unfold rng; omega, by unfold rng; omega, ⟨by omega, by omega⟩, by unfold rng; omega, hn' _ ⟨⟨by dsimp only; omega, by dsimp only; rw [set_len]; exact hsl⟩, fun k hk => ?_⟩⟩) (fun hc => absurd (show (i : Int) < d.Nodes.length by omega) hc)
      dsimp only
      rw [show (2 + (i : Int)) = ((2 + i : Nat) : Int) by omega, at_set (by omega)]
      split
      · rename_i he; rw [he]
      · exact hI k (by omega)
    · rintro ⟨x, st⟩ next ⟨⟨hx, hsl⟩, hI⟩
      dsimp only at hx hsl hI
      subst hx
      have r0 := h.root.1
      have r1 := h.root.2
      obtain ⟨k, hk⟩ : ∃ k : Nat, d.Root = k := ⟨d.Root.toNat, by omega⟩
      have h3 := h2 h
      unfold dF dn at h3
      refine condT (fun hc => absurd hc (by omega)) (fun _ => ⟨⟨by omega, by omega⟩, ?_⟩)
      rw [hk, Int.toNat_natCast] at h3
      rw [hk, hI k (by omega)]
      exact h3
  · rw [errO_ne' h0]
    exact condB (fun _ => h1 h0) (fun hc => by cases hc)
/-! ### The least state -/
structure Least (n : Nat) (f : Asg → Bool) (m : Nat) : Prop where
  lt : m < 2 ^ n
  yes : f (stA m) = true
  no : ∀ s, s < m → f (stA s) = false
theorem Least.uniq {n : Nat} {f : Asg → Bool} {m m' : Nat} (h : Least n f m) (h' : Least n f m') : m = m' := by
  rcases Nat.lt_trichotomy m m' with h1 | h1 | h1
  · have := h'.no m h1; rw [h.yes] at this; cases this
  · exact h1
  · have := h.no m' h1; rw [h'.yes] at this; cases this
theorem Least.ex {n : Nat} {f : Asg → Bool} : ∀ k, k ≤ 2 ^ n → (∀ s, s < k → f (stA s) = false) ∨ ∃ m, Least n f m
  | 0, _ => .inl fun s hs => absurd hs (by omega)
  | k + 1, hk => by
    rcases Least.ex (n := n) (f := f) k (by omega) with h | h
    · cases hf : f (stA k)
      · refine .inl fun s hs => ?_
        rcases Nat.lt_or_ge s k with h1 | h1
        · exact h s h1
        · obtain rfl : s = k := by omega
          exact hf
      · exact .inr ⟨k, by omega, hf, h⟩
    · exact .inr h
theorem dep_stA {n : Nat} {f : Asg → Bool} {vs : List Nat} (hd : Dep f vs) (hv : ∀ v ∈ vs, v < n) (σ : Asg) : f (stA (bset σ n)) = f σ := hd _ _ fun v hm => stA_bset (hv v hm)
theorem natO_lt {o : List Int} (h : Or14 o) : ∀ v ∈ natO o, v < o.length := fun v hv => ((h.ord.mem (l := 0) (v := v)).1 (by simpa using hv)).1
theorem bset_cmp {p q : Nat → Bool} {i : Nat} (hp : p i = false) (hq : q i = true) : ∀ n, i < n → (∀ v, i < v → v < n → p v = q v) → bset p n < bset q n
  | 0, h, _ => absurd h (by omega)
  | n + 1, h, he => by
    rw [bset, bset]
    by_cases hi : i = n
    · subst hi
      rw [hp, hq, if_neg (by simp), if_pos rfl]
      have := bset_lt (p := p) i
      omega
    · have := bset_cmp hp hq n (by omega) (fun v h1 h2 => he v h1 (by omega))
      rw [he n (by omega) (by omega)]
      split <;> omega
/-- The events from a place on as in a state. -/
def mixA (m k : Nat) (σ : Asg) : Asg := fun v => if k ≤ v then inS m v else σ v
theorem bset_zero {p : Nat → Bool} : ∀ {n : Nat}, (∀ v, v < n → p v = false) → bset p n = 0
  | 0, _ => rfl
  | n + 1, h => by rw [bset, h n (by omega), if_neg (by simp)]; exact bset_zero fun v hv => h v (by omega)
theorem bset_add {p : Nat → Bool} {n i : Nat} (hi : i < n) (h62 : n < 62) (hb : p i = true) {q : Nat → Bool} (hq : ∀ v, v ≠ i → q v = p v) (hq0 : q i = false) : bits .or .i64 (bset q n : Int) (1 * 2 ^ (Int.toNat (i : Int))) = (bset p n : Int) := by
  rw [shl_pow, bits_or (Nat.lt_trans (bset_lt n) (pow62 h62)) (pow62 (by omega))]
  congr 1
  refine Nat.eq_of_testBit_eq fun j => ?_
  rw [Nat.testBit_or, bset_bit, bset_bit]
  by_cases hj : j = i
  · subst hj; rw [Nat.testBit_two_pow_self, Bool.or_true, hb, decide_eq_true hi]; rfl
  · rw [Nat.testBit_two_pow_of_ne (fun hc => hj hc.symm), Bool.or_false, hq j hj]
theorem opE_one {d : GDiagram} : opE [d] = dgE d := by
  unfold opE
  by_cases hz : dgE d = 0
  · rw [firstE_zero.2 (fun i hi => by
      simp only [List.length_cons, List.length_nil] at hi
      obtain rfl : i = 0 := by omega
      exact hz), if_neg (by simp), if_neg, hz]
    rintro ⟨i, hi, h3, _⟩
    simp only [List.length_cons, List.length_nil] at hi
    omega
  · have := firstE_hit (g := fun i => dgE (at' [d] (i : Int))) (i := 0) (fun j hj => by omega) hz [d].length (by simp)
    rw [this]
    show (if dgE d ≠ 0 then dgE d else _) = _
    rw [if_pos hz]
theorem algebra_Least_s {d : GDiagram} {Q : Int → Bool → Option Int → Prop} (hn : dgE d = 0 → d.Order.length ≤ 12) (h0 : dgE d ≠ 0 → Q 0 false (some (dgE d)))
    (h1 : VD d → (∀ s, s < 2 ^ d.Order.length → dF d (stA s) = false) → Q 0 false none) (h2 : VD d → ∀ m : Nat, Least d.Order.length (dF d) m → Q (m : Int) true none) : algebra_Least_W d Q := by
  have eo := opE_one (d := d)
  refine open_s (l := [d]) (by simp) (by simp) (fun hc => optN (condB (fun _ => by rw [eo] at hc ⊢; exact h0 hc) (fun hh => by cases hh))) (fun hz place nodes unique memo refs hO => optS (condB (fun hh => by cases hh) (fun _ => ?_)))
  rw [eo] at hz
  have hV := dgE_zero.1 hz
  have hl := hO.len
  have hle := hO.le
  simp only [List.length_cons, List.length_nil] at hl hle
  have r0 := hO.r0 (by simp)
  have e0 : at' [d] 0 = d := rfl
  have hnn : d.Order.length ≤ 12 := hn hz
  have hT : TS d.Order place nodes unique memo := hO.ts
  obtain ⟨p1, p2⟩ := wc12 hnn
  rw [e0] at r0 ⊢
  have hdep := hV.dep
  have hlt := natO_lt hV.ord
  refine ⟨by omega, condE (fun hr => h1 hV fun s _ => ?_) (fun hr => ⟨by unfold rng; omega, ?_⟩)⟩
  · rw [← r0.2, hr, dn0]
  rcases Least.ex (n := d.Order.length) (f := dF d) (2 ^ d.Order.length) (Nat.le_refl _) with hno | ⟨m, hm⟩
  · exfalso
    refine hr ((canW hT r0.1 vd0).2 ?_)
    rw [r0.2, dn0]
    funext σ
    rw [← dep_stA hdep hlt σ]
    exact hno _ (bset_lt _)
  · have hml := hm.lt
    have h3 := h2 hV m hm
    refine ⟨fun y => ∃ k : Nat, (y.2.2.1 = (k : Int) - 1 ∧ k ≤ d.Order.length ∧ TS d.Order place y.2.2.2.1 y.2.2.2.2.1 y.2.2.2.2.2) ∧ Vd y.2.2.2.1 y.1 ∧ dn y.2.2.2.1 y.1 = (fun σ => dF d (mixA m k σ)) ∧ y.2.1 = (bset (fun v => decide (k ≤ v) && inS m v) d.Order.length : Int) ∧ y.2.2.2.1.length + k * 33562624 ≤ 4096 + d.Order.length * 33562624, fun y => (y.2.2.1 + 1).toNat, ⟨d.Order.length, ⟨rfl, Nat.le_refl _, hT⟩, r0.1, ?_, ?_, by dsimp only; omega⟩, ?_⟩
    · dsimp only
      rw [r0.2]
      funext σ
      refine hdep _ _ fun v hv => ?_
      have := hlt v hv
      unfold mixA
      rw [if_neg (by omega)]
    · dsimp only
      rw [bset_zero fun v hv => by rw [decide_eq_false (by omega), Bool.false_and]]
      rfl
    rintro ⟨r, st, i, n1, u1, m1⟩ ⟨k, ⟨hi, hk, hT1⟩, hv, hd, hs, hn1⟩
    dsimp only at hi hT1 hv hd hs hn1
    subst hi
    refine condT (fun hc => ?_) (fun hc => ?_)
    · obtain ⟨j, rfl⟩ : ∃ j, k = j + 1 := ⟨k - 1, by omega⟩
      have ej : ((j + 1 : Nat) : Int) - 1 = (j : Int) := by omega
      rw [ej]
      have hb1 : n1.length ≤ 805310464 := by
        have : d.Order.length * 33562624 ≤ 12 * 33562624 := Nat.mul_le_mul_right _ hnn
        omega
      obtain ⟨n2, u2, m2, rF, aF, wF⟩ := Restrict_e hT1 (r := r) (e := (j : Int)) (b := false) (by omega) (by omega) hv
      have := aF.le
      refine wF _ ?_
      have hdF : dn n2 rF = fun σ => dF d (mixA m (j + 1) (setA σ j false)) := by
        rw [aF.dn, hd]
        funext σ
        rw [Int.toNat_natCast]
      have mstep : ∀ b, inS m j = b → ∀ σ, mixA m (j + 1) (setA σ j b) = mixA m j σ := fun b hb σ => by
        funext v
        unfold mixA
        by_cases h4 : v = j
        · subst h4; rw [if_neg (by omega), setA_same, if_pos (Nat.le_refl _), hb]
        · rw [setA_ne h4]
          by_cases h5 : j ≤ v
          · rw [if_pos (by omega), if_pos h5]
          · rw [if_neg (by omega), if_neg h5]
      have hst : ∀ b, inS m j = b → b = false → bset (fun v => decide (j + 1 ≤ v) && inS m v) d.Order.length = bset (fun v => decide (j ≤ v) && inS m v) d.Order.length := fun b hb hb2 => bset_congr fun v hv => by
        by_cases h4 : v = j
        · subst h4; rw [hb, hb2, Bool.and_false, Bool.and_false]
        · rw [show decide (j + 1 ≤ v) = decide (j ≤ v) from decide_eq_decide.2 (by omega)]
      refine condN (fun hne => ⟨by unfold rng; omega, ⟨j, ⟨rfl, by omega, aF.ts⟩, aF.vd, ?_, ?_, by dsimp only; omega⟩, by dsimp only; omega⟩) (fun heq => ?_)
      · -- the bit is 0
        have hb : inS m j = false := by
          cases hb : inS m j with
          | false => rfl
          | true =>
            exfalso
            refine hne ((canW aF.ts aF.vd vd0).2 ?_)
            rw [hdF, dn0]
            funext σ
            rw [← dep_stA hdep hlt]
            refine hm.no _ ?_
            have := bset_cmp (p := mixA m (j + 1) (setA σ j false)) (q := stA m) (i := j) (by unfold mixA; rw [if_neg (by omega), setA_same]) hb d.Order.length (by omega) (fun v h1 _ => by unfold mixA; rw [if_pos (by omega)]; rfl)
            rw [bset_stA hml] at this
            exact this
        dsimp only
        rw [hdF]
        funext σ
        rw [mstep false hb]
      · dsimp only
        have hb : inS m j = false := by
          cases hb : inS m j with
          | false => rfl
          | true =>
            exfalso
            refine hne ((canW aF.ts aF.vd vd0).2 ?_)
            rw [hdF, dn0]
            funext σ
            rw [← dep_stA hdep hlt]
            refine hm.no _ ?_
            have := bset_cmp (p := mixA m (j + 1) (setA σ j false)) (q := stA m) (i := j) (by unfold mixA; rw [if_neg (by omega), setA_same]) hb d.Order.length (by omega) (fun v h1 _ => by unfold mixA; rw [if_pos (by omega)]; rfl)
            rw [bset_stA hml] at this
            exact this
        rw [hs, hst _ hb rfl]
      · have hb : inS m j = true := by
          cases hb : inS m j with
          | true => rfl
          | false =>
            exfalso
            rw [heq, dn0] at hdF
            have h4 := congrFun hdF (stA m)
            rw [mstep false hb, show mixA m j (stA m) = stA m from funext fun v => by unfold mixA stA; split <;> rfl, hm.yes] at h4
            cases h4
        obtain ⟨n3, u3, m3, rT, aT, wT⟩ := Restrict_e aF.ts (r := r) (e := (j : Int)) (b := true) (by omega) (by omega) (hv.pre aF.pre)
        have := aT.le
        refine wT _ ⟨shl_ok (by omega), letIn ⟨by unfold rng; omega, ⟨j, ⟨rfl, by omega, aT.ts⟩, aT.vd, ?_, ?_, by dsimp only; omega⟩, by dsimp only; omega⟩⟩
        · dsimp only
          rw [aT.dn, dn_pre hv aF.pre, hd]
          funext σ
          dsimp only
          rw [Int.toNat_natCast, mstep true hb]
        · dsimp only
          rw [hs]
          exact bset_add (i := j) (by omega) (by omega) (p := fun v => decide (j ≤ v) && inS m v) (by simp [hb]) (fun v hv => by rw [show decide (j + 1 ≤ v) = decide (j ≤ v) from decide_eq_decide.2 (by omega)]) (by rw [decide_eq_false (by omega), Bool.false_and])
    · obtain rfl : k = 0 := by omega
      have e4 : bset (fun v => decide (0 ≤ v) && inS m v) d.Order.length = m := by
        have := bset_stA hml
        rw [← this]
        refine bset_congr fun v hv => ?_
        rw [decide_eq_true (Nat.zero_le _), Bool.true_and]
        rw [this]
        rfl
      rw [hs, e4]
      exact h3
end Go.Gg
/- The reference's operations on tables. Conditions: none. -/
namespace Go.Gg
theorem tab_end {n : Nat} {g : Asg → Bool} {t : List Bool} (h : t.length = 2 ^ n) (h2 : ∀ s : Nat, s < 2 ^ n → at' t (s : Int) = g (stA s)) : t = tabF n g :=
  eq_by (by rw [h, tabF_len]) fun i hi => by rw [h2 i (by omega), tabF_at (by omega)]
/-- What a loop over a table leaves. -/
structure Upd (n : Nat) (g f : Asg → Bool) (i : Nat) (t : List Bool) : Prop where
  len : t.length = 2 ^ n
  at_ : ∀ s : Nat, s < 2 ^ n → at' t (s : Int) = if s < i then g (stA s) else f (stA s)
theorem Upd.start {n : Nat} {g f : Asg → Bool} : Upd n g f 0 (tabF n f) := ⟨tabF_len, fun s hs => by rw [if_neg (by omega), tabF_at hs]⟩
theorem Upd.old {n : Nat} {g f : Asg → Bool} {i : Nat} {t : List Bool} (h : Upd n g f i t) (hi : i < 2 ^ n) : at' t (i : Int) = f (stA i) := by rw [h.at_ i hi, if_neg (by omega)]
theorem Upd.step {n : Nat} {g f : Asg → Bool} {i : Nat} {t : List Bool} {b : Bool} (h : Upd n g f i t) (hi : i < 2 ^ n) (hb : b = g (stA i)) : Upd n g f (i + 1) (set' t (i : Int) b) := by
  refine ⟨by rw [set_len]; exact h.len, fun s hs => ?_⟩
  rw [at_set (by rw [h.len]; exact hi)]
  by_cases h1 : s = i
  · subst h1; rw [if_pos rfl, if_pos (by omega), hb]
  · rw [if_neg h1, h.at_ s hs]
    by_cases h2 : s < i
    · rw [if_pos h2, if_pos (by omega)]
    · rw [if_neg h2, if_neg (by omega)]
theorem Upd.keep {n : Nat} {g f : Asg → Bool} {i : Nat} {t : List Bool} (h : Upd n g f i t) (hb : f (stA i) = g (stA i)) : Upd n g f (i + 1) t := by
  refine ⟨h.len, fun s hs => ?_⟩
  rw [h.at_ s hs]
  by_cases h1 : s = i
  · subst h1; rw [if_neg (by omega), if_pos (by omega), hb]
  · by_cases h2 : s < i
    · rw [if_pos h2, if_pos (by omega)]
    · rw [if_neg h2, if_neg (by omega)]
theorem Upd.done {n : Nat} {g f : Asg → Bool} {t : List Bool} (h : Upd n g f (2 ^ n) t) : t = tabF n g := tab_end h.len fun s hs => by rw [h.at_ s hs, if_pos hs]
theorem Dep.map2 {f g : Asg → Bool} {vs : List Nat} (hf : Dep f vs) (hg : Dep g vs) (op : Bool → Bool → Bool) : Dep (fun σ => op (f σ) (g σ)) vs := fun σ σ' hh => by
  show op (f σ) (g σ) = op (f σ') (g σ')
  rw [hf σ σ' hh, hg σ σ' hh]
theorem Dep.notF {f : Asg → Bool} {vs : List Nat} (hf : Dep f vs) : Dep (fun σ => !f σ) vs := hf.map2 hf fun x _ => !x
theorem Dep.ite {c f g : Asg → Bool} {vs : List Nat} (hc : Dep c vs) (hf : Dep f vs) (hg : Dep g vs) : Dep (fun σ => bif c σ then f σ else g σ) vs := fun σ σ' hh => by
  show (bif c σ then f σ else g σ) = bif c σ' then f σ' else g σ'
  rw [hc σ σ' hh, hf σ σ' hh, hg σ σ' hh]
theorem Dep.setG {f g : Asg → Bool} {vs : List Nat} {v : Nat} (hf : Dep f vs) (hg : Dep g vs) : Dep (fun σ => f (setA σ v (g σ))) vs := fun σ σ' hh => by
  refine hf _ _ fun w hw => ?_
  rw [hg σ σ' hh]
  by_cases he : w = v
  · subst he; rw [setA_same, setA_same]
  · rw [setA_ne he, setA_ne he]; exact hh w hw
theorem Dep.const {b : Bool} {vs : List Nat} : Dep (fun _ => b) vs := fun _ _ _ => rfl
theorem table_pd {d : GDiagram} {K : List Bool → Prop} (h : VD d) (hK : K (tabF d.Order.length (dF d))) : detW (ref15_Table_W d) K := ⟨_, ref15_Table_s h rfl, hK⟩
theorem ref16_Choose_s {c a b : GDiagram} {Q : GDiagram → Prop} (hc : VD c) (ha : VD a) (hb : VD b) (ho1 : a.Order = c.Order) (ho2 : b.Order = c.Order) (hQ : Q (canD c.Order (fun σ => bif dF c σ then dF a σ else dF b σ))) : ref16_Choose_W c a b Q := by
  have hn := hc.ord.le
  have hp := dpow24 hn
  refine table_pd hc (table_pd ha (table_pd hb ?_))
  have hda := ha.dep
  have hdb := hb.dep
  rw [ho1] at hda ⊢
  rw [ho2] at hdb ⊢
  refine loopInv (n := 2 ^ c.Order.length) (fun i y => y.1 = (i : Int) ∧ Upd c.Order.length (fun σ => bif dF c σ then dF a σ else dF b σ) (dF b) i y.2) (fun y => y.1) 0 (fun i y hy => by rw [hy.1]; omega) ⟨rfl, Upd.start⟩ ?_ ?_
  · rintro i ⟨x, t⟩ next hi ⟨hx, hU⟩ hn'
    dsimp only at hx hU
    subst hx
    have hl := hU.len
    dsimp only
    rw [tabF_len, tabF_len, tabF_at hi, tabF_at hi]
    refine condT (fun _ => ⟨⟨by omega, by omega⟩, condB (fun hv => ⟨⟨by omega, by omega⟩, ⟨by omega, by omega⟩, by unfold rng; omega, hn' _ ⟨by dsimp only; omega, hU.step hi (by simp only [hv, cond_true])⟩⟩) (fun hv => ⟨by unfold rng; omega, hn' _ ⟨by dsimp only; omega, hU.keep (by simp only [hv, cond_false])⟩⟩)⟩) (fun hc => absurd (show (i : Int) < ((2 ^ c.Order.length : Nat) : Int) by omega) hc)
  · rintro ⟨x, t⟩ next ⟨hx, hU⟩
    dsimp only at hx hU
    subst hx
    dsimp only
    rw [tabF_len]
    refine condT (fun hc => absurd hc (by omega)) (fun _ => ?_)
    rw [hU.done]
    exact ref15_Of_s hc.ord (hc.dep.ite hda hdb) hQ
/-! ### Bits taken out -/
theorem bits_andNot {a b : Nat} (ha : a < 2 ^ 62) (hb : b < 2 ^ 62) : bits .andNot .i64 (a : Int) (b : Int) = (bset (fun v => a.testBit v && !b.testBit v) 62 : Int) := by
  show IntKind.i64.wrap (((BitVec.ofInt 64 (a : Int)) &&& ~~~(BitVec.ofInt 64 (b : Int))).toNat : Int) = _
  rw [BitVec.toNat_and, BitVec.toNat_not, ofInt_toNat ha, ofInt_toNat hb]
  have e : a &&& (2 ^ 64 - 1 - b) = bset (fun v => a.testBit v && !b.testBit v) 62 := by
    refine Nat.eq_of_testBit_eq fun i => ?_
    rw [Nat.testBit_and, bset_bit, show 2 ^ 64 - 1 - b = 2 ^ 64 - (b + 1) by omega, Nat.testBit_two_pow_sub_succ (Nat.lt_trans hb (by decide))]
    by_cases hi : i < 62
    · rw [decide_eq_true hi, decide_eq_true (by omega), Bool.true_and, Bool.true_and]
    · rw [Nat.testBit_lt_two_pow (Nat.lt_of_lt_of_le ha (Nat.pow_le_pow_right (by omega) (by omega))), decide_eq_false hi]; rfl
  rw [e]
  exact wrap62 (bset_lt 62)
theorem stA_or {s n i : Nat} (hs : s < 2 ^ n) (hi : i < n) (hn : n < 62) : bits .or .i64 (s : Int) (1 * 2 ^ (Int.toNat (i : Int))) = (bset (setA (stA s) i true) n : Int) := by
  rw [shl_pow, bits_or (Nat.lt_trans hs (pow62 hn)) (pow62 (by omega))]
  congr 1
  refine Nat.eq_of_testBit_eq fun j => ?_
  rw [Nat.testBit_or, bset_bit]
  by_cases hj : j = i
  · subst hj; rw [Nat.testBit_two_pow_self, Bool.or_true, setA_same, decide_eq_true hi]; rfl
  · rw [Nat.testBit_two_pow_of_ne (fun hc => hj hc.symm), Bool.or_false, setA_ne hj, stA_bit]
    by_cases h1 : j < n
    · rw [decide_eq_true h1, Bool.true_and]
    · rw [decide_eq_false h1, Bool.false_and]; exact Nat.testBit_lt_two_pow (Nat.lt_of_lt_of_le hs (Nat.pow_le_pow_right (by omega) (by omega)))
theorem stA_andNot {s n i : Nat} (hs : s < 2 ^ n) (hi : i < n) (hn : n < 62) : bits .andNot .i64 (s : Int) (1 * 2 ^ (Int.toNat (i : Int))) = (bset (setA (stA s) i false) n : Int) := by
  rw [shl_pow, bits_andNot (Nat.lt_trans hs (pow62 hn)) (pow62 (by omega))]
  congr 1
  refine Nat.eq_of_testBit_eq fun j => ?_
  rw [bset_bit, bset_bit]
  by_cases hj : j = i
  · subst hj; rw [Nat.testBit_two_pow_self, setA_same]; simp
  · rw [Nat.testBit_two_pow_of_ne (fun hc => hj hc.symm), setA_ne hj, stA_bit]
    by_cases h1 : j < n
    · rw [decide_eq_true h1, decide_eq_true (by omega)]; simp
    · rw [decide_eq_false h1, Nat.testBit_lt_two_pow (Nat.lt_of_lt_of_le hs (Nat.pow_le_pow_right (by omega) (by omega)))]; simp
theorem list_snoc {α : Type} {l : List α} {x : α} : (l ++ [x]).length = l.length + 1 := by simp
theorem ref16_Compose_s {d g1 : GDiagram} {i : Int} {Q : GDiagram → Prop} (h : VD d) (h1 : VD g1) (ho : g1.Order = d.Order) (hi : 0 ≤ i ∧ i < (d.Order.length : Int)) (hQ : Q (canD d.Order (fun σ => dF d (setA σ i.toNat (dF g1 σ))))) : ref16_Compose_W d i g1 Q := by
  have hn := h.ord.le
  have hp := dpow24 hn
  obtain ⟨e, rfl⟩ : ∃ e : Nat, i = e := ⟨i.toNat, by omega⟩
  rw [Int.toNat_natCast] at hQ
  refine table_pd h (table_pd h1 ?_)
  have hd1 := h1.dep
  rw [ho] at hd1 ⊢
  have hlt := natO_lt h.ord
  refine loopUp (n := 2 ^ d.Order.length) (fun k => ((k : Int), (List.range k).map fun s => dF d (setA (stA s) e (dF g1 (stA s))))) (fun y => y.1) 0 (fun k => by dsimp only; omega) rfl (fun k next hk hn' => ?_) (fun next => ?_)
  · dsimp only
    rw [tabF_len, tabF_len, tabF_at hk]
    have hln : ∀ x, (((List.range k).map fun s => dF d (setA (stA s) e (dF g1 (stA s)))) ++ [x]).length = k + 1 := fun x => by rw [list_snoc, List.length_map, List.length_range]
    have hb := fun b => bset_lt (p := setA (stA k) e b) d.Order.length
    have htk : ∀ b, dF g1 (stA k) = b → at' (tabF d.Order.length (dF d)) (bset (setA (stA k) e b) d.Order.length : Int) = dF d (setA (stA k) e (dF g1 (stA k))) := fun b hv => by rw [tabF_at (hb b), dep_stA h.dep hlt, hv]
    have hn'' : ∀ x, x = dF d (setA (stA k) e (dF g1 (stA k))) → next ((k : Int) + 1, ((List.range k).map fun s => dF d (setA (stA s) e (dF g1 (stA s)))) ++ [x]) := fun x hx => by
      rw [hx]
      have : (List.range (k + 1)).map (fun s => dF d (setA (stA s) e (dF g1 (stA s)))) = ((List.range k).map fun s => dF d (setA (stA s) e (dF g1 (stA s)))) ++ [dF d (setA (stA k) e (dF g1 (stA k)))] := by simp [List.range_succ]
      rw [this] at hn'
      exact hn'
    refine condT (fun _ => ⟨⟨by omega, by omega⟩, condB (fun hv => ⟨shl_ok (by omega), ?_⟩) (fun hv => ⟨shl_ok (by omega), ?_⟩)⟩) (fun hc => absurd (show (k : Int) < ((2 ^ d.Order.length : Nat) : Int) by omega) hc)
    · rw [stA_or hk (by omega) (by omega)]
      have := hb true
      exact ⟨⟨by omega, by omega⟩, by rw [hln]; omega, by unfold rng; omega, hn'' _ (htk true hv)⟩
    · rw [stA_andNot hk (by omega) (by omega)]
      have := hb false
      exact ⟨⟨by omega, by omega⟩, by rw [hln]; omega, by unfold rng; omega, hn'' _ (htk false hv)⟩
  · dsimp only
    rw [tabF_len]
    refine condT (fun hc => absurd hc (by omega)) (fun _ => ?_)
    exact ref15_Of_s h.ord (f := fun σ => dF d (setA σ e (dF g1 σ))) (h.dep.setG hd1) hQ
/-! ### Quantifiers -/
theorem quF_or {p : Nat → Bool} {f : Asg → Bool} : ∀ (k : Nat) (σ : Asg), quF (fun x y => x || y) p k f σ = true ↔ ∃ τ : Asg, (∀ v, (v < k ∧ p v = true) ∨ τ v = σ v) ∧ f τ = true
  | 0, σ => by
    simp only [quF]
    exact ⟨fun h => ⟨σ, fun v => .inr rfl, h⟩, fun ⟨τ, h1, h2⟩ => by rw [← show τ = σ from funext fun v => (h1 v).resolve_left (by omega)]; exact h2⟩
  | k + 1, σ => by
    simp only [quF]
    cases hp : p k with
    | false =>
      rw [cond_false, quF_or k]
      refine exists_congr fun τ => and_congr_left fun _ => forall_congr' fun v => or_congr_left (and_congr_left fun hv => ⟨fun h => by omega, fun h => ?_⟩)
      rcases Nat.lt_or_ge v k with h1 | h1
      · exact h1
      · obtain rfl : v = k := by omega
        rw [hp] at hv; cases hv
    | true =>
      rw [cond_true, Bool.or_eq_true, quF_or k, quF_or k]
      constructor
      · rintro (⟨τ, h1, h2⟩ | ⟨τ, h1, h2⟩)
        · refine ⟨τ, fun v => ?_, h2⟩
          by_cases hv : v = k
          · subst hv; exact .inl ⟨by omega, hp⟩
          · have := h1 v; rw [setA_ne hv] at this; exact this.imp (fun h => ⟨by omega, h.2⟩) id
        · refine ⟨τ, fun v => ?_, h2⟩
          by_cases hv : v = k
          · subst hv; exact .inl ⟨by omega, hp⟩
          · have := h1 v; rw [setA_ne hv] at this; exact this.imp (fun h => ⟨by omega, h.2⟩) id
      · rintro ⟨τ, h1, h2⟩
        have key : ∀ b, τ k = b → ∀ v, (v < k ∧ p v = true) ∨ τ v = setA σ k b v := fun b hb v => by
          by_cases hv : v = k
          · subst hv; rw [setA_same]; exact .inr hb
          · rw [setA_ne hv]; exact (h1 v).imp (fun h => ⟨by omega, h.2⟩) id
        cases hb : τ k
        · exact .inl ⟨τ, key _ hb, h2⟩
        · exact .inr ⟨τ, key _ hb, h2⟩
theorem quF_dual {p : Nat → Bool} {f : Asg → Bool} : ∀ (k : Nat) (σ : Asg), quF (fun x y => x && y) p k f σ = !quF (fun x y => x || y) p k (fun σ => !f σ) σ
  | 0, σ => by simp [quF]
  | k + 1, σ => by
    simp only [quF, quF_dual k]
    cases p k <;> simp
theorem Dep.quF {p : Nat → Bool} {g : Bool → Bool → Bool} {f : Asg → Bool} {vs : List Nat} (h : Dep f vs) : ∀ k, Dep (Gg.quF g p k f) vs
  | 0 => h
  | k + 1 => by
    have ih := Dep.quF (p := p) (g := g) h k
    have hs : ∀ b, Dep (fun σ => Gg.quF g p k f (setA σ k b)) vs := fun b => ih.setG (g := fun _ => b) Dep.const
    intro σ σ' hh
    have q0 := hs false σ σ' hh
    have q1 := hs true σ σ' hh
    simp only at q0 q1
    simp only [Gg.quF]
    rw [q0, q1, ih σ σ' hh]
/-- Two states that differ in events of a set only. -/
theorem bits_same {s u mask : Nat} {n : Nat} (hs : s < 2 ^ n) (hu : u < 2 ^ n) (hm : mask < 2 ^ n) (hn : n < 62) : bits .andNot .i64 (bits .xor .i64 (s : Int) (u : Int)) (mask : Int) = 0 ↔ ∀ v, v < n → inS mask v = true ∨ stA u v = stA s v := by
  have h62 := pow62 hn
  rw [bits_xor (Nat.lt_trans hs h62) (Nat.lt_trans hu h62), bits_andNot (Nat.xor_lt_two_pow (Nat.lt_trans hs h62) (Nat.lt_trans hu h62)) (Nat.lt_trans hm h62)]
  have hz : ∀ {x n : Nat} {v : Nat}, x < 2 ^ n → ¬ v < n → x.testBit v = false := fun h1 h2 => Nat.testBit_lt_two_pow (Nat.lt_of_lt_of_le h1 (Nat.pow_le_pow_right (by omega) (by omega)))
  constructor
  · intro h v hv
    have h0 : bset (fun v => (s ^^^ u).testBit v && !mask.testBit v) 62 = 0 := by omega
    have := congrArg (fun z => z.testBit v) h0
    simp only [bset_bit, Nat.zero_testBit, Nat.testBit_xor] at this
    rw [decide_eq_true (show v < 62 by omega), Bool.true_and] at this
    rw [stA_bit, stA_bit, inS_bit]
    cases h1 : mask.testBit v
    · rw [h1] at this
      refine .inr ?_
      cases h2 : s.testBit v <;> cases h3 : u.testBit v <;> rw [h2, h3] at this <;> first | rfl | cases this
    · exact .inl rfl
  · intro h
    have : bset (fun v => (s ^^^ u).testBit v && !mask.testBit v) 62 = 0 := bset_zero fun v hv => by
      rw [Nat.testBit_xor]
      by_cases h1 : v < n
      · rcases h v h1 with h2 | h2
        · rw [inS_bit] at h2; rw [h2]; simp
        · rw [stA_bit, stA_bit] at h2; rw [h2]; simp
      · rw [hz hs h1, hz hu h1]; rfl
    rw [this]
    rfl
theorem ref16_Quantify_s {d : GDiagram} {mask : Int} {all : Bool} {Q : GDiagram → Prop} (h : VD d) (hm : 0 ≤ mask ∧ mask < ((2 ^ d.Order.length : Nat) : Int)) (hQ : Q (canD d.Order (quF (fun x y => if all then x && y else x || y) (inS mask.toNat) d.Order.length (dF d)))) : ref16_Quantify_W d mask all Q := by
  have hn := h.ord.le
  have hp := dpow24 hn
  obtain ⟨e, rfl⟩ : ∃ e : Nat, mask = e := ⟨mask.toNat, by omega⟩
  rw [Int.toNat_natCast] at hQ
  have hlt := natO_lt h.ord
  generalize hG : quF (fun x y => if all then x && y else x || y) (inS e) d.Order.length (dF d) = G at hQ
  -- the function by its states
  have key : ∀ s : Nat, s < 2 ^ d.Order.length → (G (stA s) = !all ↔ ∃ u, u < 2 ^ d.Order.length ∧ (∀ v, v < d.Order.length → inS e v = true ∨ stA u v = stA s v) ∧ dF d (stA u) = !all) := fun s hs => by
    have k0 : ∀ (f : Asg → Bool), Dep f (natO d.Order) → (quF (fun x y => x || y) (inS e) d.Order.length f (stA s) = true ↔ ∃ u, u < 2 ^ d.Order.length ∧ (∀ v, v < d.Order.length → inS e v = true ∨ stA u v = stA s v) ∧ f (stA u) = true) := fun f hf => by
      rw [quF_or]
      constructor
      · rintro ⟨τ, h1, h2⟩
        refine ⟨bset τ d.Order.length, bset_lt _, fun v hv => ?_, by rw [dep_stA hf hlt]; exact h2⟩
        rw [stA_bset hv]
        exact (h1 v).imp (fun h3 => h3.2) id
      · rintro ⟨u, h0, h1, h2⟩
        refine ⟨fun v => if v < d.Order.length then stA u v else stA s v, fun v => ?_, ?_⟩
        · by_cases hv : v < d.Order.length
          · dsimp only; rw [if_pos hv]; exact (h1 v hv).imp (fun h3 => ⟨hv, h3⟩) id
          · dsimp only; rw [if_neg hv]; exact .inr rfl
        · rw [← h2]
          exact hf _ _ fun v hv => if_pos (hlt v hv)
    rw [← hG]
    cases all with
    | false => exact k0 (dF d) h.dep
    | true =>
      have := k0 (fun σ => !dF d σ) h.dep.notF
      have e2 : quF (fun x y => if true = true then x && y else x || y) (inS e) d.Order.length (dF d) (stA s) = quF (fun x y => x && y) (inS e) d.Order.length (dF d) (stA s) := rfl
      rw [e2, quF_dual, Bool.not_true, Bool.not_eq_false', this]
      refine exists_congr fun u => and_congr_right fun _ => and_congr_right fun _ => ?_
      cases dF d (stA u) <;> simp
  refine ref15_Table_s h ?_
  rw [show dn d.Nodes d.Root = dF d from rfl]
  refine loopUp (n := 2 ^ d.Order.length) (fun k => ((k : Int), (List.range k).map fun s => G (stA s))) (fun y => y.1) 0 (fun k => by dsimp only; omega) rfl (fun k next hk hn' => ?_) (fun next => ?_)
  · dsimp only
    rw [tabF_len]
    refine condT (fun _ => ?_) (fun hc => absurd (show (k : Int) < ((2 ^ d.Order.length : Nat) : Int) by omega) hc)
    refine loopInv (n := 2 ^ d.Order.length) (fun i y => y.2 = (i : Int) ∧ (y.1 = !all ↔ ∃ u, u < i ∧ (∀ v, v < d.Order.length → inS e v = true ∨ stA u v = stA k v) ∧ dF d (stA u) = !all)) (fun y => y.2) 0 (fun i y hy => by rw [hy.1]; omega) ⟨rfl, by cases all <;> simp⟩ ?_ ?_
    · rintro i ⟨v, u⟩ next2 hi ⟨hx, hv⟩ hn2
      dsimp only at hx hv
      subst hx
      refine condT (fun _ => ⟨fun x => x = decide ((∀ v, v < d.Order.length → inS e v = true ∨ stA i v = stA k v) ∧ dF d (stA i) = !all), condE (fun h1 => ?_) (fun h1 => ?_), ?_⟩) (fun hc => absurd (show (i : Int) < ((2 ^ d.Order.length : Nat) : Int) by omega) hc)
      · rw [bits_same hk hi (by omega) (by omega)] at h1
        rw [tabF_at hi]
        refine ⟨⟨by omega, by omega⟩, ?_⟩
        rw [show decide ((∀ v, v < d.Order.length → inS e v = true ∨ stA i v = stA k v) ∧ dF d (stA i) = !all) = decide (dF d (stA i) = !all) from decide_eq_decide.2 ⟨fun h2 => h2.2, fun h2 => ⟨h1, h2⟩⟩]
        cases dF d (stA i) <;> cases all <;> rfl
      · rw [Ne, bits_same hk hi (by omega) (by omega)] at h1
        exact (decide_eq_false fun h2 => h1 h2.1).symm
      · rintro x rfl
        have hmore : ∀ {P : Nat → Prop}, (∃ u, u < i + 1 ∧ P u) ↔ (∃ u, u < i ∧ P u) ∨ P i := fun {P} => by
          constructor
          · rintro ⟨u, h1, h2⟩
            rcases Nat.lt_or_ge u i with h3 | h3
            · exact .inl ⟨u, h3, h2⟩
            · obtain rfl : u = i := by omega
              exact .inr h2
          · rintro (⟨u, h1, h2⟩ | h2)
            · exact ⟨u, by omega, h2⟩
            · exact ⟨i, by omega, h2⟩
        refine condT (fun h1 => ⟨by unfold rng; omega, hn2 _ ⟨by dsimp only; omega, ?_⟩⟩) (fun h1 => ⟨by unfold rng; omega, hn2 _ ⟨by dsimp only; omega, ?_⟩⟩)
        · dsimp only
          rw [hmore]
          exact ⟨fun _ => .inr h1, fun _ => rfl⟩
        · dsimp only
          rw [hmore, hv]
          exact ⟨.inl, fun h2 => h2.resolve_right h1⟩
    · rintro ⟨v, u⟩ next2 ⟨hx, hv⟩
      dsimp only at hx hv
      subst hx
      refine condT (fun hc => absurd hc (by omega)) (fun _ => ?_)
      have e1 : v = G (stA k) := by
        have := hv.trans (key k hk).symm
        cases v <;> cases hg : G (stA k) <;> cases all <;> simp_all
      have : (List.range (k + 1)).map (fun s => G (stA s)) = ((List.range k).map fun s => G (stA s)) ++ [G (stA k)] := by simp [List.range_succ]
      rw [this] at hn'
      rw [e1, list_snoc, List.length_map, List.length_range]
      exact ⟨by omega, by unfold rng; omega, hn'⟩
  · dsimp only
    rw [tabF_len]
    refine condT (fun hc => absurd hc (by omega)) (fun _ => ?_)
    exact ref15_Of_s h.ord (f := G) (by rw [← hG]; exact h.dep.quF _) hQ
end Go.Gg
/- The diagrams of functions are accepted; the laws' own functions. Conditions: few events. -/
namespace Go.Gg
theorem upto_suc {k : Nat} : upto (k + 1) = upto k ++ [((2 + k : Nat) : Int)] := by simp [upto, List.range_succ]
theorem addF_num {n : Nat} {lev : Nat → Nat} {ord : List Nat} (hO : OrdL n lev ord) : ∀ (k l : Nat), l + k = n → ∀ {f : Asg → Bool} {N : List GDNode}, WT n lev N → Dep f (ord.drop l) →
    (∀ i x, N.length ≤ i → (addF (ord.drop l) f N).1[i]? = some x → l ≤ lev x.Var.toNat) ∧ ∀ N', Pre (addF (ord.drop l) f N).1 N' → Kids N' → numR N' (addF (ord.drop l) f N).2 (upto N.length) = upto (addF (ord.drop l) f N).1.length
  | 0, l, hk, f, N, h, hd => by
    have e : ord.drop l = [] := List.drop_eq_nil_of_le (by rw [hO.len]; omega)
    rw [e, addF]
    refine ⟨fun i x hi hx => ?_, fun N' _ _ => numR_old (.inl ?_)⟩
    · have := (List.getElem?_eq_some_iff.1 hx).1
      simp only at this
      omega
    · simp only; split <;> omega
  | k + 1, l, hk, f, N, h, hd => by
    by_cases hrep : ∃ r, r < 2 + N.length ∧ ∀ σ, den N σ r = f σ
    · obtain ⟨r, hr, hf⟩ := hrep
      rw [addF_rep hO h (k + 1) l hk hd hr hf]
      refine ⟨fun i x hi hx => ?_, fun N' _ _ => numR_old ?_⟩
      · have := (List.getElem?_eq_some_iff.1 hx).1
        simp only at this
        omega
      · rcases Nat.lt_or_ge r 2 with h2 | h2
        · exact .inl h2
        · exact .inr (mem_upto.2 ⟨by simp only; omega, by simp only; omega⟩)
    have hspec := addF_spec hO (k + 1) l hk h hd
    have hl : l < ord.length := by rw [hO.len]; omega
    have hdr : ord.drop l = ord[l] :: ord.drop (l + 1) := List.drop_eq_getElem_cons hl
    generalize hv : ord[l] = v at hdr
    have hat := hO.at_ l v (by rw [List.getElem?_eq_getElem hl, hv])
    rw [hdr] at hd hspec ⊢
    obtain ⟨a1, ⟨M1, a2⟩, a3, a4⟩ := addF_spec hO k (l + 1) (by omega) (f := fun σ => f (setA σ v false)) h hd.set
    obtain ⟨a5, a6⟩ := addF_num hO k (l + 1) (by omega) (f := fun σ => f (setA σ v false)) h hd.set
    rw [addF] at hspec ⊢
    generalize hA : addF (ord.drop (l + 1)) (fun σ => f (setA σ v false)) N = A at a1 a2 a3 a4 a5 a6 hspec ⊢
    obtain ⟨b1, ⟨M2, b2⟩, b3, b4⟩ := addF_spec hO k (l + 1) (by omega) (f := fun σ => f (setA σ v true)) a1 hd.set
    obtain ⟨b5, b6⟩ := addF_num hO k (l + 1) (by omega) (f := fun σ => f (setA σ v true)) a1 hd.set
    have hrepB : ∀ r, r < 2 + A.1.length → (∀ σ, den A.1 σ r = f (setA σ v true)) → addF (ord.drop (l + 1)) (fun σ => f (setA σ v true)) A.1 = (A.1, r) := fun r h1 h2 => addF_rep hO a1 k (l + 1) (by omega) hd.set h1 h2
    generalize hB : addF (ord.drop (l + 1)) (fun σ => f (setA σ v true)) A.1 = B at b1 b2 b3 b4 b5 b6 hspec hrepB ⊢
    have levB : ∀ i x, N.length ≤ i → B.1[i]? = some x → l + 1 ≤ lev x.Var.toNat := fun i x hi hx => by
      rcases Nat.lt_or_ge i A.1.length with h1 | h1
      · refine a5 i x hi ?_
        rw [b2, List.getElem?_append_left h1] at hx
        exact hx
      · exact b5 i x h1 hx
    unfold mkD at hspec ⊢
    by_cases heq : A.2 = B.2
    · rw [if_pos heq] at hspec ⊢
      have hBA : B = (A.1, A.2) := hrepB A.2 a3 fun σ => by
        rw [← b4 σ, ← heq, b2, den_app _ a3]
      refine ⟨fun i x hi hx => Nat.le_of_succ_le (levB i x hi hx), fun N' hp hK => ?_⟩
      simp only at hp ⊢
      rw [hBA] at hp ⊢
      exact a6 N' hp hK
    · rw [if_neg heq] at hspec ⊢
      by_cases hm : (⟨(v : Int), (A.2 : Int), (B.2 : Int)⟩ : GDNode) ∈ B.1
      · exfalso
        rw [if_pos hm] at hspec
        have hlt : B.1.idxOf (⟨(v : Int), (A.2 : Int), (B.2 : Int)⟩ : GDNode) < B.1.length := List.idxOf_lt_length_of_mem hm
        have hget : B.1[B.1.idxOf (⟨(v : Int), (A.2 : Int), (B.2 : Int)⟩ : GDNode)]? = some (⟨(v : Int), (A.2 : Int), (B.2 : Int)⟩ : GDNode) := by rw [List.getElem?_eq_getElem hlt, List.getElem_idxOf]
        rcases Nat.lt_or_ge (B.1.idxOf (⟨(v : Int), (A.2 : Int), (B.2 : Int)⟩ : GDNode)) N.length with h1 | h1
        · refine hrep ⟨2 + B.1.idxOf (⟨(v : Int), (A.2 : Int), (B.2 : Int)⟩ : GDNode), by omega, fun σ => ?_⟩
          have := hspec.2.2.2 σ
          simp only at this
          rw [← this, b2, a2, List.append_assoc, den_app _ (by
            rw [b2, a2, List.append_assoc] at h1
            omega)]
        · have := levB _ _ h1 hget
          simp only [Int.toNat_natCast] at this
          omega
      · rw [if_neg hm]
        refine ⟨fun i x hi hx => ?_, fun N' hp hK => ?_⟩
        · simp only at hx
          rcases Nat.lt_or_ge i B.1.length with h1 | h1
          · rw [List.getElem?_append_left h1] at hx
            exact Nat.le_of_succ_le (levB i x hi hx)
          · have h2 := (List.getElem?_eq_some_iff.1 hx).1
            rw [List.length_append, List.length_singleton] at h2
            obtain rfl : i = B.1.length := by omega
            simp at hx
            subst hx
            simp only [Int.toNat_natCast]
            omega
        · simp only at hp ⊢
          obtain ⟨M, rfl⟩ := hp
          have hx : (B.1 ++ [(⟨(v : Int), (A.2 : Int), (B.2 : Int)⟩ : GDNode)] ++ M)[B.1.length]? = some (⟨(v : Int), (A.2 : Int), (B.2 : Int)⟩ : GDNode) := by simp
          have hNB : N.length ≤ B.1.length := by rw [b2, a2]; simp
          rw [numR_node hK hx (fun hc => by have := (mem_upto.1 hc).2; omega)]
          simp only [Int.toNat_natCast]
          rw [a6 _ ⟨M2 ++ [(⟨(v : Int), (A.2 : Int), (B.2 : Int)⟩ : GDNode)] ++ M, by rw [b2]; simp⟩ hK, b6 _ ⟨[(⟨(v : Int), (A.2 : Int), (B.2 : Int)⟩ : GDNode)] ++ M, by simp⟩ hK, List.length_append, List.length_singleton, upto_suc]
theorem WT.kids' {n : Nat} {lev : Nat → Nat} {N : List GDNode} (h : WT n lev N) : Kids N := fun i x hx => ⟨(h.nd i x hx).lo, (h.nd i x hx).hi⟩
section
variable {o : List Int} {f : Asg → Bool}
theorem VD_can (h : Or14 o) (hn : o.length ≤ 12) (hd : Dep f (natO o)) : VD (canD o f) := by
  obtain ⟨a, _, c, _⟩ := addF_all h.ord WT.nil hd
  have hl := addF_len (natO o) f []
  have hp : 2 ^ o.length ≤ 4096 := Nat.pow_le_pow_right (n := 2) (by omega) hn
  rw [natO_len] at hl
  have hnum := (addF_num h.ord o.length 0 (by omega) (f := f) WT.nil (by simpa using hd)).2 _ (Pre.refl _)
  rw [List.drop_zero] at hnum
  refine ⟨h, a, ⟨by show (0 : Int) ≤ ((addF (natO o) f []).2 : Int); omega, by show ((addF (natO o) f []).2 : Int).toNat < _; rw [Int.toNat_natCast]; exact c⟩, ?_, ?_⟩
  · show (addF (natO o) f []).1.length ≤ 4096
    simp only [List.length_nil] at hl
    omega
  · show numR (addF (natO o) f []).1 ((addF (natO o) f []).2 : Int).toNat [] = upto (addF (natO o) f []).1.length
    rw [Int.toNat_natCast]
    exact hnum a.kids'
theorem dF_can (h : Or14 o) (hd : Dep f (natO o)) : dF (canD o f) = f := by
  obtain ⟨_, _, _, e⟩ := addF_all h.ord WT.nil hd
  funext σ
  show den (addF (natO o) f []).1 σ ((addF (natO o) f []).2 : Int).toNat = f σ
  rw [Int.toNat_natCast]
  exact e σ
theorem can_lens (h : Or14 o) : (canD o f).Order.length ≤ 9223372036854775807 ∧ (canD o f).Nodes.length ≤ 9223372036854775807 := by
  have h1 := h.le
  have h2 := addF_len (natO o) f []
  rw [natO_len] at h2
  have := dpow24 h1
  refine ⟨by show o.length ≤ _; omega, ?_⟩
  show (addF (natO o) f []).1.length ≤ _
  simp only [List.length_nil] at h2
  omega
theorem base_can {b : GDiagram} {Q : Bool → Prop} (h : Or14 o) (hQ : Q (decide (canD o f = b))) : base_Diagram_W (canD o f) b Q := base_Diagram_s (can_lens h).1 (can_lens h).2 hQ
/-- Two diagrams of the same function. -/
theorem base_canE {b : GDiagram} {Q : Bool → Prop} (h : Or14 o) (hb : canD o f = b) (hQ : Q true) : base_Diagram_W (canD o f) b Q := base_can h (by rw [decide_eq_true hb]; exact hQ)
end
theorem opE_two {a b : GDiagram} (h : opE [a, b] = 0) : VD a ∧ VD b ∧ b.Order = a.Order := by
  obtain ⟨h1, h2⟩ := opE_zero h
  exact ⟨h1 0 (by simp), h1 1 (by simp), h2 1 (by simp)⟩
theorem opE_three {a b c : GDiagram} (h : opE [a, b, c] = 0) : (VD a ∧ VD b ∧ VD c) ∧ b.Order = a.Order ∧ c.Order = a.Order := by
  obtain ⟨h1, h2⟩ := opE_zero h
  exact ⟨⟨h1 0 (by simp), h1 1 (by simp), h1 2 (by simp)⟩, h2 1 (by simp), h2 2 (by simp)⟩
theorem opE_one' {a : GDiagram} (h : VD a) : opE [a] = 0 := by rw [opE_one, dgE_zero.2 h]
theorem opE_two' {a b : GDiagram} (ha : VD a) (hb : VD b) (ho : b.Order = a.Order) : opE [a, b] = 0 := by
  refine opE_of (fun i hi => ?_) (fun i hi => ?_)
  · simp only [List.length_cons, List.length_nil] at hi
    rcases (show i = 0 ∨ i = 1 by omega) with rfl | rfl
    · exact ha
    · exact hb
  · simp only [List.length_cons, List.length_nil] at hi
    rcases (show i = 0 ∨ i = 1 by omega) with rfl | rfl
    · rfl
    · exact ho
theorem opE_three' {a b c : GDiagram} (ha : VD a) (hb : VD b) (hc : VD c) (ho : b.Order = a.Order) (ho2 : c.Order = a.Order) : opE [a, b, c] = 0 := by
  refine opE_of (fun i hi => ?_) (fun i hi => ?_)
  · simp only [List.length_cons, List.length_nil] at hi
    rcases (show i = 0 ∨ i = 1 ∨ i = 2 by omega) with rfl | rfl | rfl
    · exact ha
    · exact hb
    · exact hc
  · simp only [List.length_cons, List.length_nil] at hi
    rcases (show i = 0 ∨ i = 1 ∨ i = 2 by omega) with rfl | rfl | rfl
    · rfl
    · exact ho
    · exact ho2
/-! ### The laws' own functions -/
def evD (i : Int) : GDiagram := ⟨[0, 1], [⟨i, 0, 1⟩], 2⟩
theorem or01 : Or14 [0, 1] := ordE_zero (by decide)
theorem dep01 {f : Asg → Bool} (h : ∀ σ σ' : Asg, σ 0 = σ' 0 → σ 1 = σ' 1 → f σ = f σ') : Dep f (natO [0, 1]) := fun σ σ' hh => h σ σ' (hh 0 (by decide)) (hh 1 (by decide))
theorem ev0 : evD 0 = canD [0, 1] (fun σ => σ 0) := rfl
theorem ev1 : evD 1 = canD [0, 1] (fun σ => σ 1) := rfl
theorem law16_awake_s {Q : Bool → Prop} (h : Q true) : law16_awake_W Q := by
  have d0 : Dep (fun σ : Asg => σ 0) (natO [0, 1]) := dep01 fun _ _ h0 _ => h0
  have d1 : Dep (fun σ : Asg => σ 1) (natO [0, 1]) := dep01 fun _ _ _ h1 => h1
  have dor : Dep (fun σ : Asg => σ 0 || σ 1) (natO [0, 1]) := d0.map2 d1 (fun x y => x || y)
  have dand : Dep (fun σ : Asg => σ 0 && σ 1) (natO [0, 1]) := d0.map2 d1 (fun x y => x && y)
  have v0 : VD (evD 0) := by rw [ev0]; exact VD_can or01 (by decide) d0
  have v1 : VD (evD 1) := by rw [ev1]; exact VD_can or01 (by decide) d1
  have f0 : dF (evD 0) = fun σ => σ 0 := by rw [ev0]; exact dF_can or01 d0
  have f1 : dF (evD 1) = fun σ => σ 1 := by rw [ev1]; exact dF_can or01 d1
  have ho : opE [evD 0, evD 1] = 0 := opE_two' v0 v1 rfl
  unfold law16_awake_W law16_event_W
  refine algebra_Or_s (a := evD 0) (b := evD 1) (fun _ => by decide) (fun hc => absurd ho hc) (fun _ => ?_)
  rw [f0, f1]
  have vor := VD_can or01 (by decide) dor
  have vand := VD_can or01 (by decide) dand
  refine algebra_Count_s (d := canD [0, 1] (fun σ => σ 0 || σ 1)) (fun hc => absurd (dgE_zero.2 vor) hc) (fun _ => ?_)
  rw [dF_can or01 dor]
  refine algebra_And_s (a := evD 0) (b := evD 1) (fun _ => by decide) (fun hc => absurd ho hc) (fun _ => ?_)
  rw [f0, f1]
  refine algebra_Least_s (d := canD [0, 1] (fun σ => σ 0 && σ 1)) (fun _ => by decide) (fun hc => absurd (dgE_zero.2 vand) hc) (fun _ hno => ?_) (fun _ m hm => ?_)
  · have := hno 3 (by decide)
    rw [dF_can or01 dand] at this
    exact absurd this (by decide)
  · rw [dF_can or01 dand] at hm
    have hm3 : m = 3 := hm.uniq ⟨by decide, by decide, fun s hs => by
      rcases (show s = 0 ∨ s = 1 ∨ s = 2 by omega) with rfl | rfl | rfl <;> decide⟩
    subst hm3
    exact condB (fun _ => condB (fun _ => condB (fun _ => condB (fun _ => condE (fun _ => condB (fun _ => condE (fun _ => h) (fun hc => absurd rfl hc)) (fun hc => by cases hc)) (fun hc => absurd rfl hc)) (fun hc => by cases hc)) (fun hc => by cases hc)) (fun hc => by cases hc)) (fun hc => by cases hc)
def largeB (d : GDiagram) : Bool := (decide (300 < d.Nodes.length) && decide (d.Nodes.length ≤ 4096)) || (decide (8 < d.Order.length) && decide (dgE d = 0)) || decide (100 < d.Order.length)
theorem large_no {d : GDiagram} (h : largeB d = false) (h0 : dgE d = 0) : d.Order.length ≤ 8 := by
  unfold largeB at h
  simp only [Bool.or_eq_false_iff, Bool.and_eq_false_iff, decide_eq_false_iff_not] at h
  omega
theorem law16_large_s {d : GDiagram} {Q : Bool → Prop} (h : Q (largeB d)) : law16_large_W d Q := by
  unfold largeB at h
  have tl : condW (decide (8 < (d.Order.length : Int)))
        (ref15_Check_W d fun r =>
        condW (r == 0)
          (Q true)
          (Q (decide (100 < (d.Order.length : Int)))))
        (Q (decide (100 < (d.Order.length : Int)))) ∨ (300 < d.Nodes.length ∧ d.Nodes.length ≤ 4096) := by
    by_cases h1 : 300 < d.Nodes.length ∧ d.Nodes.length ≤ 4096
    · exact .inr h1
    · left
      have e1 : (decide (300 < d.Nodes.length) && decide (d.Nodes.length ≤ 4096)) = false := by
        simp only [Bool.and_eq_false_iff, decide_eq_false_iff_not]; omega
      have e2 : decide (100 < (d.Order.length : Int)) = decide (100 < d.Order.length) := decide_eq_decide.2 (by omega)
      rw [e1, Bool.false_or] at h
      rw [e2]
      refine condT (fun h2 => ref15_Check_s (condE (fun h3 => ?_) (fun h3 => ?_))) (fun h2 => ?_)
      · rw [decide_eq_true (show 8 < d.Order.length by omega), decide_eq_true h3] at h; simpa using h
      · rw [decide_eq_false h3, Bool.and_false, Bool.false_or] at h; exact h
      · rw [decide_eq_false (show ¬ 8 < d.Order.length by omega), Bool.false_and, Bool.false_or] at h; exact h
  rcases tl with tl | ⟨h1, h2⟩
  · refine condT (fun h3 => condT (fun h4 => ?_) (fun _ => tl)) (fun _ => tl)
    rw [decide_eq_true (show 300 < d.Nodes.length by omega), decide_eq_true (show d.Nodes.length ≤ 4096 by omega)] at h
    simpa using h
  · refine condT (fun _ => condT (fun _ => ?_) (fun h4 => absurd (show (d.Nodes.length : Int) ≤ 4096 by omega) h4)) (fun h3 => absurd (show (300 : Int) < (d.Nodes.length : Int) by omega) h3)
    rw [decide_eq_true h1, decide_eq_true h2] at h
    simpa using h
theorem law16_none_s {e : Int} {Q : Bool → Prop} (h : Q true) : law16_none_W noD (some e) e Q := by
  refine base_Diagram_s (by decide) (by decide) ?_
  rw [decide_eq_true (show noD = (⟨[], [], 0⟩ : GDiagram) from rfl)]
  refine condB (fun _ => condB (fun hc => by cases hc) (fun _ => condB (fun _ => ?_) (fun hc => by cases hc))) (fun hc => by cases hc)
  show Q (e == e)
  rw [beq_self_eq_true]
  exact h
theorem law16_valid_s {l : List GDiagram} {Q : Bool → Prop} (hl : l.length ≤ 1024) (h0 : Q false) (h1 : opE l = 0 → (∀ i : Nat, i < l.length → (at' l (i : Int)).Order.length ≤ 8) → Q true) : law16_valid_W l Q := by
  refine scanW (n := l.length) (fun i => largeB (at' l (i : Int)) = true) (by omega) (fun i next hi hI hn => ⟨⟨by omega, by omega⟩, law16_large_s (condB (fun _ => h0) (fun hb => hn (fun hc => by rw [hb] at hc; cases hc)))⟩) (fun hI => ref16_Check_s (by omega) ?_)
  by_cases hz : opE l = 0
  · rw [hz]
    exact h1 hz fun i hi => large_no (by simpa using hI i hi) (dgE_zero.2 ((opE_zero hz).1 i hi))
  · rw [show (opE l == 0) = false by simpa using hz]
    exact h0
end Go.Gg
