/- Tables of nodes: the program's functions that make nodes and choose. Conditions: none. -/
import Derived.Test.YtiamkdpljeemkaaMa
import Derived.Test.YtiamkdpljeemkaaWa
/- Tables of nodes: the program's functions that make nodes and choose. Conditions: none. -/
namespace Go.Gg
/-- A table of an order. -/
structure TS (o place : List Int) (nodes : List GDNode) (unique memo : GMap Int) : Prop where
  ord : Or14 o
  pl : place.length = o.length
  pl2 : ∀ v : Nat, v < o.length → at' place (v : Int) = (levO o v : Int)
  tb : TB o.length (levO o) nodes unique memo
abbrev lvO (o : List Int) (nodes : List GDNode) (r : Int) : Nat := lvl o.length (levO o) nodes r.toNat
section
variable {o place : List Int} {nodes : List GDNode} {unique memo : GMap Int}
theorem TS.wt (h : TS o place nodes unique memo) : WT o.length (levO o) nodes := h.tb.wt
theorem TS.at (h : TS o place nodes unique memo) {r : Int} (hr : Vd nodes r) (h2 : 2 ≤ r) : nodes[(r - 2).toNat]? = some (at' nodes (r - 2)) ∧ (0 ≤ (at' nodes (r - 2)).Var ∧ (at' nodes (r - 2)).Var < o.length) ∧ (0 ≤ (at' nodes (r - 2)).Lo ∧ (at' nodes (r - 2)).Lo < r) ∧ (0 ≤ (at' nodes (r - 2)).Hi ∧ (at' nodes (r - 2)).Hi < r) ∧
    lvO o nodes r = levO o (at' nodes (r - 2)).Var.toNat ∧ lvO o nodes r < lvO o nodes (at' nodes (r - 2)).Lo ∧ lvO o nodes r < lvO o nodes (at' nodes (r - 2)).Hi := by
  have h0 := hr.1
  have h1 := hr.2
  have hx := at_get (N := nodes) (i := (r - 2).toNat) (by omega)
  rw [show (((r - 2).toNat : Nat) : Int) = r - 2 by omega] at hx
  obtain ⟨a, b, c, d, e, f⟩ := h.wt.nd _ _ hx
  have hl : lvO o nodes r = levO o (at' nodes (r - 2)).Var.toNat := by
    have := lvl_at (n := o.length) (lev := levO o) hx
    rw [show 2 + (r - 2).toNat = r.toNat by omega] at this
    exact this
  exact ⟨hx, a, ⟨by omega, by omega⟩, ⟨by omega, by omega⟩, hl, by rw [hl]; exact e, by rw [hl]; exact f⟩
theorem level_s (h : TS o place nodes unique memo) (hb : nodes.length ≤ 1099511627776) {r : Int} (hr : Vd nodes r) {Q : Int → Prop} (hQ : Q (lvO o nodes r : Int)) : decision_Table__level__e_W r o place nodes unique memo Q := by
  have h0 := hr.1
  have h1 := hr.2
  refine condT (fun h2 => ?_) (fun h2 => ?_)
  · rw [show lvO o nodes r = o.length from lvl_lt (by omega)] at hQ; exact hQ
  · obtain ⟨_, a, _, _, e, _, _⟩ := h.at hr (by omega)
    have hp := h.pl
    have := h.pl2 (at' nodes (r - 2)).Var.toNat (by omega)
    rw [show (((at' nodes (r - 2)).Var.toNat : Nat) : Int) = (at' nodes (r - 2)).Var by omega] at this
    refine ⟨by unfold rng; omega, ⟨by omega, by omega⟩, ⟨by omega, by omega⟩, ?_⟩
    rw [this, ← e]
    exact hQ
/-- A reference with the event at a level set. -/
def kid (o : List Int) (nodes : List GDNode) (r : Int) (L : Nat) (b : Bool) : Int := if lvO o nodes r = L then (bif b then (at' nodes (r - 2)).Hi else (at' nodes (r - 2)).Lo) else r
theorem Kids_s (h : TS o place nodes unique memo) (hb : nodes.length ≤ 1099511627776) {r : Int} (hr : Vd nodes r) {L : Nat} (hL : L < o.length) {Q : Int → Int → Prop} (hQ : Q (kid o nodes r L false) (kid o nodes r L true)) : decision_Table__Kids__e_W r (L : Int) o place nodes unique memo Q := by
  have h0 := hr.1
  have h1 := hr.2
  refine level_s h hb hr (condN (fun hc => ?_) (fun hc => ?_))
  · rw [kid, kid, if_neg (by omega), if_neg (by omega)] at hQ; exact hQ
  · have h2 : 2 ≤ r := by
      by_cases h2 : r < 2
      · rw [show lvO o nodes r = o.length from lvl_lt (by omega)] at hc; omega
      · omega
    rw [kid, kid, if_pos (by omega), if_pos (by omega)] at hQ
    exact ⟨by unfold rng; omega, ⟨by omega, by omega⟩, hQ⟩
theorem kid_vd (h : TS o place nodes unique memo) {r : Int} (hr : Vd nodes r) {L : Nat} (hL : L < o.length) (b : Bool) : Vd nodes (kid o nodes r L b) := by
  have h0 := hr.1
  have h1 := hr.2
  unfold kid
  split
  · rename_i hc
    have h2 : 2 ≤ r := by
      by_cases h2 : r < 2
      · rw [show lvO o nodes r = o.length from lvl_lt (by omega)] at hc; omega
      · omega
    obtain ⟨_, _, c, d, _⟩ := h.at hr h2
    cases b
    · exact ⟨c.1, by simp only [cond_false]; omega⟩
    · exact ⟨d.1, by simp only [cond_true]; omega⟩
  · exact hr
theorem kid_lvl (h : TS o place nodes unique memo) {r : Int} (hr : Vd nodes r) {L : Nat} (hL : L < o.length) (hLr : L ≤ lvO o nodes r) (b : Bool) : L + 1 ≤ lvO o nodes (kid o nodes r L b) := by
  have h0 := hr.1
  have h1 := hr.2
  unfold kid
  split
  · rename_i hc
    have h2 : 2 ≤ r := by
      by_cases h2 : r < 2
      · rw [show lvO o nodes r = o.length from lvl_lt (by omega)] at hc; omega
      · omega
    obtain ⟨_, _, _, _, _, f, g⟩ := h.at hr h2
    cases b
    · simp only [cond_false]; omega
    · simp only [cond_true]; omega
  · rename_i hc; omega
theorem kid_dn (h : TS o place nodes unique memo) {r : Int} (hr : Vd nodes r) {v : Nat} (hv : v < o.length) (hLr : levO o v ≤ lvO o nodes r) (b : Bool) (σ : Asg) : dn nodes (kid o nodes r (levO o v) b) σ = dn nodes r (setA σ v b) := by
  have h0 := hr.1
  have h1 := hr.2
  have hlv := (h.ord.at_lev hv).1
  unfold kid
  split
  · rename_i hc
    have h2 : 2 ≤ r := by
      by_cases h2 : r < 2
      · rw [show lvO o nodes r = o.length from lvl_lt (by omega)] at hc; omega
      · omega
    obtain ⟨hx, a, c, d, e, _, _⟩ := h.at hr h2
    have hvv : (at' nodes (r - 2)).Var.toNat = v := h.ord.ord.lv.inj _ _ (by omega) hv (by omega)
    have := h.wt.den_cof hx σ b
    rw [hvv, show 2 + (r - 2).toNat = r.toNat by omega] at this
    unfold dn
    rw [this]
    cases b <;> rfl
  · rename_i hc
    exact (h.wt.den_set h1 (by show levO o v < lvO o nodes r; omega) σ).symm
theorem beq_dec {a b : Int} : (a == b) = decide (a = b) := by rw [Bool.eq_iff_iff]; simp
theorem vd_dep (h : TS o place nodes unique memo) {r : Int} (hr : Vd nodes r) {l : Nat} (hl : l ≤ lvl o.length (levO o) nodes r.toNat) : Dep (dn nodes r) ((natO o).drop l) :=
  (h.wt.dep h.ord.ord hr.2).sub fun v hv => h.ord.ord.mem.2 ⟨(h.ord.ord.mem.1 hv).1, by have := (h.ord.ord.mem.1 hv).2; omega⟩
theorem lvl_of_dep (h : TS o place nodes unique memo) {r : Int} (hr : Vd nodes r) {l : Nat} (hl : l ≤ o.length) (hd : Dep (dn nodes r) ((natO o).drop l)) : l ≤ lvO o nodes r := h.wt.lvl_ge h.ord.ord hr.2 hl hd
/-- The reference of a node. -/
theorem Make_s (h : TS o place nodes unique memo) (hb : nodes.length + 1 ≤ 1099511627776) {v lo hi : Int} (hv : 0 ≤ v ∧ v < o.length) (hlo : Vd nodes lo) (hhi : Vd nodes hi) (h1 : levO o v.toNat < lvO o nodes lo) (h2 : levO o v.toNat < lvO o nodes hi) :
    ∃ nodes' unique' r, (TS o place nodes' unique' memo ∧ Pre nodes nodes' ∧ Vd nodes' r ∧ (∀ σ, dn nodes' r σ = bif σ v.toNat then dn nodes hi σ else dn nodes lo σ) ∧ nodes'.length ≤ nodes.length + 1) ∧
      ∀ Q : List GDNode → GMap Int → Int → Prop, Q nodes' unique' r → decision_Table__Make__e2_W v lo hi o place nodes unique memo Q := by
  by_cases he : lo = hi
  · exact ⟨nodes, unique, lo, ⟨h, Pre.refl _, hlo, fun σ => by rw [← he]; cases σ v.toNat <;> rfl, by omega⟩, fun Q hQ => condE (fun _ => hQ) (fun hc => absurd he hc)⟩
  cases hm : mget unique [v, lo, hi] with
  | some r =>
    obtain ⟨a, b⟩ := h.tb.make_old hm
    refine ⟨nodes, unique, r, ⟨h, Pre.refl _, a, b, by omega⟩, fun Q hQ => condE (fun hc => absurd hc he) (fun _ => condB (fun hc => ?_) (fun _ => ?_))⟩
    · rw [hm] at hc; cases hc
    · rw [hm]; exact hQ
  | none =>
    obtain ⟨a, b, c⟩ := h.tb.make_new hv hlo hhi he h1 h2 hm
    refine ⟨_, _, _, ⟨⟨h.ord, h.pl, h.pl2, a⟩, ⟨_, rfl⟩, b, c, by simp⟩, fun Q hQ => condE (fun hc => absurd hc he) (fun _ => condB (fun _ => ⟨by unfold rng; omega, by rw [List.length_append, List.length_singleton]; omega, hQ⟩) (fun hc => ?_))⟩
    rw [hm] at hc; cases hc
/-- The reference of a choice. -/
theorem Choose_s : ∀ (k fu : Nat) {nodes : List GDNode} {unique memo : GMap Int} {c a b : Int}, k < fu → TS o place nodes unique memo → nodes.length + 2 ^ k ≤ 1099511627776 → Vd nodes c → Vd nodes a → Vd nodes b →
    o.length ≤ k + lvO o nodes c → o.length ≤ k + lvO o nodes a → o.length ≤ k + lvO o nodes b →
    ∃ nodes' unique' memo' r, (TS o place nodes' unique' memo' ∧ Pre nodes nodes' ∧ Vd nodes' r ∧ (∀ σ, dn nodes' r σ = bif dn nodes c σ then dn nodes a σ else dn nodes b σ) ∧ nodes'.length + 1 ≤ nodes.length + 2 ^ k) ∧
      ∀ Q : List GDNode → GMap Int → GMap Int → Int → Prop, Q nodes' unique' memo' r → decision_Table__Choose__e_W fu c a b o place nodes unique memo Q := by
  intro k
  induction k with
  | zero =>
    intro fu nodes unique memo c a b hfu h hb hc ha hb' lc la lb
    obtain ⟨g, rfl⟩ : ∃ g, fu = g + 1 := ⟨fu - 1, by omega⟩
    have hc0 := hc.1
    have hc2 : c < 2 := by
      by_cases h2 : c < 2
      · exact h2
      · obtain ⟨_, x, _, _, e, _⟩ := h.at hc (by omega)
        have := (h.ord.at_lev (v := (at' nodes (c - 2)).Var.toNat) (by omega)).1
        omega
    rcases (show c = 0 ∨ c = 1 by omega) with rfl | rfl
    · refine ⟨nodes, unique, memo, b, ⟨h, Pre.refl _, hb', fun σ => by rw [dn0]; rfl, by simp⟩, fun Q hQ => ?_⟩
      rw [decision_Table__Choose__e_W]
      refine ⟨fun _ => False, ⟨fun x => x = decide (a = b), condE (fun hh => by cases hh) (fun _ => beq_dec), ?_⟩, fun _ hh => hh.elim⟩
      rintro x rfl
      refine condT (fun he => by rw [he]; exact hQ) (fun _ => condE (fun _ => hQ) (fun hh => absurd rfl hh))
    · refine ⟨nodes, unique, memo, a, ⟨h, Pre.refl _, ha, fun σ => by rw [dn1]; rfl, by simp⟩, fun Q hQ => ?_⟩
      rw [decision_Table__Choose__e_W]
      refine ⟨fun _ => False, ⟨fun x => x = true, condE (fun _ => rfl) (fun hh => absurd rfl hh), ?_⟩, fun _ hh => hh.elim⟩
      rintro x rfl
      exact condB (fun _ => hQ) (fun hh => by cases hh)
  | succ k ih =>
    intro fu nodes unique memo c a b hfu h hb hc ha hb' lc la lb
    obtain ⟨g, rfl⟩ : ∃ g, fu = g + 1 := ⟨fu - 1, by omega⟩
    have hpk : 0 < 2 ^ k := Nat.pow_pos (by omega)
    rw [Nat.pow_succ] at hb
    have h1 : 1 ≤ 2 ^ (k + 1) := Nat.pow_pos (by omega)
    have hc0 := hc.1
    -- what is answered at once
    by_cases q1 : c = 1 ∨ a = b
    · refine ⟨nodes, unique, memo, a, ⟨h, Pre.refl _, ha, fun σ => ?_, by omega⟩, fun Q hQ => ?_⟩
      · rcases q1 with rfl | rfl
        · rw [dn1]; rfl
        · cases dn nodes c σ <;> rfl
      · rw [decision_Table__Choose__e_W]
        refine ⟨fun _ => False, ⟨fun x => x = true, condE (fun _ => rfl) (fun hh => by simpa using q1.resolve_left hh), ?_⟩, fun _ hh => hh.elim⟩
        rintro x rfl
        exact condB (fun _ => hQ) (fun hh => by cases hh)
    by_cases q2 : c = 0
    · refine ⟨nodes, unique, memo, b, ⟨h, Pre.refl _, hb', fun σ => by rw [q2, dn0]; rfl, by omega⟩, fun Q hQ => ?_⟩
      rw [decision_Table__Choose__e_W]
      refine ⟨fun _ => False, ⟨fun x => x = false, condE (fun hh => absurd (.inl hh) q1) (fun _ => by simpa using fun hh => q1 (.inr hh)), ?_⟩, fun _ hh => hh.elim⟩
      rintro x rfl
      exact condB (fun hh => by cases hh) (fun _ => condE (fun _ => hQ) (fun hh => absurd q2 hh))
    by_cases q3 : a = 1 ∧ b = 0
    · refine ⟨nodes, unique, memo, c, ⟨h, Pre.refl _, hc, fun σ => by rw [q3.1, q3.2, dn0, dn1]; cases dn nodes c σ <;> rfl, by omega⟩, fun Q hQ => ?_⟩
      rw [decision_Table__Choose__e_W]
      refine ⟨fun _ => False, ⟨fun x => x = false, condE (fun hh => absurd (.inl hh) q1) (fun _ => by simpa using fun hh => q1 (.inr hh)), ?_⟩, fun _ hh => hh.elim⟩
      rintro x rfl
      exact condB (fun hh => by cases hh) (fun _ => condE (fun hh => absurd hh q2) (fun _ => condE (fun _ => condE (fun _ => hQ) (fun hh => absurd q3.2 hh)) (fun hh => absurd q3.1 hh)))
    have enter : ∀ Q : List GDNode → GMap Int → GMap Int → Int → Prop,
        condW (Option.isSome (mget memo [c, a, b]))
        (Q nodes unique memo (Option.getD (mget memo [c, a, b]) 0))
        (decision_Table__level__e_W c o place nodes unique memo fun r =>
        decision_Table__level__e_W a o place nodes unique memo fun r1 =>
        decision_Table__level__e_W b o place nodes unique memo fun r2 =>
        decision_Table__Kids__e_W c (min (min r r1) r2) o place nodes unique memo fun r3 r4 =>
        decision_Table__Kids__e_W a (min (min r r1) r2) o place nodes unique memo fun r5 r6 =>
        decision_Table__Kids__e_W b (min (min r r1) r2) o place nodes unique memo fun r7 r8 =>
        decision_Table__Choose__e_W g r3 r5 r7 o place nodes unique memo fun u u1 u2 lo =>
        decision_Table__Choose__e_W g r4 r6 r8 o place u u1 u2 fun u3 u4 u5 hi =>
        ((0 : Int) ≤ (min (min r r1) r2) ∧ (min (min r r1) r2) < (o.length : Int)) ∧
        decision_Table__Make__e2_W (at' o (min (min r r1) r2)) lo hi o place u3 u4 u5 fun u6 u7 r9 =>
        Q u6 u7 (mput u5 [c, a, b] r9) r9) → decision_Table__Choose__e_W (g + 1) c a b o place nodes unique memo Q := fun Q hq => by
      rw [decision_Table__Choose__e_W]
      refine ⟨fun _ => True, ⟨fun x => x = false, condE (fun hh => absurd (.inl hh) q1) (fun _ => by simpa using fun hh => q1 (.inr hh)), ?_⟩, fun _ _ => hq⟩
      rintro x rfl
      exact condB (fun hh => by cases hh) (fun _ => condE (fun hh => absurd hh q2) (fun _ => condE (fun q4 => condE (fun hh => absurd ⟨q4, hh⟩ q3) (fun _ => trivial)) (fun _ => trivial)))
    cases hm : mget memo [c, a, b] with
    | some r =>
      obtain ⟨_, m2, m3⟩ := h.tb.me c a b r hm
      refine ⟨nodes, unique, memo, r, ⟨h, Pre.refl _, m2, m3, by omega⟩, fun Q hQ => enter Q ?_⟩
      rw [hm]
      exact condB (fun _ => hQ) (fun hh => by cases hh)
    | none =>
      have hc2 : 2 ≤ c := by omega
      obtain ⟨_, cv, _, _, ce, _⟩ := h.at hc hc2
      have clv := (h.ord.at_lev (v := (at' nodes (c - 2)).Var.toNat) (by omega)).1
      generalize hL : min (min (lvO o nodes c) (lvO o nodes a)) (lvO o nodes b) = L
      have hLn : L < o.length := by omega
      have hLI : min (min (lvO o nodes c : Int) (lvO o nodes a : Int)) (lvO o nodes b : Int) = (L : Int) := by omega
      have hbn : nodes.length ≤ 1099511627776 := by omega
      obtain ⟨v, hv⟩ : ∃ v : Nat, at' o (L : Int) = v := ⟨(at' o (L : Int)).toNat, by have := h.ord.rg L hLn; omega⟩
      have hvn : v < o.length := by have := h.ord.rg L hLn; omega
      have hvL : levO o v = L := by have := h.ord.lev_at hLn; rwa [hv, Int.toNat_natCast] at this
      have kv := fun (r : Int) (hr : Vd nodes r) (b : Bool) => kid_vd h hr hLn b
      have kl := fun (r : Int) (hr : Vd nodes r) (hl : L ≤ lvO o nodes r) (b : Bool) => kid_lvl h hr hLn hl b
      have kd := fun (r : Int) (hr : Vd nodes r) (hl : L ≤ lvO o nodes r) (b : Bool) (σ : Asg) => by
        have := kid_dn h hr hvn (by rw [hvL]; exact hl) b σ
        rwa [hvL] at this
      have lC : L ≤ lvO o nodes c := by omega
      have lA : L ≤ lvO o nodes a := by omega
      have lB : L ≤ lvO o nodes b := by omega
      obtain ⟨n1, u1, m1, lo, ⟨t1, p1, v1, d1, s1⟩, w1⟩ := ih g (by omega) h (by omega) (kv c hc false) (kv a ha false) (kv b hb' false) (by have := kl c hc lC false; omega) (by have := kl a ha lA false; omega) (by have := kl b hb' lB false; omega)
      have lv1 : ∀ r b, Vd nodes r → L ≤ lvO o nodes r → L + 1 ≤ lvO o n1 (kid o nodes r L b) := fun r b hr hl => by
        show L + 1 ≤ lvl o.length (levO o) n1 (kid o nodes r L b).toNat
        rw [Pre.lvl (kv r hr b) p1]; exact kl r hr hl b
      obtain ⟨n2, u2, m2, hi, ⟨t2, p2, v2, d2, s2⟩, w2⟩ := ih g (by omega) t1 (by omega) ((kv c hc true).pre p1) ((kv a ha true).pre p1) ((kv b hb' true).pre p1) (by have := lv1 c true hc lC; omega) (by have := lv1 a true ha lA; omega) (by have := lv1 b true hb' lB; omega)
      have v1' := v1.pre p2
      have dlo : ∀ σ, dn n2 lo σ = bif dn nodes c (setA σ v false) then dn nodes a (setA σ v false) else dn nodes b (setA σ v false) := fun σ => by
        rw [dn_pre v1 p2, d1, kd c hc lC, kd a ha lA, kd b hb' lB]
      have dhi : ∀ σ, dn n2 hi σ = bif dn nodes c (setA σ v true) then dn nodes a (setA σ v true) else dn nodes b (setA σ v true) := fun σ => by
        rw [d2, dn_pre (kv c hc true) p1, dn_pre (kv a ha true) p1, dn_pre (kv b hb' true) p1, kd c hc lC, kd a ha lA, kd b hb' lB]
      have dep : ∀ (r : Int) (hr : Vd nodes r), L ≤ lvO o nodes r → ∀ (b : Bool) (σ σ' : Asg), (∀ w ∈ (natO o).drop (L + 1), σ w = σ' w) → dn nodes r (setA σ v b) = dn nodes r (setA σ' v b) := fun r hr hl b σ σ' hh => by
        have := vd_dep h hr hl
        have hdr : (natO o).drop L = v :: (natO o).drop (L + 1) := by have := h.ord.ord.drop hvn; rwa [hvL] at this
        rw [hdr] at this
        exact this.set σ σ' hh
      have llo : L + 1 ≤ lvO o n2 lo := lvl_of_dep t2 v1' (by omega) fun σ σ' hh => by
        simp only [dlo]
        rw [dep c hc lC false σ σ' hh, dep a ha lA false σ σ' hh, dep b hb' lB false σ σ' hh]
      have lhi : L + 1 ≤ lvO o n2 hi := lvl_of_dep t2 v2 (by omega) fun σ σ' hh => by
        simp only [dhi]
        rw [dep c hc lC true σ σ' hh, dep a ha lA true σ σ' hh, dep b hb' lB true σ σ' hh]
      obtain ⟨n3, u3, r, ⟨t3, p3, v3, d3, s3⟩, w3⟩ := Make_s t2 (by omega) (v := (v : Int)) ⟨by omega, by omega⟩ v1' v2 (by rw [Int.toNat_natCast, hvL]; omega) (by rw [Int.toNat_natCast, hvL]; omega)
      have p13 := (p1.trans p2).trans p3
      have hres : ∀ σ, dn n3 r σ = bif dn nodes c σ then dn nodes a σ else dn nodes b σ := fun σ => by
        rw [d3, Int.toNat_natCast]
        cases hs : σ v
        · rw [cond_false, dlo, show setA σ v false = σ by rw [← hs]; exact setA_id]
        · rw [cond_true, dhi, show setA σ v true = σ by rw [← hs]; exact setA_id]
      refine ⟨n3, u3, mput m2 [c, a, b] r, r, ⟨⟨t3.ord, t3.pl, t3.pl2, t3.tb.memo_put (hc.pre p13) (ha.pre p13) (hb'.pre p13) v3 (fun σ => by rw [dn_pre hc p13, dn_pre ha p13, dn_pre hb' p13]; exact hres σ)⟩, p13, v3, hres, by rw [Nat.pow_succ]; omega⟩, fun Q hQ => enter Q ?_⟩
      rw [hm]
      refine condB (fun hh => by cases hh) (fun _ => level_s h hbn hc (level_s h hbn ha (level_s h hbn hb' ?_)))
      rw [hLI]
      refine Kids_s h hbn hc hLn (Kids_s h hbn ha hLn (Kids_s h hbn hb' hLn (w1 _ (w2 _ ⟨⟨by omega, by omega⟩, ?_⟩))))
      rw [hv]
      exact w3 _ hQ
end
end Go.Gg
namespace Go.Gg
section
variable {o place : List Int} {nodes : List GDNode} {unique memo : GMap Int}
/-- What an operation on a table leaves: a reference with a function, so many nodes more. -/
structure After (o place : List Int) (nodes nodes' : List GDNode) (unique' memo' : GMap Int) (r : Int) (f : Asg → Bool) (c : Nat) : Prop where
  ts : TS o place nodes' unique' memo'
  pre : Pre nodes nodes'
  vd : Vd nodes' r
  dn : dn nodes' r = f
  le : nodes'.length ≤ nodes.length + c
theorem Choose_e (h : TS o place nodes unique memo) (hb : nodes.length + 2 ^ o.length ≤ 1099511627776) {c a b : Int} (hc : Vd nodes c) (ha : Vd nodes a) (hb' : Vd nodes b) :
    ∃ nodes' unique' memo' r, After o place nodes nodes' unique' memo' r (fun σ => bif dn nodes c σ then dn nodes a σ else dn nodes b σ) (2 ^ o.length) ∧
      ∀ Q : List GDNode → GMap Int → GMap Int → Int → Prop, Q nodes' unique' memo' r → ∃ fu, decision_Table__Choose__e_W fu c a b o place nodes unique memo Q := by
  obtain ⟨n1, u1, m1, r, ⟨a1, a2, a3, a4, a5⟩, w⟩ := Choose_s o.length (o.length + 1) (by omega) h hb hc ha hb' (by omega) (by omega) (by omega)
  exact ⟨n1, u1, m1, r, ⟨a1, a2, a3, funext a4, by omega⟩, fun Q hQ => ⟨o.length + 1, w Q hQ⟩⟩
theorem And_e (h : TS o place nodes unique memo) (hb : nodes.length + 2 ^ o.length ≤ 1099511627776) {a b : Int} (ha : Vd nodes a) (hb' : Vd nodes b) :
    ∃ nodes' unique' memo' r, After o place nodes nodes' unique' memo' r (fun σ => dn nodes a σ && dn nodes b σ) (2 ^ o.length) ∧
      ∀ Q : List GDNode → GMap Int → GMap Int → Int → Prop, Q nodes' unique' memo' r → decision_Table__And__e_W a b o place nodes unique memo Q := by
  obtain ⟨n1, u1, m1, r, h1, w⟩ := Choose_e h hb ha hb' vd0
  refine ⟨n1, u1, m1, r, ⟨h1.ts, h1.pre, h1.vd, by rw [h1.dn, dn0]; funext σ; cases dn nodes a σ <;> rfl, h1.le⟩, fun Q hQ => w Q hQ⟩
theorem Or_e (h : TS o place nodes unique memo) (hb : nodes.length + 2 ^ o.length ≤ 1099511627776) {a b : Int} (ha : Vd nodes a) (hb' : Vd nodes b) :
    ∃ nodes' unique' memo' r, After o place nodes nodes' unique' memo' r (fun σ => dn nodes a σ || dn nodes b σ) (2 ^ o.length) ∧
      ∀ Q : List GDNode → GMap Int → GMap Int → Int → Prop, Q nodes' unique' memo' r → decision_Table__Or__e_W a b o place nodes unique memo Q := by
  obtain ⟨n1, u1, m1, r, h1, w⟩ := Choose_e h hb ha vd1 hb'
  refine ⟨n1, u1, m1, r, ⟨h1.ts, h1.pre, h1.vd, by rw [h1.dn, dn1]; funext σ; cases dn nodes a σ <;> rfl, h1.le⟩, fun Q hQ => w Q hQ⟩
theorem Not_e (h : TS o place nodes unique memo) (hb : nodes.length + 2 ^ o.length ≤ 1099511627776) {a : Int} (ha : Vd nodes a) :
    ∃ nodes' unique' memo' r, After o place nodes nodes' unique' memo' r (fun σ => !dn nodes a σ) (2 ^ o.length) ∧
      ∀ Q : List GDNode → GMap Int → GMap Int → Int → Prop, Q nodes' unique' memo' r → decision_Table__Not__e_W a o place nodes unique memo Q := by
  obtain ⟨n1, u1, m1, r, h1, w⟩ := Choose_e h hb ha vd0 vd1
  refine ⟨n1, u1, m1, r, ⟨h1.ts, h1.pre, h1.vd, by rw [h1.dn, dn0, dn1]; funext σ; cases dn nodes a σ <;> rfl, h1.le⟩, fun Q hQ => w Q hQ⟩
theorem Xor_e (h : TS o place nodes unique memo) (hb : nodes.length + 2 * 2 ^ o.length ≤ 1099511627776) {a b : Int} (ha : Vd nodes a) (hb' : Vd nodes b) :
    ∃ nodes' unique' memo' r, After o place nodes nodes' unique' memo' r (fun σ => dn nodes a σ != dn nodes b σ) (2 * 2 ^ o.length) ∧
      ∀ Q : List GDNode → GMap Int → GMap Int → Int → Prop, Q nodes' unique' memo' r → decision_Table__Xor__e_W a b o place nodes unique memo Q := by
  obtain ⟨n1, u1, m1, r1, h1, w1⟩ := Not_e h (by omega) hb'
  have := h1.le
  obtain ⟨n2, u2, m2, r, h2, w2⟩ := Choose_e h1.ts (by omega) (ha.pre h1.pre) h1.vd (hb'.pre h1.pre)
  have := h2.le
  refine ⟨n2, u2, m2, r, ⟨h2.ts, h1.pre.trans h2.pre, h2.vd, ?_, by omega⟩, fun Q hQ => w1 _ (w2 Q hQ)⟩
  rw [h2.dn, h1.dn, dn_pre ha h1.pre, dn_pre hb' h1.pre]
  funext σ
  show (bif dn nodes a σ then !dn nodes b σ else dn nodes b σ) = _
  cases dn nodes a σ <;> cases dn nodes b σ <;> rfl
theorem Event_e (h : TS o place nodes unique memo) (hb : nodes.length + 1 ≤ 1099511627776) {v : Int} (hv : 0 ≤ v ∧ v < o.length) :
    ∃ nodes' unique' r, After o place nodes nodes' unique' memo r (fun σ => σ v.toNat) 1 ∧
      ∀ Q : List GDNode → GMap Int → Int → Prop, Q nodes' unique' r → decision_Table__Event__e2_W v o place nodes unique memo Q := by
  have hl := (h.ord.at_lev (v := v.toNat) (by omega)).1
  obtain ⟨n1, u1, r, ⟨a1, a2, a3, a4, a5⟩, w⟩ := Make_s h hb hv vd0 vd1 (by show _ < lvl _ _ _ 0; rw [lvl_lt (by omega)]; exact hl) (by show _ < lvl _ _ _ 1; rw [lvl_lt (by omega)]; exact hl)
  refine ⟨n1, u1, r, ⟨a1, a2, a3, ?_, a5⟩, fun Q hQ => w Q hQ⟩
  funext σ
  rw [a4, dn0, dn1]
  cases σ v.toNat <;> rfl
/-- What has been replaced. -/
def Done (nodes : List GDNode) (e : Nat) (g : Asg → Bool) (done : GMap Int) : Prop := ∀ r x, mget done [r] = some x → Vd nodes r ∧ Vd nodes x ∧ ∀ σ, dn nodes x σ = dn nodes r (setA σ e (g σ))
theorem Done.pre {nodes' : List GDNode} {e : Nat} {g : Asg → Bool} {done : GMap Int} (h : Done nodes e g done) (hp : Pre nodes nodes') : Done nodes' e g done := fun r x hx => by
  obtain ⟨a, b, c⟩ := h r x hx
  exact ⟨a.pre hp, b.pre hp, fun σ => by rw [dn_pre a hp, dn_pre b hp]; exact c σ⟩
/-! ### What is given out -/
theorem mput_n {V : Type} {m : GMap V} {k : List Int} {v : V} : (mput m k v).n ≤ m.n + 1 := by
  unfold mput
  dsimp only
  cases (m.f k).isSome
  · exact Nat.le_refl _
  · exact Nat.le_succ _
theorem Small_1_e (h : TS o place nodes unique memo) (hb : nodes.length ≤ 1099511627776) : ∀ (k fu : Nat) {seen : GMap Bool} {r most : Int}, k < fu → Vd nodes r → o.length ≤ k + lvO o nodes r →
    ∃ seen' : GMap Bool, seen'.n + 1 ≤ seen.n + 2 ^ k ∧ ∀ Q : GMap Bool → Prop, Q seen' → decision_Table__Small_1__e_W fu r most seen o place nodes unique memo Q := by
  intro k
  induction k with
  | zero =>
    intro fu seen r most hfu hr hk
    obtain ⟨f, rfl⟩ : ∃ f, fu = f + 1 := ⟨fu - 1, by omega⟩
    refine ⟨seen, by simp, fun Q hQ => ?_⟩
    rw [decision_Table__Small_1__e_W]
    refine condT (fun _ => hQ) (fun hc => ?_)
    obtain ⟨_, x, _, _, e, _⟩ := h.at hr (by omega)
    have := (h.ord.at_lev (v := (at' nodes (r - 2)).Var.toNat) (by omega)).1
    omega
  | succ k ih =>
    intro fu seen r most hfu hr hk
    obtain ⟨f, rfl⟩ : ∃ f, fu = f + 1 := ⟨fu - 1, by omega⟩
    have hpk : 0 < 2 ^ k := Nat.pow_pos (by omega)
    rw [Nat.pow_succ]
    by_cases h2 : r < 2
    · refine ⟨seen, by omega, fun Q hQ => ?_⟩
      rw [decision_Table__Small_1__e_W]
      exact condT (fun _ => hQ) (fun hc => absurd h2 hc)
    by_cases h3 : Option.getD (mget seen [r]) false = true
    · refine ⟨seen, by omega, fun Q hQ => ?_⟩
      rw [decision_Table__Small_1__e_W]
      exact condT (fun _ => hQ) (fun _ => condB (fun _ => hQ) (fun hc => by rw [h3] at hc; cases hc))
    by_cases h4 : most < ((GMap.n seen : Nat) : Int)
    · refine ⟨seen, by omega, fun Q hQ => ?_⟩
      rw [decision_Table__Small_1__e_W]
      exact condT (fun _ => hQ) (fun _ => condB (fun _ => hQ) (fun _ => condT (fun _ => hQ) (fun hc => absurd h4 hc)))
    obtain ⟨_, _, xl, xh, _, xlo, xhi⟩ := h.at hr (by omega)
    have hr2 := hr.2
    have hn := mput_n (m := seen) (k := [r]) (v := true)
    obtain ⟨s1, c1, w1⟩ := ih f (seen := mput seen [r] true) (r := (at' nodes (r - 2)).Lo) (most := most) (by omega) ⟨xl.1, by omega⟩ (by omega)
    obtain ⟨s2, c2, w2⟩ := ih f (seen := s1) (r := (at' nodes (r - 2)).Hi) (most := most) (by omega) ⟨xh.1, by omega⟩ (by omega)
    refine ⟨s2, by omega, fun Q hQ => ?_⟩
    rw [decision_Table__Small_1__e_W]
    exact condT (fun hc => absurd hc h2) (fun _ => condB (fun hc => absurd hc h3) (fun _ => condT (fun hc => absurd hc h4) (fun _ => ⟨by unfold rng; omega, ⟨by omega, by omega⟩, s1, w1 _ rfl, by unfold rng; omega, ⟨by omega, by omega⟩, s2, w2 _ rfl, hQ⟩)))
theorem Small_e (h : TS o place nodes unique memo) (hb : nodes.length ≤ 1099511627776) (hn : o.length ≤ 12) {r : Int} (hr : Vd nodes r) {Q : Bool → Prop} (hQ : Q true) : decision_Table__Small__e_W r 4096 o place nodes unique memo Q := by
  obtain ⟨s, c, w⟩ := Small_1_e h hb o.length (o.length + 1) (seen := mnew) (r := r) (most := 4096) (by omega) hr (by omega)
  have h12 : 2 ^ o.length ≤ 4096 := Nat.pow_le_pow_right (n := 2) (by omega) hn
  have h0 : (mnew : GMap Bool).n = 0 := rfl
  refine ⟨o.length + 1, w _ ?_⟩
  rw [decide_eq_true (by omega)]
  exact hQ
theorem Export_1_e (h : TS o place nodes unique memo) (hb : nodes.length ≤ 1099511627776) {root : Int} {oo : List Int} : ∀ (k fu : Nat) {refs : GMap Int} {M : List GDNode} {r : Int}, k < fu → Vd nodes r → o.length ≤ k + lvO o nodes r → EX o.length (levO o) nodes refs M → M.length + 2 ^ k ≤ 1099511627776 →
    ∃ (refs' : GMap Int) (M' : List GDNode) (x : Int), (EX o.length (levO o) nodes refs' M' ∧ 0 ≤ x ∧ addF (natO o) (dn nodes r) M = (M', x.toNat) ∧ M'.length + 1 ≤ M.length + 2 ^ k ∧ ∀ q : Int, r < q → mget refs' [q] = mget refs [q]) ∧
      ∀ Q : GMap Int → List GDNode → Int → Prop, Q refs' M' x → decision_Table__Export_1__e2_W fu r root refs oo M o place nodes unique memo Q := by
  intro k
  induction k with
  | zero =>
    intro fu refs M r hfu hr hk hE hB
    obtain ⟨f, rfl⟩ : ∃ f, fu = f + 1 := ⟨fu - 1, by omega⟩
    have h0 := hr.1
    have h2 : r < 2 := by
      by_cases h2 : r < 2
      · exact h2
      · obtain ⟨_, x, _, _, e, _⟩ := h.at hr (by omega)
        have := (h.ord.at_lev (v := (at' nodes (r - 2)).Var.toNat) (by omega)).1
        omega
    have hm : mget refs [r] = some r := by
      rcases (show r = 0 ∨ r = 1 by omega) with rfl | rfl
      · exact hE.c0
      · exact hE.c1
    refine ⟨refs, M, r, ⟨hE, h0, hE.old h.ord.ord h.wt hm, by simp, fun _ _ => rfl⟩, fun Q hQ => ?_⟩
    rw [decision_Table__Export_1__e2_W, hm]
    exact condB (fun _ => hQ) (fun hc => by cases hc)
  | succ k ih =>
    intro fu refs M r hfu hr hk hE hB
    obtain ⟨f, rfl⟩ : ∃ f, fu = f + 1 := ⟨fu - 1, by omega⟩
    have hpk : 0 < 2 ^ k := Nat.pow_pos (by omega)
    rw [Nat.pow_succ] at hB ⊢
    cases hm : mget refs [r] with
    | some x =>
      refine ⟨refs, M, x, ⟨hE, (hE.sound r x hm).2.2.1, hE.old h.ord.ord h.wt hm, by omega, fun _ _ => rfl⟩, fun Q hQ => ?_⟩
      rw [decision_Table__Export_1__e2_W, hm]
      exact condB (fun _ => hQ) (fun hc => by cases hc)
    | none =>
      have h0 := hr.1
      have h2 : 2 ≤ r := by
        by_cases h2 : r < 2
        · rcases (show r = 0 ∨ r = 1 by omega) with rfl | rfl
          · rw [hE.c0] at hm; cases hm
          · rw [hE.c1] at hm; cases hm
        · omega
      obtain ⟨hx, _, xl, xh, _, xlo, xhi⟩ := h.at hr h2
      have hr2 := hr.2
      obtain ⟨r1, M1, y1, ⟨E1, z1, e1, c1, k1⟩, w1⟩ := ih f (refs := refs) (M := M) (r := (at' nodes (r - 2)).Lo) (by omega) ⟨xl.1, by omega⟩ (by omega) hE (by omega)
      obtain ⟨r2, M2, y2, ⟨E2, z2, e2, c2, k2⟩, w2⟩ := ih f (refs := r1) (M := M1) (r := (at' nodes (r - 2)).Hi) (by omega) ⟨xh.1, by omega⟩ (by omega) E1 (by omega)
      have hno : mget r2 [r] = none := by rw [k2 r (by omega), k1 r (by omega)]; exact hm
      have er : r = ((2 + (r - 2).toNat : Nat) : Int) := by omega
      have hN := EX.node h.ord.ord h.wt hE.wt E2 hx z1 z2 e1 e2 (by rw [← er]; exact hno)
      rw [← er] at hN
      obtain ⟨ha, hE3⟩ := hN
      have hlen : (M2 ++ [(⟨(at' nodes (r - 2)).Var, y1, y2⟩ : GDNode)]).length = M2.length + 1 := by rw [List.length_append]; rfl
      refine ⟨_, _, ((2 + M2.length : Nat) : Int), ⟨hE3, by omega, ?_, by rw [hlen]; omega, fun q hq => ?_⟩, fun Q hQ => ?_⟩
      · rw [show dn nodes r = fun σ => den nodes σ (2 + (r - 2).toNat) from ?_, ha, Int.toNat_natCast]
        funext σ
        unfold dn
        congr 1
        omega
      · rw [mget_put1, if_neg (by omega), k2 q (by omega), k1 q (by omega)]
      · rw [decision_Table__Export_1__e2_W, hm]
        refine condB (fun hc => by cases hc) (fun _ => ⟨by unfold rng; omega, ⟨by omega, by omega⟩, w1 _ (w2 _ ⟨by rw [hlen]; omega, by rw [hlen]; unfold rng; omega, ?_⟩)⟩)
        rw [hlen, mget_put1, if_pos rfl, show (1 + ((M2.length + 1 : Nat) : Int)) = ((2 + M2.length : Nat) : Int) by omega]
        exact hQ
theorem Export_e (h : TS o place nodes unique memo) (hb : nodes.length ≤ 1099511627776) {r : Int} (hr : Vd nodes r) {Q : GDiagram → Prop} (hQ : Q (canD o (dn nodes r))) : decision_Table__Export__e_W r o place nodes unique memo Q := by
  have hn := h.ord.le
  have hp := dpow24 hn
  obtain ⟨refs, M, x, ⟨_, z, e, _, _⟩, w⟩ := Export_1_e h hb (root := 0) (oo := o) o.length (o.length + 1) (refs := mput (mput (mnew : GMap Int) [0] 0) [1] 1) (M := []) (r := r) (by omega) hr (by omega) EX.start (by simp; omega)
  refine ⟨by omega, o.length + 1, w _ ?_⟩
  have : (⟨o, M, x⟩ : GDiagram) = canD o (dn nodes r) := by
    unfold canD
    rw [e]
    simp only [GDiagram.mk.injEq, true_and]
    omega
  rw [this]
  exact hQ
end
end Go.Gg
/- Lists are the same; a new table, what is imported, what is opened. Conditions: none. -/
namespace Go.Gg
theorem rep_len {α : Type} {n : Int} {x : α} (h : 0 ≤ n) : ((rep' n x).length : Int) = n := by simp [rep']; omega
theorem rep_at {α : Type} [Inhabited α] {n : Int} {x : α} {i : Nat} (h : (i : Int) < n) : at' (rep' n x) (i : Int) = x := by
  simp [at', rep', List.getD_eq_getElem?_getD, show i < n.toNat by omega]
theorem list_ne {α : Type} [Inhabited α] {a b : List α} {i : Int} (h : at' a i ≠ at' b i) : a ≠ b := fun he => h (by rw [he])
/-- A comparison of two lists of the same length, item by item. -/
theorem eqScan {α : Type} [Inhabited α] {a b : List α} {Q : Bool → Prop} {E : α → α → Bool} (hE : ∀ x y, E x y = false ↔ x = y) [Decidable (a = b)] (la : a.length ≤ 9223372036854775807) (hl : a.length = b.length) (h : Q (decide (a = b))) :
    loopW (σ := Int) 0 fun x next1 =>
      condW (decide (x < (a.length : Int)))
        (((0 : Int) ≤ x ∧ x < (a.length : Int)) ∧
        ((0 : Int) ≤ x ∧ x < (b.length : Int)) ∧
        condW (E (at' a x) (at' b x))
          (Q false)
          (rng (x + 1) ∧
          next1 (x + 1)))
        (Q true) := by
  refine scanW (n := a.length) (fun i => at' a (i : Int) ≠ at' b (i : Int)) la (fun i next hi hI hn => ⟨⟨by omega, by omega⟩, ⟨by omega, by omega⟩, condB (fun hc => ?_) (fun hc => hn (fun hh => hh ((hE _ _).1 hc)))⟩) (fun hI => ?_)
  · have hne : at' a (i : Int) ≠ at' b (i : Int) := fun hh => by rw [(hE _ _).2 hh] at hc; cases hc
    rw [decide_eq_false (list_ne hne)] at h
    exact h
  · rw [decide_eq_true (eq_by hl fun i hi => by have := hI i hi; exact Classical.not_not.1 this)] at h
    exact h
theorem bne_eq {x y : Int} : (x != y) = false ↔ x = y := by simp
theorem base_Ints_s {a b : List Int} {Q : Bool → Prop} (la : a.length ≤ 9223372036854775807) (h : Q (decide (a = b))) : base_Ints_W a b Q :=
  condN (fun hc => by rw [decide_eq_false (fun he => hc (by rw [he]))] at h; exact h) (fun hc => eqScan (E := fun x y => x != y) (fun _ _ => bne_eq) la (by omega) h)
theorem dnodE {x y : GDNode} : (!decide ([x.Var, x.Lo, x.Hi] = [y.Var, y.Lo, y.Hi])) = false ↔ x = y := by
  rw [Bool.not_eq_false', decide_eq_true_eq, node_ext]
instance : DecidableEq GDiagram := fun a b => decidable_of_iff (a.Order = b.Order ∧ a.Nodes = b.Nodes ∧ a.Root = b.Root) (by cases a; cases b; simp)
theorem base_Diagram_s {a b : GDiagram} {Q : Bool → Prop} (lo : a.Order.length ≤ 9223372036854775807) (ln : a.Nodes.length ≤ 9223372036854775807) (h : Q (decide (a = b))) : base_Diagram_W a b Q := by
  have no : a ≠ b → Q false := fun hne => by rw [decide_eq_false hne] at h; exact h
  refine condN (fun hc => no (fun he => hc (by rw [he]))) (fun h1 => base_Ints_s lo (condB (fun hc => no (fun he => ?_)) (fun h2 => ?_)))
  · rw [he] at hc; simp at hc
  · have h2' : a.Order = b.Order := by simpa using h2
    refine condN (fun hc => no (fun he => hc (by rw [he]))) (fun h3 => eqScan (E := fun (x y : GDNode) => !decide ([x.Var, x.Lo, x.Hi] = [y.Var, y.Lo, y.Hi])) (fun _ _ => dnodE) ln (by omega) ?_)
    have : decide (a.Nodes = b.Nodes) = decide (a = b) := decide_eq_decide.2 ⟨fun he => by cases a; cases b; simp only at h1 h2' he ⊢; rw [h1, h2', he], fun he => by rw [he]⟩
    rw [this]
    exact h
/-! ### A new table, and what is imported -/
theorem New_s {o : List Int} {Q : List Int → List Int → GMap Int → GMap Int → Prop} (h : Or14 o) (hQ : ∀ place, TS o place [] mnew mnew → Q o place mnew mnew) : decision_New_W o Q := by
  have hle := h.le
  refine ⟨by omega, ⟨by omega, by omega, by omega, by omega⟩, ?_⟩
  refine loopInv (n := o.length) (fun i y => y.1 = (i : Int) ∧ y.2.length = o.length ∧ ∀ v : Nat, v < o.length → levO o v < i → at' y.2 (v : Int) = (levO o v : Int)) (fun y => y.1) 0 (fun i y hy => by rw [hy.1]; omega) ⟨rfl, by simp [rep'], fun v hv hl => absurd hl (by omega)⟩ ?_ ?_
  · rintro i ⟨x, out⟩ next hi ⟨hx, hl, hI⟩ hn
    dsimp only at hx hl hI
    subst hx
    have hr := h.rg i hi
    obtain ⟨v, hv⟩ : ∃ v : Nat, at' o (i : Int) = v := ⟨(at' o (i : Int)).toNat, by omega⟩
    have hlv := h.lev_at hi
    rw [hv, Int.toNat_natCast] at hlv
    refine condT (fun _ => ⟨⟨by omega, by omega⟩, by omega, by unfold rng; omega, hn _ ⟨by dsimp only; omega, by dsimp only; rw [set_len]; exact hl, fun u hu hul => ?_⟩⟩) (fun hc => absurd (show (i : Int) < o.length by omega) hc)
    dsimp only
    rw [hv, at_set (by omega)]
    split
    · rename_i he; subst he; rw [hlv]
    · rename_i he
      refine hI u hu ?_
      rcases Nat.lt_or_ge (levO o u) i with h5 | h5
      · exact h5
      · have h6 := (h.at_lev hu).2
        rw [show levO o u = i by omega, hv] at h6
        omega
  · rintro ⟨x, out⟩ next ⟨hx, hl, hI⟩
    dsimp only at hx hl hI
    subst hx
    exact condT (fun hc => absurd hc (by omega)) (fun _ => hQ out ⟨h, hl, fun v hv => hI v hv (h.at_lev hv).1, TB.nil⟩)
/-- A diagram's function. -/
def dF (d : GDiagram) : Asg → Bool := dn d.Nodes d.Root
theorem VD.dep {d : GDiagram} (h : VD d) : Dep (dF d) (natO d.Order) := by
  have := h.wt.dep h.ord.ord h.root.2
  exact this.sub fun v hv => List.mem_of_mem_drop hv
/-- A table with its list of references. -/
structure Opn (l : List GDiagram) (place : List Int) (nodes : List GDNode) (unique memo : GMap Int) (refs : List Int) : Prop where
  ts : TS (at' l 0).Order place nodes unique memo
  len : refs.length = l.length
  le : nodes.length ≤ 4096 * l.length
  ref : ∀ i : Nat, i < l.length → Vd nodes (at' refs (i : Int)) ∧ dn nodes (at' refs (i : Int)) = dF (at' l (i : Int))
end Go.Gg
/- The functions of package algebra that give diagrams. Conditions: few events. -/
namespace Go.Gg
def noD : GDiagram := ⟨[], [], 0⟩
theorem wc12 {n : Nat} (h : n ≤ 12) : 2 ^ n ≤ 4096 ∧ 2 ^ n * (2 ^ n + 1) ≤ 16781312 := by
  have h1 : 2 ^ n ≤ 4096 := Nat.pow_le_pow_right (n := 2) (by omega) h
  exact ⟨h1, Nat.le_trans (Nat.mul_le_mul h1 (Nat.add_le_add_right h1 1)) (by decide)⟩
section
variable {o place : List Int} {nodes : List GDNode} {unique memo : GMap Int}
end
theorem at1 {x : GDiagram} : at' [x] (0 : Int) = x := rfl
/-- A function of a table that combines two references. -/
def Op2 (M : Int → Int → List Int → List Int → List GDNode → GMap Int → GMap Int → (List GDNode → GMap Int → GMap Int → Int → Prop) → Prop) (g : Bool → Bool → Bool) : Prop :=
  ∀ {o place : List Int} {nodes : List GDNode} {unique memo : GMap Int}, TS o place nodes unique memo → o.length ≤ 12 → nodes.length ≤ 1099494850560 → ∀ {a b : Int}, Vd nodes a → Vd nodes b →
    ∃ nodes' unique' memo' r, After o place nodes nodes' unique' memo' r (fun σ => g (dn nodes a σ) (dn nodes b σ)) 16777216 ∧
      ∀ Q : List GDNode → GMap Int → GMap Int → Int → Prop, Q nodes' unique' memo' r → M a b o place nodes unique memo Q
theorem After.mono {o place : List Int} {nodes nodes' : List GDNode} {unique' memo' : GMap Int} {r : Int} {f : Asg → Bool} {c c' : Nat} (h : After o place nodes nodes' unique' memo' r f c) (hc : c ≤ c') : After o place nodes nodes' unique' memo' r f c' := ⟨h.ts, h.pre, h.vd, h.dn, Nat.le_trans h.le (Nat.add_le_add_left hc _)⟩
theorem op_and : Op2 decision_Table__And__e_W (fun x y => x && y) := by
  intro o place nodes unique memo h hn hb a b ha hb'
  obtain ⟨h1, h2⟩ := wc12 hn
  obtain ⟨n1, u1, m1, r, ha, w⟩ := And_e h (by omega) ha hb'
  exact ⟨n1, u1, m1, r, ha.mono (by omega), w⟩
theorem op_or : Op2 decision_Table__Or__e_W (fun x y => x || y) := by
  intro o place nodes unique memo h hn hb a b ha hb'
  obtain ⟨h1, h2⟩ := wc12 hn
  obtain ⟨n1, u1, m1, r, ha, w⟩ := Or_e h (by omega) ha hb'
  exact ⟨n1, u1, m1, r, ha.mono (by omega), w⟩
theorem op_xor : Op2 decision_Table__Xor__e_W (fun x y => x != y) := by
  intro o place nodes unique memo h hn hb a b ha hb'
  obtain ⟨h1, h2⟩ := wc12 hn
  obtain ⟨n1, u1, m1, r, ha, w⟩ := Xor_e h (by omega) ha hb'
  exact ⟨n1, u1, m1, r, ha.mono (by omega), w⟩
theorem Opn.r0 {l : List GDiagram} {place : List Int} {nodes : List GDNode} {unique memo : GMap Int} {refs : List Int} (h : Opn l place nodes unique memo refs) (hl : 0 < l.length) : Vd nodes (at' refs 0) ∧ dn nodes (at' refs 0) = dF (at' l 0) := h.ref 0 hl
theorem Opn.r1 {l : List GDiagram} {place : List Int} {nodes : List GDNode} {unique memo : GMap Int} {refs : List Int} (h : Opn l place nodes unique memo refs) (hl : 1 < l.length) : Vd nodes (at' refs 1) ∧ dn nodes (at' refs 1) = dF (at' l 1) := h.ref 1 hl
theorem Opn.r2 {l : List GDiagram} {place : List Int} {nodes : List GDNode} {unique memo : GMap Int} {refs : List Int} (h : Opn l place nodes unique memo refs) (hl : 2 < l.length) : Vd nodes (at' refs 2) ∧ dn nodes (at' refs 2) = dF (at' l 2) := h.ref 2 hl
section
variable {a b : GDiagram} {Q : GDiagram → Option Int → Prop}
end
end Go.Gg
/- How many states, and the least one, the program's and the reference's. Conditions: few events. -/
namespace Go.Gg
theorem setA_setA {σ : Asg} {v : Nat} {b c : Bool} : setA (setA σ v c) v b = setA σ v b := by
  funext i; unfold setA; split <;> rfl
theorem setA_comm {σ : Asg} {v w : Nat} {b c : Bool} (h : v ≠ w) : setA (setA σ v b) w c = setA (setA σ w c) v b := by
  funext i
  unfold setA
  by_cases h1 : i = w
  · by_cases h2 : i = v
    · omega
    · rw [if_pos h1, if_neg h2, if_pos h1]
  · rw [if_neg h1]
    by_cases h2 : i = v
    · rw [if_pos h2, if_pos h2]
    · rw [if_neg h2, if_neg h2, if_neg h1]
theorem stA_bit {s v : Nat} : stA s v = s.testBit v := inS_bit
/-! ### The least state -/
structure Least (n : Nat) (f : Asg → Bool) (m : Nat) : Prop where
  lt : m < 2 ^ n
  yes : f (stA m) = true
  no : ∀ s, s < m → f (stA s) = false
theorem Least.ex {n : Nat} {f : Asg → Bool} : ∀ k, k ≤ 2 ^ n → (∀ s, s < k → f (stA s) = false) ∨ ∃ m, Least n f m
  | 0, _ => .inl fun s hs => absurd hs (by omega)
  | k + 1, hk => by
    rcases Least.ex (n := n) (f := f) k (by omega) with h | h
    · cases hf : f (stA k)
      · refine .inl fun s hs => ?_
        rcases Nat.lt_or_ge s k with h1 | h1
        · exact h s h1
        · obtain rfl : s = k := by omega
          exact hf
      · exact .inr ⟨k, by omega, hf, h⟩
    · exact .inr h
end Go.Gg
/- The reference's operations on tables. Conditions: none. -/
namespace Go.Gg
theorem tab_end {n : Nat} {g : Asg → Bool} {t : List Bool} (h : t.length = 2 ^ n) (h2 : ∀ s : Nat, s < 2 ^ n → at' t (s : Int) = g (stA s)) : t = tabF n g :=
  eq_by (by rw [h, tabF_len]) fun i hi => by rw [h2 i (by omega), tabF_at (by omega)]
/-- What a loop over a table leaves. -/
structure Upd (n : Nat) (g f : Asg → Bool) (i : Nat) (t : List Bool) : Prop where
  len : t.length = 2 ^ n
  at_ : ∀ s : Nat, s < 2 ^ n → at' t (s : Int) = if s < i then g (stA s) else f (stA s)
theorem Upd.start {n : Nat} {g f : Asg → Bool} : Upd n g f 0 (tabF n f) := ⟨tabF_len, fun s hs => by rw [if_neg (by omega), tabF_at hs]⟩
theorem Upd.old {n : Nat} {g f : Asg → Bool} {i : Nat} {t : List Bool} (h : Upd n g f i t) (hi : i < 2 ^ n) : at' t (i : Int) = f (stA i) := by rw [h.at_ i hi, if_neg (by omega)]
theorem Upd.step {n : Nat} {g f : Asg → Bool} {i : Nat} {t : List Bool} {b : Bool} (h : Upd n g f i t) (hi : i < 2 ^ n) (hb : b = g (stA i)) : Upd n g f (i + 1) (set' t (i : Int) b) := by
  refine ⟨by rw [set_len]; exact h.len, fun s hs => ?_⟩
  rw [at_set (by rw [h.len]; exact hi)]
  by_cases h1 : s = i
  · subst h1; rw [if_pos rfl, if_pos (by omega), hb]
  · rw [if_neg h1, h.at_ s hs]
    by_cases h2 : s < i
    · rw [if_pos h2, if_pos (by omega)]
    · rw [if_neg h2, if_neg (by omega)]
theorem Upd.keep {n : Nat} {g f : Asg → Bool} {i : Nat} {t : List Bool} (h : Upd n g f i t) (hb : f (stA i) = g (stA i)) : Upd n g f (i + 1) t := by
  refine ⟨h.len, fun s hs => ?_⟩
  rw [h.at_ s hs]
  by_cases h1 : s = i
  · subst h1; rw [if_neg (by omega), if_pos (by omega), hb]
  · by_cases h2 : s < i
    · rw [if_pos h2, if_pos (by omega)]
    · rw [if_neg h2, if_neg (by omega)]
theorem Upd.done {n : Nat} {g f : Asg → Bool} {t : List Bool} (h : Upd n g f (2 ^ n) t) : t = tabF n g := tab_end h.len fun s hs => by rw [h.at_ s hs, if_pos hs]
theorem Dep.const {b : Bool} {vs : List Nat} : Dep (fun _ => b) vs := fun _ _ _ => rfl
theorem stA_or {s n i : Nat} (hs : s < 2 ^ n) (hi : i < n) (hn : n < 62) : bits .or .i64 (s : Int) (1 * 2 ^ (Int.toNat (i : Int))) = (bset (setA (stA s) i true) n : Int) := by
  rw [shl_pow, bits_or (Nat.lt_trans hs (pow62 hn)) (pow62 (by omega))]
  congr 1
  refine Nat.eq_of_testBit_eq fun j => ?_
  rw [Nat.testBit_or, bset_bit]
  by_cases hj : j = i
  · subst hj; rw [Nat.testBit_two_pow_self, Bool.or_true, setA_same, decide_eq_true hi]; rfl
  · rw [Nat.testBit_two_pow_of_ne (fun hc => hj hc.symm), Bool.or_false, setA_ne hj, stA_bit]
    by_cases h1 : j < n
    · rw [decide_eq_true h1, Bool.true_and]
    · rw [decide_eq_false h1, Bool.false_and]; exact Nat.testBit_lt_two_pow (Nat.lt_of_lt_of_le hs (Nat.pow_le_pow_right (by omega) (by omega)))
theorem list_snoc {α : Type} {l : List α} {x : α} : (l ++ [x]).length = l.length + 1 := by simp
end Go.Gg
/- The diagrams of functions are accepted; the laws' own functions. Conditions: few events. -/
namespace Go.Gg
theorem upto_suc {k : Nat} : upto (k + 1) = upto k ++ [((2 + k : Nat) : Int)] := by simp [upto, List.range_succ]
theorem addF_num {n : Nat} {lev : Nat → Nat} {ord : List Nat} (hO : OrdL n lev ord) : ∀ (k l : Nat), l + k = n → ∀ {f : Asg → Bool} {N : List GDNode}, WT n lev N → Dep f (ord.drop l) →
    (∀ i x, N.length ≤ i → (addF (ord.drop l) f N).1[i]? = some x → l ≤ lev x.Var.toNat) ∧ ∀ N', Pre (addF (ord.drop l) f N).1 N' → Kids N' → numR N' (addF (ord.drop l) f N).2 (upto N.length) = upto (addF (ord.drop l) f N).1.length
  | 0, l, hk, f, N, h, hd => by
    have e : ord.drop l = [] := List.drop_eq_nil_of_le (by rw [hO.len]; omega)
    rw [e, addF]
    refine ⟨fun i x hi hx => ?_, fun N' _ _ => numR_old (.inl ?_)⟩
    · have := (List.getElem?_eq_some_iff.1 hx).1
      simp only at this
      omega
    · simp only; split <;> omega
  | k + 1, l, hk, f, N, h, hd => by
    by_cases hrep : ∃ r, r < 2 + N.length ∧ ∀ σ, den N σ r = f σ
    · obtain ⟨r, hr, hf⟩ := hrep
      rw [addF_rep hO h (k + 1) l hk hd hr hf]
      refine ⟨fun i x hi hx => ?_, fun N' _ _ => numR_old ?_⟩
      · have := (List.getElem?_eq_some_iff.1 hx).1
        simp only at this
        omega
      · rcases Nat.lt_or_ge r 2 with h2 | h2
        · exact .inl h2
        · exact .inr (mem_upto.2 ⟨by simp only; omega, by simp only; omega⟩)
    have hspec := addF_spec hO (k + 1) l hk h hd
    have hl : l < ord.length := by rw [hO.len]; omega
    have hdr : ord.drop l = ord[l] :: ord.drop (l + 1) := List.drop_eq_getElem_cons hl
    generalize hv : ord[l] = v at hdr
    have hat := hO.at_ l v (by rw [List.getElem?_eq_getElem hl, hv])
    rw [hdr] at hd hspec ⊢
    obtain ⟨a1, ⟨M1, a2⟩, a3, a4⟩ := addF_spec hO k (l + 1) (by omega) (f := fun σ => f (setA σ v false)) h hd.set
    obtain ⟨a5, a6⟩ := addF_num hO k (l + 1) (by omega) (f := fun σ => f (setA σ v false)) h hd.set
    rw [addF] at hspec ⊢
    generalize hA : addF (ord.drop (l + 1)) (fun σ => f (setA σ v false)) N = A at a1 a2 a3 a4 a5 a6 hspec ⊢
    obtain ⟨b1, ⟨M2, b2⟩, b3, b4⟩ := addF_spec hO k (l + 1) (by omega) (f := fun σ => f (setA σ v true)) a1 hd.set
    obtain ⟨b5, b6⟩ := addF_num hO k (l + 1) (by omega) (f := fun σ => f (setA σ v true)) a1 hd.set
    have hrepB : ∀ r, r < 2 + A.1.length → (∀ σ, den A.1 σ r = f (setA σ v true)) → addF (ord.drop (l + 1)) (fun σ => f (setA σ v true)) A.1 = (A.1, r) := fun r h1 h2 => addF_rep hO a1 k (l + 1) (by omega) hd.set h1 h2
    generalize hB : addF (ord.drop (l + 1)) (fun σ => f (setA σ v true)) A.1 = B at b1 b2 b3 b4 b5 b6 hspec hrepB ⊢
    have levB : ∀ i x, N.length ≤ i → B.1[i]? = some x → l + 1 ≤ lev x.Var.toNat := fun i x hi hx => by
      rcases Nat.lt_or_ge i A.1.length with h1 | h1
      · refine a5 i x hi ?_
        rw [b2, List.getElem?_append_left h1] at hx
        exact hx
      · exact b5 i x h1 hx
    unfold mkD at hspec ⊢
    by_cases heq : A.2 = B.2
    · rw [if_pos heq] at hspec ⊢
      have hBA : B = (A.1, A.2) := hrepB A.2 a3 fun σ => by
        rw [← b4 σ, ← heq, b2, den_app _ a3]
      refine ⟨fun i x hi hx => Nat.le_of_succ_le (levB i x hi hx), fun N' hp hK => ?_⟩
      simp only at hp ⊢
      rw [hBA] at hp ⊢
      exact a6 N' hp hK
    · rw [if_neg heq] at hspec ⊢
      by_cases hm : (⟨(v : Int), (A.2 : Int), (B.2 : Int)⟩ : GDNode) ∈ B.1
      · exfalso
        rw [if_pos hm] at hspec
        have hlt : B.1.idxOf (⟨(v : Int), (A.2 : Int), (B.2 : Int)⟩ : GDNode) < B.1.length := List.idxOf_lt_length_of_mem hm
        have hget : B.1[B.1.idxOf (⟨(v : Int), (A.2 : Int), (B.2 : Int)⟩ : GDNode)]? = some (⟨(v : Int), (A.2 : Int), (B.2 : Int)⟩ : GDNode) := by rw [List.getElem?_eq_getElem hlt, List.getElem_idxOf]
        rcases Nat.lt_or_ge (B.1.idxOf (⟨(v : Int), (A.2 : Int), (B.2 : Int)⟩ : GDNode)) N.length with h1 | h1
        · refine hrep ⟨2 + B.1.idxOf (⟨(v : Int), (A.2 : Int), (B.2 : Int)⟩ : GDNode), by omega, fun σ => ?_⟩
          have := hspec.2.2.2 σ
          simp only at this
          rw [← this, b2, a2, List.append_assoc, den_app _ (by
            rw [b2, a2, List.append_assoc] at h1
            omega)]
        · have := levB _ _ h1 hget
          simp only [Int.toNat_natCast] at this
          omega
      · rw [if_neg hm]
        refine ⟨fun i x hi hx => ?_, fun N' hp hK => ?_⟩
        · simp only at hx
          rcases Nat.lt_or_ge i B.1.length with h1 | h1
          · rw [List.getElem?_append_left h1] at hx
            exact Nat.le_of_succ_le (levB i x hi hx)
          · have h2 := (List.getElem?_eq_some_iff.1 hx).1
            rw [List.length_append, List.length_singleton] at h2
            obtain rfl : i = B.1.length := by omega
            simp at hx
            subst hx
            simp only [Int.toNat_natCast]
            omega
        · simp only at hp ⊢
          obtain ⟨M, rfl⟩ := hp
          have hx : (B.1 ++ [(⟨(v : Int), (A.2 : Int), (B.2 : Int)⟩ : GDNode)] ++ M)[B.1.length]? = some (⟨(v : Int), (A.2 : Int), (B.2 : Int)⟩ : GDNode) := by simp
          have hNB : N.length ≤ B.1.length := by rw [b2, a2]; simp
          rw [numR_node hK hx (fun hc => by have := (mem_upto.1 hc).2; omega)]
          simp only [Int.toNat_natCast]
          rw [a6 _ ⟨M2 ++ [(⟨(v : Int), (A.2 : Int), (B.2 : Int)⟩ : GDNode)] ++ M, by rw [b2]; simp⟩ hK, b6 _ ⟨[(⟨(v : Int), (A.2 : Int), (B.2 : Int)⟩ : GDNode)] ++ M, by simp⟩ hK, List.length_append, List.length_singleton, upto_suc]
theorem WT.kids' {n : Nat} {lev : Nat → Nat} {N : List GDNode} (h : WT n lev N) : Kids N := fun i x hx => ⟨(h.nd i x hx).lo, (h.nd i x hx).hi⟩
section
variable {o : List Int} {f : Asg → Bool}
theorem VD_can (h : Or14 o) (hn : o.length ≤ 12) (hd : Dep f (natO o)) : VD (canD o f) := by
  obtain ⟨a, _, c, _⟩ := addF_all h.ord WT.nil hd
  have hl := addF_len (natO o) f []
  have hp : 2 ^ o.length ≤ 4096 := Nat.pow_le_pow_right (n := 2) (by omega) hn
  rw [natO_len] at hl
  have hnum := (addF_num h.ord o.length 0 (by omega) (f := f) WT.nil (by simpa using hd)).2 _ (Pre.refl _)
  rw [List.drop_zero] at hnum
  refine ⟨h, a, ⟨by show (0 : Int) ≤ ((addF (natO o) f []).2 : Int); omega, by show ((addF (natO o) f []).2 : Int).toNat < _; rw [Int.toNat_natCast]; exact c⟩, ?_, ?_⟩
  · show (addF (natO o) f []).1.length ≤ 4096
    simp only [List.length_nil] at hl
    omega
  · show numR (addF (natO o) f []).1 ((addF (natO o) f []).2 : Int).toNat [] = upto (addF (natO o) f []).1.length
    rw [Int.toNat_natCast]
    exact hnum a.kids'
theorem dF_can (h : Or14 o) (hd : Dep f (natO o)) : dF (canD o f) = f := by
  obtain ⟨_, _, _, e⟩ := addF_all h.ord WT.nil hd
  funext σ
  show den (addF (natO o) f []).1 σ ((addF (natO o) f []).2 : Int).toNat = f σ
  rw [Int.toNat_natCast]
  exact e σ
theorem can_lens (h : Or14 o) : (canD o f).Order.length ≤ 9223372036854775807 ∧ (canD o f).Nodes.length ≤ 9223372036854775807 := by
  have h1 := h.le
  have h2 := addF_len (natO o) f []
  rw [natO_len] at h2
  have := dpow24 h1
  refine ⟨by show o.length ≤ _; omega, ?_⟩
  show (addF (natO o) f []).1.length ≤ _
  simp only [List.length_nil] at h2
  omega
theorem base_can {b : GDiagram} {Q : Bool → Prop} (h : Or14 o) (hQ : Q (decide (canD o f = b))) : base_Diagram_W (canD o f) b Q := base_Diagram_s (can_lens h).1 (can_lens h).2 hQ
/-- Two diagrams of the same function. -/
theorem base_canE {b : GDiagram} {Q : Bool → Prop} (h : Or14 o) (hb : canD o f = b) (hQ : Q true) : base_Diagram_W (canD o f) b Q := base_can h (by rw [decide_eq_true hb]; exact hQ)
end
end Go.Gg
/- Formulas: which nodes lie below the top, and the formula without the others. Conditions: none. -/
namespace Go.Gg
theorem at_set' {α : Type} [Inhabited α] {l : List α} {a : Int} {x : α} {j : Int} (ha : 0 ≤ a ∧ a < l.length) (hj : 0 ≤ j) : at' (set' l a x) j = if j = a then x else at' l j := by
  obtain ⟨n, rfl⟩ : ∃ n : Nat, a = n := ⟨a.toNat, by omega⟩
  obtain ⟨m, rfl⟩ : ∃ n : Nat, j = n := ⟨j.toNat, by omega⟩
  rw [at_set (by omega)]
  by_cases h : m = n
  · rw [if_pos h, if_pos (by omega)]
  · rw [if_neg h, if_neg (by omega)]
/-- Marks set at places. -/
def setAll (as : List Int) (m : List Bool) : List Bool := as.foldl (fun m a => set' m a true) m
theorem setAll_len : ∀ (as : List Int) (m : List Bool), (setAll as m).length = m.length
  | [], _ => rfl
  | a :: as, m => by rw [setAll, List.foldl_cons]; exact (setAll_len as _).trans set_len
theorem setAll_at : ∀ (as : List Int) (m : List Bool) {j : Int}, (∀ a ∈ as, 0 ≤ a ∧ a < m.length) → 0 ≤ j → (at' (setAll as m) j = true ↔ at' m j = true ∨ j ∈ as)
  | [], m, j, _, _ => by simp [setAll]
  | a :: as, m, j, h, hj => by
    have ha := h a (by simp)
    have ih := setAll_at as (set' m a true) (j := j) (fun b hb => by rw [set_len]; exact h b (List.mem_cons_of_mem _ hb)) hj
    rw [setAll, List.foldl_cons]
    show at' (setAll as (set' m a true)) j = true ↔ _
    rw [ih, at_set' ha hj, List.mem_cons]
    by_cases he : j = a
    · rw [if_pos he]; simp [he]
    · rw [if_neg he]; simp [he]
theorem setAll_snoc {as : List Int} {a : Int} {m : List Bool} : setAll (as ++ [a]) m = set' (setAll as m) a true := by simp [setAll]
theorem take_snoc {α : Type} [Inhabited α] {l : List α} {j : Nat} (h : j < l.length) : l.take (j + 1) = l.take j ++ [at' l (j : Int)] := by
  rw [List.take_add_one, List.getElem?_eq_getElem h]
  simp [at', List.getD_eq_getElem?_getD, h]
theorem at_in {α : Type} [Inhabited α] {l : List α} {j : Nat} (h : j < l.length) : at' l (j : Int) ∈ l := by
  simp only [at', Int.toNat_natCast, List.getD_eq_getElem?_getD, List.getElem?_eq_getElem h, Option.getD_some]
  exact List.getElem_mem h
theorem in_at {α : Type} [Inhabited α] {l : List α} {x : α} (h : x ∈ l) : ∃ j : Nat, j < l.length ∧ at' l (j : Int) = x := by
  obtain ⟨j, hj, rfl⟩ := List.mem_iff_getElem.1 h
  exact ⟨j, hj, by simp [at', List.getD_eq_getElem?_getD, hj]⟩
def stepM (f : GFormula) (i : Nat) (m : List Bool) : List Bool := if at' m (f.Vars + i) = true then setAll (at' f.Nodes (i : Int)).Args m else m
def markF (f : GFormula) : Nat → List Bool
  | 0 => set' (rep' (f.Vars + (f.Nodes.length : Int)) false) f.Top true
  | k + 1 => stepM f (f.Nodes.length - 1 - k) (markF f k)
section
variable {f : GFormula}
theorem markF_len (g : FG f) : ∀ k, ((markF f k).length : Int) = f.Vars + f.Nodes.length
  | 0 => by
    have := g.v0
    rw [markF, set_len, rep_len (by omega)]
  | k + 1 => by
    rw [markF, stepM]
    split
    · rw [setAll_len]; exact markF_len g k
    · exact markF_len g k
theorem argsIn (g : FG f) {i : Nat} (hi : i < f.Nodes.length) : ∀ a ∈ (at' f.Nodes (i : Int)).Args, 0 ≤ a ∧ a < f.Vars + i := fun a ha => by
  obtain ⟨j, hj, rfl⟩ := in_at ha
  exact (nodeE_ok (g.node i hi)).arg j hj
structure Below (f : GFormula) (k : Nat) (m : List Bool) : Prop where
  top : at' m f.Top = true
  cl : ∀ i : Nat, f.Nodes.length - k ≤ i → i < f.Nodes.length → at' m (f.Vars + i) = true → ∀ a ∈ (at' f.Nodes (i : Int)).Args, at' m a = true
theorem markF_below (g : FG f) : ∀ k, k ≤ f.Nodes.length → Below f k (markF f k)
  | 0, _ => by
    have := g.v0; have := g.top0; have := g.top
    have hl : ((rep' (f.Vars + (f.Nodes.length : Int)) false).length : Int) = f.Vars + f.Nodes.length := rep_len (by omega)
    refine ⟨?_, fun i h1 h2 => by omega⟩
    rw [markF, at_set' (by omega) (by omega), if_pos rfl]
  | k + 1, hk => by
    have ih := markF_below g k (by omega)
    have hl := markF_len g k
    have v0 := g.v0
    have hi : f.Nodes.length - 1 - k < f.Nodes.length := by omega
    have hin := argsIn g hi
    have hin' : ∀ a ∈ (at' f.Nodes ((f.Nodes.length - 1 - k : Nat) : Int)).Args, 0 ≤ a ∧ a < (markF f k).length := fun a ha => by have := hin a ha; omega
    rw [markF, stepM]
    split
    · rename_i hm
      refine ⟨(setAll_at _ _ hin' g.top0).2 (.inl ih.top), fun i h1 h2 h3 a ha => ?_⟩
      have ha0 := argsIn g h2 a ha
      rw [setAll_at _ _ hin' (by omega)] at h3 ⊢
      by_cases he : i = f.Nodes.length - 1 - k
      · subst he; exact .inr ha
      · rcases h3 with h3 | h3
        · exact .inl (ih.cl i (by omega) h2 h3 a ha)
        · have := hin _ h3; omega
    · rename_i hm
      refine ⟨ih.top, fun i h1 h2 h3 a ha => ?_⟩
      by_cases he : i = f.Nodes.length - 1 - k
      · subst he; exact absurd h3 hm
      · exact ih.cl i (by omega) h2 h3 a ha
theorem below_s (g : FG f) {Q : List Bool → Prop} (hQ : Q (markF f f.Nodes.length)) : formula_below_W f Q := by
  have v0 := g.v0; have v24 := g.v24; have n128 := g.n128; have t0 := g.top0; have tt := g.top
  refine ⟨by unfold rng; omega, ⟨by omega, by omega, by omega, by omega⟩, by omega, by unfold rng; omega, ?_⟩
  refine ⟨fun y => ∃ k : Nat, k ≤ f.Nodes.length ∧ y = ((f.Nodes.length : Int) - 1 - k, markF f k), fun y => (y.1 + 1).toNat, ⟨0, by omega, by simp [markF]⟩, ?_⟩
  rintro _ ⟨k, hk, rfl⟩
  refine condT (fun hc => ?_) (fun hc => ?_)
  · have ei : (f.Nodes.length : Int) - 1 - k = ((f.Nodes.length - 1 - k : Nat) : Int) := by omega
    have hi : f.Nodes.length - 1 - k < f.Nodes.length := by omega
    have hl := markF_len g k
    have hin := argsIn g hi
    rw [ei]
    refine ⟨by unfold rng; omega, by omega, condB (fun hm => ⟨by omega, ?_⟩) (fun hm => ⟨by unfold rng; omega, ⟨k + 1, by omega, ?_⟩, by dsimp only; omega⟩)⟩
    · have ll := (nodeE_ok (g.node _ hi)).len
      refine loopUp (n := (at' f.Nodes ((f.Nodes.length - 1 - k : Nat) : Int)).Args.length) (fun j => ((j : Int), setAll ((at' f.Nodes ((f.Nodes.length - 1 - k : Nat) : Int)).Args.take j) (markF f k))) (fun y => y.1) 0 (fun i => by dsimp only; omega) rfl (fun j next hj hn => ?_) (fun next => ?_)
      · have ha := hin _ (at_in hj)
        refine condT (fun _ => ⟨by omega, by rw [setAll_len]; omega, by unfold rng; omega, ?_⟩) (fun hc => absurd (show (j : Int) < _ by omega) hc)
        rw [take_snoc hj, setAll_snoc] at hn
        exact hn
      · refine condT (fun hc => absurd hc (by omega)) (fun _ => ⟨by unfold rng; omega, ⟨k + 1, by omega, ?_⟩, by dsimp only; omega⟩)
        rw [List.take_length, markF, stepM, if_pos hm]
        refine Prod.ext ?_ rfl
        show _ = _
        simp only; omega
    · rw [markF, stepM, if_neg (by rw [hm]; simp)]
      refine Prod.ext ?_ rfl
      show _ = _
      simp only; omega
  · obtain rfl : k = f.Nodes.length := by omega
    exact hQ
theorem sub_from {α : Type} [Inhabited α] {l : List α} {a : Int} (h : 0 ≤ a ∧ a ≤ l.length) : ((sub' l a (l.length : Int)).length : Int) = l.length - a ∧ ∀ i : Nat, (i : Int) < l.length - a → at' (sub' l a (l.length : Int)) (i : Int) = at' l (a + i) := by
  obtain ⟨n, rfl⟩ : ∃ n : Nat, a = n := ⟨a.toNat, by omega⟩
  refine ⟨by simp [sub']; omega, fun i hi => ?_⟩
  rw [show (n : Int) + (i : Int) = ((n + i : Nat) : Int) by omega]
  simp only [at', sub', List.getD_eq_getElem?_getD, Int.toNat_natCast]
  rw [List.getElem?_take, if_pos (by omega), List.getElem?_drop]
theorem Size_s {Q : Int → Int → Option Int → Prop} (ht : rng f.Top) (h1 : chkM f ≠ 0 → Q 0 0 (some (chkM f))) (h2 : FG f → ∀ r a, 0 ≤ r → (r = 0 → f.Top < f.Vars) → Q r a none) : formula_Size_W f Q := by
  refine formula_Check_s ht ?_
  by_cases h0 : chkM f = 0
  · have g := chk_ok.1 h0
    have v0 := g.v0; have v24 := g.v24; have n128 := g.n128
    have hl := markF_len g f.Nodes.length
    have hb := markF_below g f.Nodes.length (Nat.le_refl _)
    obtain ⟨sl, sa⟩ := sub_from (l := markF f f.Nodes.length) (a := f.Vars) (by omega)
    rw [h0]
    refine condB (fun hc => by cases hc) (fun _ => ⟨_, below_s g rfl, ⟨by omega, by omega, by omega⟩, ?_⟩)
    refine loopInv (n := f.Nodes.length) (fun i (y : Int × Int × Int) => (y.2.2 = (i : Int) ∧ 0 ≤ y.1 ∧ y.1 ≤ (i : Int) ∧ 0 ≤ y.2.1 ∧ y.2.1 ≤ 16 * (i : Int)) ∧ (y.1 = 0 → ∀ k : Nat, k < i → at' (markF f f.Nodes.length) (f.Vars + k) = false)) (fun y => y.2.2) 0 (fun i y hy => by rw [hy.1.1]; omega) ⟨by dsimp only; omega, fun _ k hk => absurd hk (by omega)⟩ ?_ ?_
    · rintro i ⟨nn, aa, x⟩ next hi ⟨⟨hx, a1, a2, a3, a4⟩, hz⟩ hn
      dsimp only at hx a1 a2 a3 a4 hz
      subst hx
      have ll := (nodeE_ok (g.node _ hi)).len
      dsimp only
      rw [sa i (by omega)]
      refine condT (fun _ => ⟨by omega, condB (fun hm => ⟨by unfold rng; omega, by omega, by unfold rng; omega, letIn ⟨by unfold rng; omega, hn _ ⟨by dsimp only; omega, fun hc => by dsimp only at hc; omega⟩⟩⟩) (fun hm => ⟨by unfold rng; omega, hn _ ⟨by dsimp only; omega, fun hc k hk => ?_⟩⟩)⟩) (fun hc => absurd (show (i : Int) < _ by omega) hc)
      by_cases hk2 : k < i
      · exact hz hc k hk2
      · obtain rfl : k = i := by omega
        exact hm
    · rintro ⟨nn, aa, x⟩ next ⟨⟨hx, a1, a2, a3, a4⟩, hz⟩
      dsimp only at hx a1 a2 a3 a4 hz
      subst hx
      refine condT (fun hc => absurd hc (by omega)) (fun _ => h2 g nn aa a1 fun hr => ?_)
      by_cases hT : f.Top < f.Vars
      · exact hT
      · have := hz hr (f.Top - f.Vars).toNat (by have := g.top; omega)
        rw [show f.Vars + ((f.Top - f.Vars).toNat : Int) = f.Top by omega, hb.top] at this
        cases this
  · have : Option.isSome (errO (chkM f)) = true := by rw [isSome_errO]; simp [h0]
    have e : errO (chkM f) = some (chkM f) := errO_ne' h0
    rw [e]
    exact condB (fun _ => h1 h0) (fun hc => by cases hc)
/-! ### The formula without the other nodes -/
theorem vals_ext {f g : GFormula} {s : Nat} (hV : f.Vars = g.Vars) : ∀ n, (∀ i : Nat, i < n → at' f.Nodes (i : Int) = at' g.Nodes (i : Int)) → vals f s n = vals g s n
  | 0, _ => by rw [vals, vals, hV]
  | n + 1, h => by rw [vals, vals, vals_ext hV n (fun i hi => h i (by omega)), h n (by omega)]
theorem nodeE_ext {f g : GFormula} {i : Nat} (hV : f.Vars = g.Vars) (h : at' f.Nodes (i : Int) = at' g.Nodes (i : Int)) : nodeE f i = nodeE g i := by
  unfold nodeE; rw [h, hV]
theorem at_map {α β : Type} [Inhabited α] [Inhabited β] {l : List α} {g : α → β} {j : Nat} (h : j < l.length) : at' (l.map g) (j : Int) = g (at' l (j : Int)) := by
  simp [at', List.getD_eq_getElem?_getD, h]
theorem Trim_s {Q : GFormula → Option Int → Prop} (g : FG f) (hQ : ∀ x, FG x → x.Vars = f.Vars → (∀ s, FV x s = FV f s) → Q x none) : formula_Trim_W f Q := by
  have v0 := g.v0; have v24 := g.v24; have n128 := g.n128; have t0 := g.top0; have tt := g.top
  have hl := markF_len g f.Nodes.length
  have hb := markF_below g f.Nodes.length (Nat.le_refl _)
  obtain ⟨sl, sa⟩ := sub_from (l := markF f f.Nodes.length) (a := f.Vars) (by omega)
  have hrl : ((rep' (f.Vars + (f.Nodes.length : Int)) (0 : Int)).length : Int) = f.Vars + f.Nodes.length := rep_len (by omega)
  refine formula_Check_s (by unfold rng; omega) ?_
  rw [chk_ok.2 g]
  refine condB (fun hc => by cases hc) (fun _ => ⟨by unfold rng; omega, ⟨by omega, by omega, by omega, by omega⟩, ?_⟩)
  refine loopInv (n := f.Vars.toNat) (fun i (y : Int × List Int) => (y.1 = (i : Int) ∧ (y.2.length : Int) = f.Vars + f.Nodes.length) ∧ ∀ v : Nat, v < i → at' y.2 (v : Int) = (v : Int)) (fun y => y.1) 0 (fun i y hy => by rw [hy.1.1]; omega) ⟨⟨rfl, hrl⟩, fun v hv => absurd hv (by omega)⟩ ?_ ?_
  · rintro i ⟨x, to⟩ next hi ⟨⟨hx, hl1⟩, hI⟩ hn
    dsimp only at hx hl1 hI
    subst hx
    refine condT (fun _ => ⟨by omega, by unfold rng; omega, hn _ ⟨⟨by dsimp only; omega, by dsimp only; rw [set_len]; exact hl1⟩, fun v hv => ?_⟩⟩) (fun hc => absurd (show (i : Int) < f.Vars by omega) hc)
    dsimp only
    rw [at_set (by omega)]
    split
    · rename_i he; rw [he]
    · exact hI v (by omega)
  rintro ⟨x, to0⟩ next ⟨⟨hx, hl1⟩, hI⟩
  dsimp only at hx hl1 hI
  subst hx
  refine condT (fun hc => absurd hc (by omega)) (fun _ => ⟨_, below_s g rfl, ⟨by omega, by omega, by omega⟩, ?_⟩)
  refine loopInv (n := f.Nodes.length) (fun i (y : Int × List Int × List GNode) => (y.1 = (i : Int) ∧ (y.2.1.length : Int) = f.Vars + f.Nodes.length ∧ y.2.2.length ≤ i) ∧ (∀ v : Nat, (v : Int) < f.Vars → at' y.2.1 (v : Int) = (v : Int)) ∧ (∀ n, n < y.2.2.length → nodeE ⟨f.Vars, y.2.2, 0⟩ n = 0) ∧
      ∀ k : Nat, k < i → at' (markF f f.Nodes.length) (f.Vars + k) = true → (0 ≤ at' y.2.1 (f.Vars + k) ∧ at' y.2.1 (f.Vars + k) < f.Vars + y.2.2.length) ∧ ∀ s, at' (vals ⟨f.Vars, y.2.2, 0⟩ s y.2.2.length) (at' y.2.1 (f.Vars + k)) = at' (vals f s f.Nodes.length) (f.Vars + k)) (fun y => y.1) 0
    (fun i y hy => by rw [hy.1.1]; omega) ⟨⟨rfl, hl1, by simp⟩, fun v hv => hI v (by omega), fun n hn => by simp at hn, fun k hk => absurd hk (by omega)⟩ ?_ ?_
  · rintro i ⟨x, to, x2⟩ next2 hi ⟨⟨hx, hl2, hx2⟩, hV, hN, hK⟩ hn
    dsimp only at hx hl2 hx2 hV hN hK
    subst hx
    have ng := nodeE_ok (g.node i hi)
    have hin := argsIn g hi
    dsimp only
    rw [sa i (by omega)]
    refine condT (fun _ => ⟨by omega, condB (fun hm => ?_) (fun hm => ⟨by omega, ?_⟩)⟩) (fun hc => absurd (show (i : Int) < _ by omega) hc)
    · have hm' : at' (markF f f.Nodes.length) (f.Vars + i) = false := by simpa using hm
      refine ⟨by unfold rng; omega, hn _ ⟨⟨by dsimp only; omega, hl2, by dsimp only; omega⟩, hV, hN, fun k hk hmk => ?_⟩⟩
      by_cases hk2 : k < i
      · exact hK k hk2 hmk
      · obtain rfl : k = i := by omega
        rw [hm'] at hmk; cases hmk
    · have hm' : at' (markF f f.Nodes.length) (f.Vars + i) = true := by simpa using hm
      have ll := ng.len
      have hcl := hb.cl i (by omega) hi hm'
      -- where the arguments have gone
      have harg : ∀ a ∈ (at' f.Nodes (i : Int)).Args, (0 ≤ at' to a ∧ at' to a < f.Vars + x2.length) ∧ ∀ s, at' (vals ⟨f.Vars, x2, 0⟩ s x2.length) (at' to a) = at' (vals f s i) a := fun a ha => by
        have h3 := hin a ha
        by_cases hv : a < f.Vars
        · obtain ⟨v, rfl⟩ : ∃ v : Nat, a = v := ⟨a.toNat, by omega⟩
          rw [hV v hv]
          refine ⟨by omega, fun s => ?_⟩
          rw [vals_bit (f := ⟨f.Vars, x2, 0⟩) (by omega) hv, vals_bit (by omega) hv]
        · obtain ⟨k, rfl⟩ : ∃ k : Nat, a = f.Vars + k := ⟨(a - f.Vars).toNat, by omega⟩
          obtain ⟨q1, q2⟩ := hK k (by omega) (hcl _ ha)
          refine ⟨q1, fun s => ?_⟩
          rw [q2, vals_pre (m := i) (by omega) (by omega) f.Nodes.length (by omega)]
      refine loopUp (n := (at' f.Nodes (i : Int)).Args.length) (fun j => ((j : Int), ((at' f.Nodes (i : Int)).Args.take j).map fun a => at' to a)) (fun y => y.1) 0 (fun j => by dsimp only; omega) rfl (fun j next3 hj hn3 => ?_) (fun next3 => ?_)
      · have h3 := hin _ (at_in hj)
        dsimp only
        refine condT (fun _ => ⟨by omega, by omega, by rw [list_snoc, List.length_map, List.length_take]; omega, by unfold rng; omega, ?_⟩) (fun hc => absurd (show (j : Int) < _ by omega) hc)
        rw [take_snoc hj, List.map_append] at hn3
        exact hn3
      · refine condT (fun hc => absurd hc (by omega)) (fun _ => ?_)
        dsimp only
        rw [List.take_length]
        generalize hxn : (⟨(at' f.Nodes (i : Int)).Kind, (at' f.Nodes (i : Int)).K, (at' f.Nodes (i : Int)).Args.map fun a => at' to a⟩ : GNode) = xn
        have hlast : at' (x2 ++ [xn]) (x2.length : Int) = xn := at_app_mid
        have hold : ∀ n : Nat, n < x2.length → at' (x2 ++ [xn]) (n : Int) = at' x2 (n : Int) := fun n hn => at_app_left (by omega) (by omega)
        have hvo : ∀ s n, n ≤ x2.length → vals ⟨f.Vars, x2 ++ [xn], 0⟩ s n = vals ⟨f.Vars, x2, 0⟩ s n := fun s n hn => vals_ext (f := ⟨f.Vars, x2 ++ [xn], 0⟩) (g := ⟨f.Vars, x2, 0⟩) rfl n fun k hk => hold k (by omega)
        have hval : ∀ s, at' (vals ⟨f.Vars, x2 ++ [xn], 0⟩ s (x2.length + 1)) (f.Vars + x2.length) = at' (vals f s f.Nodes.length) (f.Vars + i) := fun s => by
          have e := vals_node (f := ⟨f.Vars, x2 ++ [xn], 0⟩) (s := s) (i := x2.length) v0 (by simp)
          rw [show (⟨f.Vars, x2 ++ [xn], 0⟩ : GFormula).Nodes.length = x2.length + 1 from list_snoc] at e
          rw [e, vals_node v0 hi]
          show nodeV (at' (x2 ++ [xn]) (x2.length : Int)) _ = _
          rw [hlast, hvo s _ (Nat.le_refl _), ← hxn]
          unfold nodeV
          have ec : cnt ⟨(at' f.Nodes (i : Int)).Kind, (at' f.Nodes (i : Int)).K, (at' f.Nodes (i : Int)).Args.map fun a => at' to a⟩ (vals ⟨f.Vars, x2, 0⟩ s x2.length) (at' f.Nodes (i : Int)).Args.length = cnt (at' f.Nodes (i : Int)) (vals f s i) (at' f.Nodes (i : Int)).Args.length := by
            have : ∀ j, j ≤ (at' f.Nodes (i : Int)).Args.length → cnt ⟨(at' f.Nodes (i : Int)).Kind, (at' f.Nodes (i : Int)).K, (at' f.Nodes (i : Int)).Args.map fun a => at' to a⟩ (vals ⟨f.Vars, x2, 0⟩ s x2.length) j = cnt (at' f.Nodes (i : Int)) (vals f s i) j := fun j => by
              induction j with
              | zero => intro _; rfl
              | succ j ih =>
                intro hj
                rw [cnt, cnt, ih (by omega)]
                simp only
                rw [at_map (by omega), (harg _ (at_in (by omega))).2 s]
            exact this _ (Nat.le_refl _)
          simp only [List.length_map]
          rw [ec]
          unfold kindV
          simp only [List.length_map]
        refine ⟨by unfold rng; omega, by unfold rng; omega, by omega, by rw [list_snoc]; omega, by unfold rng; omega, hn _ ⟨⟨by dsimp only; omega, by dsimp only; rw [set_len]; exact hl2, by dsimp only; rw [list_snoc]; omega⟩, fun v hv => ?_, fun n hn2 => ?_, fun k hk hmk => ?_⟩⟩
        · dsimp only
          rw [at_set' (by omega) (by omega), if_neg (by omega)]
          exact hV v hv
        · dsimp only at hn2 ⊢
          rw [list_snoc] at hn2
          by_cases hlt : n < x2.length
          · rw [nodeE_ext (f := ⟨f.Vars, x2 ++ [xn], 0⟩) (g := ⟨f.Vars, x2, 0⟩) rfl (hold n hlt)]
            exact hN n hlt
          · obtain rfl : n = x2.length := by omega
            have h0 := g.node i hi
            unfold nodeE at h0 ⊢
            simp only [hlast]
            rw [← hxn]
            simp only [List.length_map]
            split at h0
            · cases h0
            rename_i c1
            split at h0
            · cases h0
            rename_i c2
            split at h0
            · cases h0
            rw [if_neg c1, if_neg c2, if_neg]
            · exact h0
            · rintro ⟨j, hj, hc⟩
              rw [at_map hj] at hc
              have := (harg _ (at_in hj)).1
              omega
        · dsimp only
          rw [at_set' (by omega) (by omega), list_snoc]
          by_cases hki : k = i
          · subst hki
            rw [if_pos rfl]
            exact ⟨by omega, hval⟩
          · rw [if_neg (by omega)]
            obtain ⟨q1, q2⟩ := hK k (by omega) hmk
            refine ⟨by omega, fun s => ?_⟩
            rw [vals_pre (m := x2.length) q1.1 (by show _ < (f.Vars.toNat : Int) + _; omega) (x2.length + 1) (by omega), hvo s _ (Nat.le_refl _)]
            exact q2 s
  · rintro ⟨x, to, x2⟩ next2 ⟨⟨hx, hl2, hx2⟩, hV, hN, hK⟩
    dsimp only at hx hl2 hx2 hV hN hK
    subst hx
    have hT : (0 ≤ at' to f.Top ∧ at' to f.Top < f.Vars + x2.length) ∧ ∀ s, at' (vals ⟨f.Vars, x2, 0⟩ s x2.length) (at' to f.Top) = at' (vals f s f.Nodes.length) f.Top := by
      by_cases hv : f.Top < f.Vars
      · obtain ⟨v, hv'⟩ : ∃ v : Nat, f.Top = v := ⟨f.Top.toNat, by omega⟩
        rw [hv'] at hv ⊢
        rw [hV v hv]
        refine ⟨by omega, fun s => ?_⟩
        rw [vals_bit (f := ⟨f.Vars, x2, 0⟩) (by omega) hv, vals_bit (by omega) hv]
      · obtain ⟨k, hk⟩ : ∃ k : Nat, f.Top = f.Vars + k := ⟨(f.Top - f.Vars).toNat, by omega⟩
        have hbt := hb.top
        rw [hk] at hbt ⊢
        exact hK k (by omega) hbt
    refine condT (fun hc => absurd hc (by omega)) (fun _ => ⟨by omega, hQ _ ⟨v0, v24, by show x2.length ≤ 128; omega, fun n hn => ?_, hT.1.1, hT.1.2⟩ rfl fun s => ?_⟩)
    · rw [nodeE_ext (f := ⟨f.Vars, x2, at' to f.Top⟩) (g := ⟨f.Vars, x2, 0⟩) rfl rfl]
      exact hN n hn
    · show at' (vals ⟨f.Vars, x2, at' to f.Top⟩ s x2.length) (at' to f.Top) = _
      rw [vals_ext (f := ⟨f.Vars, x2, at' to f.Top⟩) (g := ⟨f.Vars, x2, 0⟩) rfl _ (fun _ _ => rfl), hT.2 s]
      rfl
end
end Go.Gg
/- Loops whose outcome is known ahead; a node of a formula as a diagram. Conditions: few events. -/
namespace Go.Gg
/-- A loop over a known sequence of states. -/
theorem loopSeq {σ : Type} {n : Nat} (st : Nat → σ) (ix : σ → Int) (c : Int) (hix : ∀ i, i ≤ n → ix (st i) = i + c) {x0 : σ} {body : σ → (σ → Prop) → Prop} (h0 : x0 = st 0)
    (hs : ∀ i (next : σ → Prop), i < n → next (st (i + 1)) → body (st i) next) (he : ∀ (next : σ → Prop), body (st n) next) : loopW x0 body := by
  refine ⟨fun y => ∃ i, i ≤ n ∧ y = st i, fun y => n - (ix y - c).toNat, ⟨0, Nat.zero_le _, h0⟩, ?_⟩
  rintro _ ⟨i, hi, rfl⟩
  rcases Nat.lt_or_ge i n with h | h
  · refine hs i _ h ⟨⟨i + 1, h, rfl⟩, ?_⟩
    have h1 := hix i hi
    have h2 := hix (i + 1) h
    dsimp only
    rw [h1, h2]
    omega
  · obtain rfl : i = n := by omega
    exact he _
/-- A loop whose steps are told one after the other: its outcome is told, too. -/
theorem exLoop {σ τ : Type} {n : Nat} (Inv : Nat → σ → Prop) (ix : σ → Int) (c : Int) (hix : ∀ i y, Inv i y → ix y = i + c) {x0 : σ} {B : τ → σ → (σ → Prop) → Prop} (h0 : Inv 0 x0)
    (hs : ∀ i x, i < n → Inv i x → ∃ y, Inv (i + 1) y ∧ ∀ (Q : τ) (next : σ → Prop), next y → B Q x next) : ∃ y, Inv n y ∧ ∀ Q : τ, (∀ next, B Q y next) → loopW x0 (B Q) := by
  have key : ∀ k, k ≤ n → ∃ st : Nat → σ, st 0 = x0 ∧ (∀ i, i ≤ k → Inv i (st i)) ∧ ∀ i, i < k → ∀ (Q : τ) (next : σ → Prop), next (st (i + 1)) → B Q (st i) next := fun k => by
    induction k with
    | zero => exact fun _ => ⟨fun _ => x0, rfl, fun i hi => (by obtain rfl : i = 0 := (by omega); exact h0), fun i hi => absurd hi (by omega)⟩
    | succ k ih =>
      intro hk
      obtain ⟨st, a, b, d⟩ := ih (by omega)
      obtain ⟨y, hy, w⟩ := hs k (st k) (by omega) (b k (Nat.le_refl _))
      refine ⟨fun i => if i ≤ k then st i else y, by simp [a], fun i hi => ?_, fun i hi Q next hn => ?_⟩
      · by_cases h1 : i ≤ k
        · simp only [h1, if_true]; exact b i h1
        · obtain rfl : i = k + 1 := by omega
          simp only [h1, if_false]; exact hy
      · by_cases h1 : i = k
        · subst h1
          simp only [Nat.le_refl, if_true]
          simp only [show ¬ i + 1 ≤ i by omega, if_false] at hn
          exact w Q next hn
        · simp only [show i ≤ k by omega, if_true]
          simp only [show i + 1 ≤ k by omega, if_true] at hn
          exact d i (by omega) Q next hn
  obtain ⟨st, a, b, d⟩ := key n (Nat.le_refl _)
  exact ⟨st n, b n (Nat.le_refl _), fun Q he => loopSeq st ix c (fun i hi => hix i _ (b i hi)) a.symm (fun i next hi hn => d i hi Q next hn) he⟩
/-! ### Joins -/
def joinG (M : Int → Int → List Int → List Int → List GDNode → GMap Int → GMap Int → (List GDNode → GMap Int → GMap Int → Int → Prop) → Prop) (refs : List Int) (first : Int) (order : List Int) (place : List Int) (nodes : List GDNode) (unique : GMap Int) (memo : GMap Int) (Q : List GDNode → GMap Int → GMap Int → Int → Prop) : Prop :=
  loopW (σ := Int × Int × (List GDNode) × (GMap Int) × (GMap Int)) (first, 0, nodes, unique, memo) fun ⟨first1, x, x1, x2, x3⟩ next1 =>
    condW (decide (x < (refs.length : Int)))
      (((0 : Int) ≤ x ∧ x < (refs.length : Int)) ∧
      M first1 (at' refs x) order place x1 x2 x3 fun u u1 u2 first2 =>
      rng (x + 1) ∧
      next1 (first2, (x + 1), u, u1, u2))
      (Q x1 x2 x3 first1)
/-- A fold over the first references. -/
def gFold (g : Bool → Bool → Bool) (c : Bool) (b : Nat → Bool) : Nat → Bool
  | 0 => c
  | i + 1 => g (gFold g c b i) (b i)
section
variable {o place : List Int} {nodes : List GDNode} {unique memo : GMap Int}
theorem join_s {M : Int → Int → List Int → List Int → List GDNode → GMap Int → GMap Int → (List GDNode → GMap Int → GMap Int → Int → Prop) → Prop} {g : Bool → Bool → Bool} (hM : Op2 M g) (h : TS o place nodes unique memo) (hn : o.length ≤ 12) {refs : List Int} {first : Int} {c : Bool} (hl : refs.length ≤ 16)
    (hb : nodes.length ≤ 549755813888) (hf : Vd nodes first) (hc : dn nodes first = fun _ => c) (hr : ∀ j : Nat, j < refs.length → Vd nodes (at' refs (j : Int))) :
    ∃ nodes' unique' memo' r, After o place nodes nodes' unique' memo' r (fun σ => gFold g c (fun j => dn nodes (at' refs (j : Int)) σ) refs.length) 268435456 ∧
      ∀ Q : List GDNode → GMap Int → GMap Int → Int → Prop, Q nodes' unique' memo' r → joinG M refs first o place nodes unique memo Q := by
  obtain ⟨⟨r, x, n1, u1, m1⟩, ⟨⟨hx, hT⟩, hP, hV, hD, hL⟩, w⟩ := exLoop (τ := List GDNode → GMap Int → GMap Int → Int → Prop) (n := refs.length) (x0 := (first, 0, nodes, unique, memo))
    (fun i (y : Int × Int × (List GDNode) × (GMap Int) × (GMap Int)) => (y.2.1 = (i : Int) ∧ TS o place y.2.2.1 y.2.2.2.1 y.2.2.2.2) ∧ Pre nodes y.2.2.1 ∧ Vd y.2.2.1 y.1 ∧ dn y.2.2.1 y.1 = (fun σ => gFold g c (fun j => dn nodes (at' refs (j : Int)) σ) i) ∧ y.2.2.1.length ≤ nodes.length + 16777216 * i)
    (fun y => y.2.1) 0 (fun i y hy => by rw [hy.1.1]; omega)
    (B := fun Q => fun ⟨first1, x, x1, x2, x3⟩ next1 =>
    condW (decide (x < (refs.length : Int)))
      (((0 : Int) ≤ x ∧ x < (refs.length : Int)) ∧
      M first1 (at' refs x) o place x1 x2 x3 fun u u1 u2 first2 =>
      rng (x + 1) ∧
      next1 (first2, (x + 1), u, u1, u2))
      (Q x1 x2 x3 first1))
    ⟨⟨rfl, h⟩, Pre.refl _, hf, hc, by dsimp only; omega⟩ (by
      rintro i ⟨r, x, n1, u1, m1⟩ hi ⟨⟨hx, hT⟩, hP, hV, hD, hL⟩
      dsimp only at hx hT hP hV hD hL
      subst hx
      have hri := hr i hi
      have hi16 : i < 16 := Nat.lt_of_lt_of_le hi hl
      have hL2 : n1.length ≤ 550024249344 := Nat.le_trans hL (by omega)
      obtain ⟨n2, u2, m2, r2, a2, w2⟩ := hM hT hn (Nat.le_trans hL2 (by decide)) hV (hri.pre hP)
      have l2 := a2.le
      refine ⟨(r2, (i : Int) + 1, n2, u2, m2), ⟨⟨by dsimp only; omega, a2.ts⟩, hP.trans a2.pre, a2.vd, ?_, Nat.le_trans l2 (by omega)⟩, fun Q next hn => condT (fun _ => ⟨by omega, w2 _ ⟨by unfold rng; omega, hn⟩⟩) (fun hc => absurd (show (i : Int) < refs.length by omega) hc)⟩
      dsimp only
      rw [a2.dn, hD, dn_pre hri hP]
      rfl)
  dsimp only at hx hT hP hV hD hL
  subst hx
  exact ⟨n1, u1, m1, r, ⟨hT, hP, hV, hD, Nat.le_trans hL (by omega)⟩, fun Q hQ => w Q fun next => condT (fun hc => absurd hc (by omega)) (fun _ => hQ)⟩
/-- How many of the first references hold. -/
def cntB (b : Nat → Bool) : Nat → Nat
  | 0 => 0
  | i + 1 => cntB b i + (if b i = true then 1 else 0)
theorem cntB_le {b : Nat → Bool} : ∀ i, cntB b i ≤ i
  | 0 => Nat.le_refl _
  | i + 1 => by have := cntB_le (b := b) i; rw [cntB]; split <;> omega
theorem fold_and {b : Nat → Bool} : ∀ i, gFold (fun x y => x && y) true b i = decide (cntB b i = i)
  | 0 => rfl
  | i + 1 => by
    have := cntB_le (b := b) i
    rw [gFold, fold_and i, cntB]
    cases hb : b i
    · rw [Bool.and_false, if_neg (by simp)]; exact (decide_eq_false (by omega)).symm
    · rw [Bool.and_true, if_pos rfl]; exact decide_eq_decide.2 (by omega)
theorem fold_or {b : Nat → Bool} : ∀ i, gFold (fun x y => x || y) false b i = decide (0 < cntB b i)
  | 0 => rfl
  | i + 1 => by
    rw [gFold, fold_or i, cntB]
    cases hb : b i
    · rw [Bool.or_false, if_neg (by simp)]; rfl
    · rw [Bool.or_true, if_pos rfl]; exact (decide_eq_true (by omega)).symm
theorem fold_xor {b : Nat → Bool} : ∀ i, gFold (fun x y => x != y) false b i = decide (cntB b i % 2 = 1)
  | 0 => rfl
  | i + 1 => by
    rw [gFold, fold_xor i, cntB]
    cases hb : b i
    · rw [if_neg (by simp), Nat.add_zero]; simp
    · rw [if_pos rfl]
      rcases Nat.mod_two_eq_zero_or_one (cntB b i) with h1 | h1
      · rw [decide_eq_false (by omega), decide_eq_true (by omega)]; rfl
      · rw [decide_eq_true h1, decide_eq_false (by omega)]; rfl
end
end Go.Gg
/- Paths of a diagram to 1 and their cubes; the support of a diagram. Conditions: none. -/
namespace Go.Gg
theorem sub_bits {s y : Nat} : s &&& y = y ↔ ∀ i, y.testBit i = true → s.testBit i = true := by
  constructor
  · intro h i hi
    have := congrArg (fun z => z.testBit i) h
    simp only [Nat.testBit_and, hi, Bool.and_true] at this
    exact this
  · intro h
    refine Nat.eq_of_testBit_eq fun i => ?_
    rw [Nat.testBit_and]
    cases hi : y.testBit i
    · rw [Bool.and_false]
    · rw [h i hi]; rfl
theorem dis_bits {s y : Nat} : s &&& y = 0 ↔ ∀ i, y.testBit i = true → s.testBit i = false := by
  constructor
  · intro h i hi
    have := congrArg (fun z => z.testBit i) h
    simp only [Nat.testBit_and, hi, Bool.and_true, Nat.zero_testBit] at this
    exact this
  · intro h
    refine Nat.eq_of_testBit_eq fun i => ?_
    rw [Nat.testBit_and, Nat.zero_testBit]
    cases hi : y.testBit i
    · rw [Bool.and_false]
    · rw [h i hi]; rfl
theorem or_bit {y v i : Nat} : (y ||| 2 ^ v).testBit i = (y.testBit i || decide (i = v)) := by
  rw [Nat.testBit_or, Nat.testBit_two_pow]
  congr 1
  exact decide_eq_decide.2 eq_comm
theorem sub_or {s y v : Nat} : s &&& (y ||| 2 ^ v) = y ||| 2 ^ v ↔ s &&& y = y ∧ s.testBit v = true := by
  rw [sub_bits, sub_bits]
  constructor
  · intro h
    exact ⟨fun i hi => h i (by rw [or_bit, hi]; rfl), h v (by rw [or_bit]; simp)⟩
  · rintro ⟨h, hv⟩ i hi
    rw [or_bit, Bool.or_eq_true, decide_eq_true_eq] at hi
    rcases hi with hi | rfl
    · exact h i hi
    · exact hv
theorem dis_or {s y v : Nat} : s &&& (y ||| 2 ^ v) = 0 ↔ s &&& y = 0 ∧ s.testBit v = false := by
  rw [dis_bits, dis_bits]
  constructor
  · intro h
    exact ⟨fun i hi => h i (by rw [or_bit, hi]; rfl), h v (by rw [or_bit]; simp)⟩
  · rintro ⟨h, hv⟩ i hi
    rw [or_bit, Bool.or_eq_true, decide_eq_true_eq] at hi
    rcases hi with hi | rfl
    · exact h i hi
    · exact hv
theorem or_lt {y v n : Nat} (hy : y < 2 ^ n) (hv : v < n) : y ||| 2 ^ v < 2 ^ n := Nat.or_lt_two_pow hy (Nat.pow_lt_pow_right (by omega) hv)
/-- The cubes of the paths from a reference to 1. -/
def pths (N : List GDNode) : Nat → Nat → Nat → Nat → List GCube
  | 0, _, _, _ => []
  | fu + 1, r, y, n => if r = 0 then [] else if r = 1 then [⟨(y : Int), (n : Int)⟩] else match N[r - 2]? with
    | some x => pths N fu x.Lo.toNat y (n ||| 2 ^ x.Var.toNat) ++ pths N fu x.Hi.toNat (y ||| 2 ^ x.Var.toNat) n
    | none => []
def pth (N : List GDNode) (r y n : Nat) : List GCube := pths N (r + 1) r y n
section
variable {N : List GDNode}
theorem pths_fuel (hK : Kids N) : ∀ (r fu fu' y n : Nat), r < fu → r < fu' → pths N fu r y n = pths N fu' r y n := by
  intro r
  induction r using Nat.strongRecOn with
  | _ r ih =>
    intro fu fu' y n h h'
    obtain ⟨a, rfl⟩ : ∃ a, fu = a + 1 := ⟨fu - 1, by omega⟩
    obtain ⟨b, rfl⟩ : ∃ a, fu' = a + 1 := ⟨fu' - 1, by omega⟩
    rw [pths, pths]
    split
    · rfl
    split
    · rfl
    split
    · rename_i x hx
      have := hK _ _ hx
      rw [ih x.Lo.toNat (by omega) a b _ _ (by omega) (by omega), ih x.Hi.toNat (by omega) a b _ _ (by omega) (by omega)]
    · rfl
theorem pth0 {y n : Nat} : pth N 0 y n = [] := by simp [pth, pths]
theorem pth1 {y n : Nat} : pth N 1 y n = [⟨(y : Int), (n : Int)⟩] := by simp [pth, pths]
theorem pth_node (hK : Kids N) {i : Nat} {x : GDNode} {y n : Nat} (hx : N[i]? = some x) : pth N (2 + i) y n = pth N x.Lo.toNat y (n ||| 2 ^ x.Var.toNat) ++ pth N x.Hi.toNat (y ||| 2 ^ x.Var.toNat) n := by
  have := hK _ _ hx
  rw [pth, pths, if_neg (by omega), if_neg (by omega), show 2 + i - 2 = i by omega, hx]
  dsimp only
  rw [pths_fuel hK x.Lo.toNat _ (x.Lo.toNat + 1) _ _ (by omega) (by omega), pths_fuel hK x.Hi.toNat _ (x.Hi.toNat + 1) _ _ (by omega) (by omega)]
  rfl
/-- Is the state in the cube? -/
def hitC (s : Nat) (c : GCube) : Bool := decide (s &&& c.Yes.toNat = c.Yes.toNat) && decide (s &&& c.No.toNat = 0)
theorem pth_hits {n : Nat} {lev : Nat → Nat} (h : WT n lev N) {s : Nat} : ∀ (r y m : Nat), r < 2 + N.length → (pth N r y m).countP (hitC s) = if (s &&& y = y ∧ s &&& m = 0) ∧ den N (stA s) r = true then 1 else 0 := by
  intro r
  induction r using Nat.strongRecOn with
  | _ r ih =>
    intro y m hr
    rcases ref_cases hr with rfl | rfl | ⟨i, x, rfl, hx⟩
    · rw [pth0, den_zero, if_neg (by simp)]; rfl
    · rw [pth1, den_one]
      simp only [List.countP_cons, List.countP_nil, hitC, Int.toNat_natCast, and_true, Nat.zero_add, Bool.and_eq_true, decide_eq_true_eq]
    · have nd := h.nd i x hx
      have hi := (List.getElem?_eq_some_iff.1 hx).1
      have b1 := nd.lo; have b2 := nd.hi
      rw [pth_node h.kids hx, List.countP_append, ih x.Lo.toNat (by omega) _ _ (by omega), ih x.Hi.toNat (by omega) _ _ (by omega), h.den_at hx]
      have e : stA s x.Var.toNat = s.testBit x.Var.toNat := inS_bit
      rw [e]
      simp only [sub_or, dis_or]
      cases s.testBit x.Var.toNat
      · simp
      · simp
/-- Cubes of events. -/
structure CubeOk (n : Nat) (c : GCube) : Prop where
  yes : 0 ≤ c.Yes ∧ c.Yes.toNat < 2 ^ n
  no : 0 ≤ c.No ∧ c.No.toNat < 2 ^ n
  dis : c.Yes.toNat &&& c.No.toNat = 0
/-- Some event is in the one's Yes and in the other's No. -/
def Apart (a b : GCube) : Prop := ∃ v, a.No.toNat.testBit v = true ∧ b.Yes.toNat.testBit v = true
theorem pth_cubes {n : Nat} {lev : Nat → Nat} (h : WT n lev N) : ∀ (r y m : Nat), r < 2 + N.length → y < 2 ^ n → m < 2 ^ n → y &&& m = 0 → (∀ i, y.testBit i = true ∨ m.testBit i = true → lev i < lvl n lev N r) →
    (∀ c ∈ pth N r y m, CubeOk n c ∧ (∀ i, y.testBit i = true → c.Yes.toNat.testBit i = true) ∧ ∀ i, m.testBit i = true → c.No.toNat.testBit i = true) ∧ (pth N r y m).Pairwise Apart := by
  intro r
  induction r using Nat.strongRecOn with
  | _ r ih =>
    intro y m hr hy hm hd hl
    rcases ref_cases hr with rfl | rfl | ⟨i, x, rfl, hx⟩
    · rw [pth0]; exact ⟨fun c hc => by simp at hc, List.Pairwise.nil⟩
    · rw [pth1]
      refine ⟨fun c hc => ?_, List.pairwise_singleton _ _⟩
      rw [List.mem_singleton.1 hc]
      exact ⟨⟨⟨Int.natCast_nonneg _, hy⟩, ⟨Int.natCast_nonneg _, hm⟩, hd⟩, fun i hi => hi, fun i hi => hi⟩
    · have nd := h.nd i x hx
      have hi := (List.getElem?_eq_some_iff.1 hx).1
      have b0 := nd.var; have b1 := nd.lo; have b2 := nd.hi; have b3 := nd.llo; have b4 := nd.lhi
      rw [lvl_at hx] at hl
      have hvy : y.testBit x.Var.toNat = false := by
        cases he : y.testBit x.Var.toNat
        · rfl
        · have := hl _ (.inl he); omega
      have hvm : m.testBit x.Var.toNat = false := by
        cases he : m.testBit x.Var.toNat
        · rfl
        · have := hl _ (.inr he); omega
      have hn : x.Var.toNat < n := by omega
      obtain ⟨p1, p2⟩ := ih x.Lo.toNat (by omega) y (m ||| 2 ^ x.Var.toNat) (by omega) hy (or_lt hm hn) (dis_or.2 ⟨hd, hvy⟩) (fun j hj => by
        rw [or_bit, Bool.or_eq_true, decide_eq_true_eq] at hj
        rcases hj with hj | hj | hj
        · have := hl j (.inl hj); omega
        · have := hl j (.inr hj); omega
        · rw [hj]; exact b3)
      have hd2 : (y ||| 2 ^ x.Var.toNat) &&& m = 0 := by rw [Nat.and_comm]; exact dis_or.2 ⟨by rw [Nat.and_comm]; exact hd, hvm⟩
      obtain ⟨q1, q2⟩ := ih x.Hi.toNat (by omega) (y ||| 2 ^ x.Var.toNat) m (by omega) (or_lt hy hn) hm hd2 (fun j hj => by
        rw [or_bit, Bool.or_eq_true, decide_eq_true_eq] at hj
        rcases hj with (hj | hj) | hj
        · have := hl j (.inl hj); omega
        · rw [hj]; exact b4
        · have := hl j (.inr hj); omega)
      rw [pth_node h.kids hx]
      refine ⟨fun c hc => ?_, List.pairwise_append.2 ⟨p2, q2, fun a ha b hb => ⟨x.Var.toNat, (p1 a ha).2.2 _ (by rw [or_bit]; simp), (q1 b hb).2.1 _ (by rw [or_bit]; simp)⟩⟩⟩
      rcases List.mem_append.1 hc with hc | hc
      · obtain ⟨c1, c2, c3⟩ := p1 c hc
        exact ⟨c1, c2, fun j hj => c3 j (by rw [or_bit, hj]; rfl)⟩
      · obtain ⟨c1, c2, c3⟩ := q1 c hc
        exact ⟨c1, fun j hj => c2 j (by rw [or_bit, hj]; rfl), c3⟩
/-! ### Support -/
def supM (N : List GDNode) : Nat := N.foldl (fun m x => m ||| 2 ^ x.Var.toNat) 0
theorem supM_snoc {x : GDNode} : supM (N ++ [x]) = supM N ||| 2 ^ x.Var.toNat := by simp [supM]
theorem supM_lt {n : Nat} : ∀ (N : List GDNode), (∀ x ∈ N, x.Var.toNat < n) → supM N < 2 ^ n := snocInd (fun _ => Nat.two_pow_pos n) fun l x ih h => by
  rw [supM_snoc]
  exact or_lt (ih fun y hy => h y (by simp [hy])) (h x (by simp))
theorem supM_bit {i : Nat} : ∀ (N : List GDNode), (supM N).testBit i = true ↔ ∃ x ∈ N, x.Var.toNat = i := snocInd (by simp [supM]) fun l x ih => by
  rw [supM_snoc, or_bit, Bool.or_eq_true, decide_eq_true_eq, ih]
  constructor
  · rintro (⟨y, hy, he⟩ | rfl)
    · exact ⟨y, by simp [hy], he⟩
    · exact ⟨x, by simp, rfl⟩
  · rintro ⟨y, hy, he⟩
    rcases List.mem_append.1 hy with hy | hy
    · exact .inl ⟨y, hy, he⟩
    · rw [List.mem_singleton.1 hy] at he; exact .inr he.symm
/-- Without a node of an event, the value does not change with it. -/
theorem den_free {n : Nat} {lev : Nat → Nat} (h : WT n lev N) {v : Nat} {b : Bool} (hv : ∀ x ∈ N, x.Var.toNat ≠ v) : ∀ {r : Nat}, r < 2 + N.length → ∀ σ, den N (setA σ v b) r = den N σ r := by
  intro r
  induction r using Nat.strongRecOn with
  | _ r ih =>
    intro hr σ
    rcases ref_cases hr with rfl | rfl | ⟨i, x, rfl, hx⟩
    · rw [den_zero, den_zero]
    · rw [den_one, den_one]
    · obtain ⟨a, b', c, _, e, f⟩ := h.nd i x hx
      have hi := (List.getElem?_eq_some_iff.1 hx).1
      rw [h.den_at hx, h.den_at hx, setA_ne (hv x (List.mem_of_getElem? hx)), ih x.Hi.toNat (by omega) (by omega), ih x.Lo.toNat (by omega) (by omega)]
/-- A function that does not change with an event has no node of it. -/
theorem addF_free {n : Nat} {lev : Nat → Nat} {ord : List Nat} (hO : OrdL n lev ord) {v : Nat} : ∀ (k l : Nat), l + k = n → ∀ {f : Asg → Bool} {N : List GDNode}, WT n lev N → Dep f (ord.drop l) → (∀ σ b, f (setA σ v b) = f σ) → (∀ x ∈ N, x.Var.toNat ≠ v) → ∀ x ∈ (addF (ord.drop l) f N).1, x.Var.toNat ≠ v
  | 0, l, hk, f, N, h, hd, hf, hN => by
    rw [List.drop_eq_nil_of_le (by rw [hO.len]; omega), addF]
    exact hN
  | k + 1, l, hk, f, N, h, hd, hf, hN => by
    have hl : l < ord.length := by rw [hO.len]; omega
    have hdr : ord.drop l = ord[l] :: ord.drop (l + 1) := List.drop_eq_getElem_cons hl
    generalize hu : ord[l] = u at hdr
    have hat := hO.at_ l u (by rw [List.getElem?_eq_getElem hl, hu])
    have hd0 := hd
    rw [hdr] at hd
    have hfr : ∀ c σ b, (fun σ => f (setA σ u c)) (setA σ v b) = (fun σ => f (setA σ u c)) σ := fun c σ b => by
      by_cases huv : u = v
      · subst huv
        show f (setA (setA σ u b) u c) = f (setA σ u c)
        rw [setA_setA]
      · show f (setA (setA σ v b) u c) = f (setA σ u c)
        rw [setA_comm (Ne.symm huv), hf]
    obtain ⟨a1, _, a3, a4⟩ := addF_spec hO k (l + 1) (by omega) (f := fun σ => f (setA σ u false)) h hd.set
    have A := addF_free hO k (l + 1) (by omega) (f := fun σ => f (setA σ u false)) h hd.set (hfr false) hN
    have B := addF_free hO k (l + 1) (by omega) (f := fun σ => f (setA σ u true)) a1 hd.set (hfr true) A
    rw [hdr, addF]
    by_cases huv : u = v
    · subst huv
      have e : (fun σ => f (setA σ u true)) = fun σ => f (setA σ u false) := by funext σ; rw [hf, hf]
      rw [e, addF_rep hO a1 k (l + 1) (by omega) hd.set a3 a4]
      simp only [mkD, if_true]
      exact A
    · unfold mkD
      split
      · exact B
      split
      · exact B
      · intro x hx
        rcases List.mem_append.1 hx with hx | hx
        · exact B x hx
        · rw [List.mem_singleton.1 hx]; exact huv
end
end Go.Gg
/- Diagrams: which events a function depends on; numbers of nodes by places. Conditions: none. -/
namespace Go.Gg
section
variable {o : List Int} {f : Asg → Bool}
theorem can_free (h : Or14 o) (hd : Dep f (natO o)) {i : Nat} : (∀ x ∈ (canD o f).Nodes, x.Var.toNat ≠ i) ↔ ∀ σ b, f (setA σ i b) = f σ := by
  obtain ⟨a1, _, a3, a4⟩ := addF_all h.ord WT.nil hd
  constructor
  · intro hn σ b
    have := den_free a1 (v := i) (b := b) hn a3 σ
    rw [a4, a4] at this
    exact this
  · intro hf
    have := addF_free h.ord o.length 0 (by omega) (f := f) (N := []) WT.nil (by simpa using hd) hf (fun x hx => by simp at hx)
    rw [List.drop_zero] at this
    exact this
theorem can_wt (h : Or14 o) (hd : Dep f (natO o)) : WT o.length (levO o) (canD o f).Nodes := (addF_all h.ord WT.nil hd).1
theorem sup_lt (h : Or14 o) (hd : Dep f (natO o)) : supM (canD o f).Nodes < 2 ^ o.length := supM_lt _ fun x hx => by
  obtain ⟨i, hi⟩ := List.mem_iff_getElem?.1 hx
  have := ((can_wt h hd).nd i x hi).var
  omega
/-- The support: the events that the function depends on. -/
theorem sup_iff (h : Or14 o) (hd : Dep f (natO o)) {i : Nat} : (supM (canD o f).Nodes).testBit i = true ↔ ¬ ∀ σ b, f (setA σ i b) = f σ := by
  rw [supM_bit, ← can_free h hd]
  constructor
  · rintro ⟨x, hx, he⟩ hc
    exact hc x hx he
  · intro hc
    refine Classical.byContradiction fun hn => hc fun x hx he => hn ⟨x, hx, he⟩
end
/-! ### Levels -/
def levN (o : List Int) (N : List GDNode) : List Int := (List.range o.length).map fun k => ((N.countP (fun x => decide (levO o x.Var.toNat = k)) : Nat) : Int)
theorem levN_len {o : List Int} {N : List GDNode} : (levN o N).length = o.length := by simp [levN]
theorem levN_at {o : List Int} {N : List GDNode} {k : Nat} (h : k < o.length) : at' (levN o N) (k : Int) = ((N.countP (fun x => decide (levO o x.Var.toNat = k)) : Nat) : Int) := by
  simp [levN, at', List.getD_eq_getElem?_getD, h]
theorem levN_nil {o : List Int} : rep' (o.length : Int) (0 : Int) = levN o [] := by
  refine eq_by ?_ fun i hi => ?_
  · rw [levN_len]; simp [rep']
  · have hi : i < o.length := by simpa [rep'] using hi
    rw [levN_at hi, rep_at (by omega)]; rfl
theorem levN_snoc {o : List Int} {N : List GDNode} {x : GDNode} (h : levO o x.Var.toNat < o.length) : set' (levN o N) (levO o x.Var.toNat : Int) (at' (levN o N) (levO o x.Var.toNat : Int) + 1) = levN o (N ++ [x]) := by
  refine eq_by ?_ fun i hi => ?_
  · rw [set_len, levN_len, levN_len]
  · rw [set_len, levN_len] at hi
    rw [at_set (by rw [levN_len]; exact h), levN_at hi, levN_at hi, List.countP_append]
    by_cases he : i = levO o x.Var.toNat
    · rw [if_pos he, levN_at h, he]; simp
    · rw [if_neg he]; simp [Ne.symm he]
theorem levN_le {o : List Int} {N : List GDNode} {k : Nat} (h : k < o.length) : 0 ≤ at' (levN o N) (k : Int) ∧ at' (levN o N) (k : Int) ≤ N.length := by
  rw [levN_at h]
  have := List.countP_le_length (p := fun x : GDNode => decide (levO o x.Var.toNat = k)) (l := N)
  omega
def sumK (l : List Int) : Nat → Int
  | 0 => 0
  | i + 1 => sumK l i + at' l (i : Int)
theorem sumK_set {l : List Int} {j : Nat} (h : j < l.length) : ∀ n, sumK (set' l (j : Int) (at' l (j : Int) + 1)) n = sumK l n + if j < n then 1 else 0
  | 0 => by simp [sumK]
  | n + 1 => by
    rw [sumK, sumK, sumK_set h n, at_set h]
    by_cases he : n = j
    · subst he; rw [if_pos rfl, if_neg (by omega), if_pos (by omega)]; omega
    · rw [if_neg he]
      by_cases hl : j < n
      · rw [if_pos hl, if_pos (by omega)]; omega
      · rw [if_neg hl, if_neg (by omega)]; omega
theorem sumK_zero {n : Int} : ∀ k : Nat, (k : Int) ≤ n → sumK (rep' n 0) k = 0
  | 0, _ => rfl
  | k + 1, h => by rw [sumK, sumK_zero k (by omega), rep_at (by omega)]; rfl
theorem sumK_lev {o : List Int} : ∀ N : List GDNode, (∀ x ∈ N, levO o x.Var.toNat < o.length) → sumK (levN o N) o.length = N.length :=
  snocInd (fun _ => by rw [← levN_nil, sumK_zero _ (by omega)]; rfl) fun N x ih h => by
    have hx := h x (by simp)
    rw [← levN_snoc hx, sumK_set (by rw [levN_len]; exact hx), ih fun y hy => h y (by simp [hy]), if_pos hx, List.length_append]
    simp
theorem sumK_le {o : List Int} {N : List GDNode} : ∀ k, k ≤ o.length → 0 ≤ sumK (levN o N) k ∧ sumK (levN o N) k ≤ k * N.length
  | 0, _ => by simp [sumK]
  | k + 1, h => by
    have := sumK_le (o := o) (N := N) k (by omega)
    have := levN_le (o := o) (N := N) (k := k) (by omega)
    rw [sumK]
    have e : ((k + 1 : Nat) : Int) * (N.length : Int) = (k : Int) * N.length + N.length := by rw [Int.natCast_add, Int.add_mul]; simp
    omega
end Go.Gg
/- The diagram of a formula. Conditions: few events. -/
namespace Go.Gg
theorem cnt_cntB {x : GNode} {v : List Bool} : ∀ j, cnt x v j = cntB (fun k => at' v (at' x.Args (k : Int))) j
  | 0 => rfl
  | j + 1 => by rw [cnt, cntB, cnt_cntB j]
theorem cntB_congr {b c : Nat → Bool} : ∀ j, (∀ k, k < j → b k = c k) → cntB b j = cntB c j
  | 0, _ => rfl
  | j + 1, h => by rw [cntB, cntB, cntB_congr j (fun k hk => h k (by omega)), h j (by omega)]
section
variable {o place : List Int} {nodes : List GDNode} {unique memo : GMap Int}
/-- How many references are needed: what a vote's row holds. -/
structure Need (nodes : List GDNode) (need : List Int) (k : Nat) (lo : Nat) (a b : Asg → Nat) : Prop where
  len : need.length = k + 1
  vd : ∀ m : Nat, m ≤ k → Vd nodes (at' need (m : Int))
  dn : ∀ m : Nat, m ≤ k → dn nodes (at' need (m : Int)) = fun σ => decide (m ≤ (if m ≤ lo then a σ else b σ))
theorem need_step {nodes' : List GDNode} {need : List Int} {k lo : Nat} {a b : Asg → Nat} {c : Asg → Bool} {r : Int} (h : Need nodes need k (lo + 1) a b) (hlo : lo + 1 ≤ k) (hp : Pre nodes nodes') (hv : Vd nodes' r)
    (hab : ∀ σ, b σ = a σ + (if c σ = true then 1 else 0)) (hd : dn nodes' r = fun σ => bif c σ then dn nodes (at' need (lo : Int)) σ else dn nodes (at' need ((lo + 1 : Nat) : Int)) σ) : Need nodes' (set' need ((lo + 1 : Nat) : Int) r) k lo a b := by
  have hl := h.len
  refine ⟨by rw [set_len]; exact hl, fun m hm => ?_, fun m hm => ?_⟩
  · rw [at_set (by omega)]
    split
    · exact hv
    · exact (h.vd m hm).pre hp
  · rw [at_set (by omega)]
    by_cases he : m = lo + 1
    · subst he
      rw [if_pos rfl, hd, h.dn lo (by omega), h.dn (lo + 1) hm]
      funext σ
      dsimp only
      rw [if_pos (by omega : lo ≤ lo + 1), if_pos (Nat.le_refl (lo + 1)), if_neg (by omega : ¬ lo + 1 ≤ lo), hab]
      cases c σ
      · simp
      · simp
    · rw [if_neg he, dn_pre (h.vd m hm) hp, h.dn m hm]
      funext σ
      by_cases h1 : m ≤ lo
      · rw [if_pos (by omega), if_pos h1]
      · rw [if_neg (by omega), if_neg h1]
theorem vote_s (h : TS o place nodes unique memo) (hn : o.length ≤ 12) {refs : List Int} {k : Nat} (hk : k ≤ 16) (hl : refs.length ≤ 16) (hb : nodes.length ≤ 549755813888)
    (hr : ∀ j : Nat, j < refs.length → Vd nodes (at' refs (j : Int))) :
    ∃ nodes' unique' memo' r, After o place nodes nodes' unique' memo' r (fun σ => decide (k ≤ cntB (fun j => dn nodes (at' refs (j : Int)) σ) refs.length)) 268435456 ∧
      ∀ Q : List GDNode → GMap Int → GMap Int → Int → Prop, Q nodes' unique' memo' r → diagram_vote__e_W refs (k : Int) o place nodes unique memo Q := by
  have w12 := (wc12 hn).1
  have hrl : ((rep' ((k : Int) + 1) (0 : Int)).length : Int) = k + 1 := rep_len (by omega)
  have start : Need nodes (set' (rep' ((k : Int) + 1) 0) 0 1) k k (fun σ => cntB (fun j => dn nodes (at' refs (j : Int)) σ) 0) (fun σ => cntB (fun j => dn nodes (at' refs (j : Int)) σ) 0) := by
    have e : ∀ m : Nat, m ≤ k → at' (set' (rep' ((k : Int) + 1) (0 : Int)) 0 1) (m : Int) = if m = 0 then 1 else 0 := fun m hm => by
      have := at_set (l := rep' ((k : Int) + 1) (0 : Int)) (i := 0) (x := 1) (j := m) (by omega)
      rw [show ((0 : Nat) : Int) = 0 from rfl] at this
      rw [this]
      by_cases h0 : m = 0
      · rw [if_pos h0, if_pos h0]
      · rw [if_neg h0, if_neg h0, rep_at (by omega)]
    refine ⟨by rw [set_len]; omega, fun m hm => ?_, fun m hm => ?_⟩
    · rw [e m hm]; split
      · exact vd1
      · exact vd0
    · rw [e m hm]
      by_cases h0 : m = 0
      · subst h0; rw [if_pos rfl, dn1]; rfl
      · rw [if_neg h0, dn0]; funext σ; simp [cntB, h0]
  obtain ⟨⟨x, need, n1, u1, m1⟩, ⟨⟨hx, hT⟩, hP, hN, hL⟩, w⟩ := exLoop (τ := List GDNode → GMap Int → GMap Int → Int → Prop) (n := refs.length) (x0 := ((0 : Int), set' (rep' ((k : Int) + 1) 0) 0 1, nodes, unique, memo))
    (fun i (y : Int × List Int × (List GDNode) × (GMap Int) × (GMap Int)) => (y.1 = (i : Int) ∧ TS o place y.2.2.1 y.2.2.2.1 y.2.2.2.2) ∧ Pre nodes y.2.2.1 ∧ Need y.2.2.1 y.2.1 k k (fun σ => cntB (fun j => dn nodes (at' refs (j : Int)) σ) i) (fun σ => cntB (fun j => dn nodes (at' refs (j : Int)) σ) i) ∧ y.2.2.1.length ≤ nodes.length + 65536 * i)
    (fun y => y.1) 0 (fun i y hy => by rw [hy.1.1]; omega)
    (B := fun Q => fun ⟨x, need, x1, x2, x3⟩ next1 =>
    condW (decide (x < (refs.length : Int)))
      (((0 : Int) ≤ x ∧ x < (refs.length : Int)) ∧
      loopW (σ := Int × (List Int) × (List GDNode) × (GMap Int) × (GMap Int)) ((k : Int), need, x1, x2, x3) fun ⟨j, need1, x4, x5, x6⟩ next2 =>
        condW (decide (0 < j))
          (rng (j - 1) ∧
          ((0 : Int) ≤ (j - 1) ∧ (j - 1) < (need1.length : Int)) ∧
          ((0 : Int) ≤ j ∧ j < (need1.length : Int)) ∧
          ∃ u u1 u2 r, (∃ fu, decision_Table__Choose__e_W fu (at' refs x) (at' need1 (j - 1)) (at' need1 j) o place x4 x5 x6 fun y1 y2 y3 y4 => y1 = u ∧ y2 = u1 ∧ y3 = u2 ∧ y4 = r) ∧
          ((0 : Int) ≤ j ∧ j < (need1.length : Int)) ∧
          rng (j - 1) ∧
          next2 ((j - 1), (set' need1 j r), u, u1, u2))
          (rng (x + 1) ∧
          next1 ((x + 1), need1, x4, x5, x6)))
      (((0 : Int) ≤ (k : Int) ∧ (k : Int) < (need.length : Int)) ∧
      Q x1 x2 x3 (at' need (k : Int))))
    ⟨⟨rfl, h⟩, Pre.refl _, start, by dsimp only; omega⟩ (by
      rintro i ⟨x, need, n1, u1, m1⟩ hi ⟨⟨hx, hT⟩, hP, hN, hL⟩
      dsimp only at hx hT hP hN hL
      subst hx
      have hri := hr i hi
      have hi16 : i < 16 := Nat.lt_of_lt_of_le hi hl
      have hL2 : n1.length ≤ 549756862464 := Nat.le_trans hL (by omega)
      -- the inner loop, from k down
      obtain ⟨⟨j, need2, n2, u2, m2⟩, ⟨⟨hj, hT2⟩, hP2, hN2, hL3⟩, w2⟩ := exLoop (τ := Int × (List Int) × (List GDNode) × (GMap Int) × (GMap Int) → Prop) (n := k) (x0 := ((k : Int), need, n1, u1, m1))
        (fun a (y : Int × List Int × (List GDNode) × (GMap Int) × (GMap Int)) => (y.1 = (k : Int) - a ∧ TS o place y.2.2.1 y.2.2.2.1 y.2.2.2.2) ∧ Pre n1 y.2.2.1 ∧ Need y.2.2.1 y.2.1 k (k - a) (fun σ => cntB (fun j => dn nodes (at' refs (j : Int)) σ) i) (fun σ => cntB (fun j => dn nodes (at' refs (j : Int)) σ) (i + 1)) ∧ y.2.2.1.length ≤ n1.length + 4096 * a)
        (fun y => -y.1) (-(k : Int)) (fun a y hy => by rw [hy.1.1]; omega)
        (B := fun N2 => fun ⟨j, need1, x4, x5, x6⟩ next2 =>
        condW (decide (0 < j))
          (rng (j - 1) ∧
          ((0 : Int) ≤ (j - 1) ∧ (j - 1) < (need1.length : Int)) ∧
          ((0 : Int) ≤ j ∧ j < (need1.length : Int)) ∧
          ∃ u u1 u2 r, (∃ fu, decision_Table__Choose__e_W fu (at' refs (i : Int)) (at' need1 (j - 1)) (at' need1 j) o place x4 x5 x6 fun y1 y2 y3 y4 => y1 = u ∧ y2 = u1 ∧ y3 = u2 ∧ y4 = r) ∧
          ((0 : Int) ≤ j ∧ j < (need1.length : Int)) ∧
          rng (j - 1) ∧
          next2 ((j - 1), (set' need1 j r), u, u1, u2))
          (rng ((i : Int) + 1) ∧
          N2 (((i : Int) + 1), need1, x4, x5, x6)))
        ⟨⟨by simp, hT⟩, Pre.refl _, ⟨hN.len, hN.vd, fun m hm => by
          have := hN.dn m hm
          rw [this]; funext σ
          rw [if_pos hm, if_pos (by omega)]⟩, by dsimp only; omega⟩ (by
          rintro a ⟨j, need2, n2, u2, m2⟩ ha ⟨⟨hj, hT2⟩, hP2, hN2, hL3⟩
          dsimp only at hj hT2 hP2 hN2 hL3
          obtain ⟨lo, hlo⟩ : ∃ lo, k - a = lo + 1 := ⟨k - a - 1, by omega⟩
          obtain rfl : j = ((lo + 1 : Nat) : Int) := by omega
          rw [hlo] at hN2
          have hlo2 : lo + 1 ≤ k := by omega
          have e1 : ((lo + 1 : Nat) : Int) - 1 = (lo : Int) := by omega
          have hl2 := hN2.len
          obtain ⟨n3, u3, m3, r3, a3, w3⟩ := Choose_e hT2 (Nat.le_trans (Nat.add_le_add hL3 w12) (by omega)) ((hri.pre hP).pre hP2) (hN2.vd lo (by omega)) (hN2.vd (lo + 1) hlo2)
          have l3 := a3.le
          refine ⟨((lo : Int), set' need2 ((lo + 1 : Nat) : Int) r3, n3, u3, m3), ⟨⟨by dsimp only; omega, a3.ts⟩, hP2.trans a3.pre, ?_, Nat.le_trans l3 (by omega)⟩, fun N2 next hn => condT (fun _ => ?_) (fun hc => absurd (show (0 : Int) < _ by omega) hc)⟩
          · dsimp only
            rw [show k - (a + 1) = lo by omega]
            exact need_step hN2 (c := dn nodes (at' refs (i : Int))) hlo2 a3.pre a3.vd (fun σ => rfl) (by rw [a3.dn, dn_pre (hri.pre hP) hP2, dn_pre hri hP])
          · rw [e1]
            exact ⟨by unfold rng; omega, by omega, by omega, n3, u3, m3, r3, w3 _ ⟨rfl, rfl, rfl, rfl⟩, by omega, by unfold rng; omega, hn⟩)
      dsimp only at hj hT2 hP2 hN2 hL3
      have hL4 : n2.length ≤ n1.length + 65536 := Nat.le_trans hL3 (by omega)
      refine ⟨((i : Int) + 1, need2, n2, u2, m2), ⟨⟨by dsimp only; omega, hT2⟩, hP.trans hP2, ⟨hN2.len, hN2.vd, fun m hm => ?_⟩, Nat.le_trans hL4 (by omega)⟩, fun Q next hn => condT (fun _ => ⟨by omega, w2 _ fun next2 => condT (fun hc => absurd hc (by omega)) (fun _ => ⟨by unfold rng; omega, hn⟩)⟩) (fun hc => absurd (show (i : Int) < refs.length by omega) hc)⟩
      rw [hN2.dn m hm]
      funext σ
      rw [if_pos hm]
      by_cases h0 : m = 0
      · subst h0; simp
      · rw [if_neg (by omega)])
  dsimp only at hx hT hP hN hL
  subst hx
  have hrl2 := hN.len
  refine ⟨n1, u1, m1, at' need (k : Int), ⟨hT, hP, hN.vd k (Nat.le_refl _), ?_, Nat.le_trans hL (by omega)⟩, fun Q hQ => ⟨by unfold rng; omega, ⟨by omega, by omega, by omega, by omega⟩, by omega, w Q fun next => condT (fun hc => absurd hc (by omega)) (fun _ => ⟨by omega, hQ⟩)⟩⟩
  rw [hN.dn k (Nat.le_refl _)]
  funext σ
  rw [if_pos (Nat.le_refl _)]
theorem nodeE_K {f : GFormula} {i : Nat} (h : nodeE f i = 0) : ((at' f.Nodes (i : Int)).Kind = 0 → (at' f.Nodes (i : Int)).K = 0 ∨ (at' f.Nodes (i : Int)).K = 1) ∧ ((at' f.Nodes (i : Int)).Kind = 4 → 1 ≤ (at' f.Nodes (i : Int)).K ∧ (at' f.Nodes (i : Int)).K ≤ ((at' f.Nodes (i : Int)).Args.length : Int)) := by
  unfold nodeE at h
  split at h
  · cases h
  split at h
  · cases h
  split at h
  · cases h
  split at h
  · split at h
    · cases h
    · exact ⟨fun _ => by omega, fun hc => by omega⟩
  split at h
  · split at h
    · cases h
    · exact ⟨fun hc => by omega, fun _ => by omega⟩
  · exact ⟨fun hc => by omega, fun hc => by omega⟩
theorem node_s (h : TS o place nodes unique memo) (hn : o.length ≤ 12) {x : GNode} {refs : List Int} {V : Asg → List Bool} (hk : 0 ≤ x.Kind ∧ x.Kind ≤ 5) (hK : (x.Kind = 0 → x.K = 0 ∨ x.K = 1) ∧ (x.Kind = 4 → 1 ≤ x.K ∧ x.K ≤ (x.Args.length : Int)))
    (ha : argsB x.Kind x.Args.length = true) (hl : refs.length = x.Args.length) (h16 : x.Args.length ≤ 16) (hb : nodes.length ≤ 549755813888) (hr : ∀ j : Nat, j < refs.length → Vd nodes (at' refs (j : Int)) ∧ dn nodes (at' refs (j : Int)) = fun σ => at' (V σ) (at' x.Args (j : Int))) :
    ∃ nodes' unique' memo' r, After o place nodes nodes' unique' memo' r (fun σ => nodeV x (V σ)) 268435456 ∧
      ∀ Q : List GDNode → GMap Int → GMap Int → Int → Prop, Q nodes' unique' memo' r → diagram_node__e_W x refs o place nodes unique memo Q := by
  have w12 := (wc12 hn).1
  have hc : ∀ σ, cntB (fun j => dn nodes (at' refs (j : Int)) σ) refs.length = cnt x (V σ) x.Args.length := fun σ => by
    rw [cnt_cntB, hl]
    exact cntB_congr _ fun j hj => by rw [(hr j (by omega)).2]
  have hr1 := fun j hj => (hr j hj).1
  rcases (by omega : x.Kind = 0 ∨ x.Kind = 1 ∨ x.Kind = 2 ∨ x.Kind = 3 ∨ x.Kind = 5 ∨ x.Kind = 4) with k | k | k | k | k | k
  · rcases hK.1 k with e | e
    · refine ⟨nodes, unique, memo, 0, ⟨h, Pre.refl _, vd0, ?_, by omega⟩, fun Q hQ => condB (fun _ => by rw [e]; exact hQ) (fun hf => by simp [k] at hf)⟩
      rw [dn0]; funext σ; simp [nodeV, kindV, k, e]
    · refine ⟨nodes, unique, memo, 1, ⟨h, Pre.refl _, vd1, ?_, by omega⟩, fun Q hQ => condB (fun _ => by rw [e]; exact hQ) (fun hf => by simp [k] at hf)⟩
      rw [dn1]; funext σ; simp [nodeV, kindV, k, e]
  · have h1 : x.Args.length = 1 := by simpa [argsB, k] using ha
    obtain ⟨n1, u1, m1, r, a, w⟩ := Not_e h (by omega) (hr 0 (by omega)).1
    refine ⟨n1, u1, m1, r, ⟨a.ts, a.pre, a.vd, ?_, by have := a.le; omega⟩, fun Q hQ => condB (fun hf => by simp [k] at hf) (fun _ => condB (fun _ => ⟨by omega, w _ hQ⟩) (fun hf => by simp [k] at hf))⟩
    rw [a.dn]; funext σ
    have := hc σ
    rw [hl, h1] at this
    rw [nodeV, h1, ← this]
    simp only [kindV, k, cntB]
    show _ = ((((0 + if dn nodes (at' refs ((0 : Nat) : Int)) σ = true then 1 else 0) : Nat) : Int) == 0)
    cases dn nodes (at' refs ((0 : Nat) : Int)) σ <;> rfl
  · obtain ⟨n1, u1, m1, r, a, w⟩ := join_s op_and h hn (refs := refs) (first := 1) (c := true) (by omega) hb vd1 dn1 hr1
    refine ⟨n1, u1, m1, r, ⟨a.ts, a.pre, a.vd, ?_, a.le⟩, fun Q hQ => condB (fun hf => by simp [k] at hf) (fun _ => condB (fun hf => by simp [k] at hf) (fun _ => condB (fun _ => w Q hQ) (fun hf => by simp [k] at hf)))⟩
    rw [a.dn]; funext σ
    rw [fold_and, hc σ, nodeV, hl]
    simp only [kindV, k]
    rw [Bool.eq_iff_iff]; simp; omega
  · obtain ⟨n1, u1, m1, r, a, w⟩ := join_s op_or h hn (refs := refs) (first := 0) (c := false) (by omega) hb vd0 dn0 hr1
    refine ⟨n1, u1, m1, r, ⟨a.ts, a.pre, a.vd, ?_, a.le⟩, fun Q hQ => condB (fun hf => by simp [k] at hf) (fun _ => condB (fun hf => by simp [k] at hf) (fun _ => condB (fun hf => by simp [k] at hf) (fun _ => condB (fun _ => w Q hQ) (fun hf => by simp [k] at hf))))⟩
    rw [a.dn]; funext σ
    rw [fold_or, hc σ, nodeV]
    simp only [kindV, k]
    rw [Bool.eq_iff_iff]; simp
  · obtain ⟨n1, u1, m1, r, a, w⟩ := join_s op_xor h hn (refs := refs) (first := 0) (c := false) (by omega) hb vd0 dn0 hr1
    refine ⟨n1, u1, m1, r, ⟨a.ts, a.pre, a.vd, ?_, a.le⟩, fun Q hQ => condB (fun hf => by simp [k] at hf) (fun _ => condB (fun hf => by simp [k] at hf) (fun _ => condB (fun hf => by simp [k] at hf) (fun _ => condB (fun hf => by simp [k] at hf) (fun _ => condB (fun _ => w Q hQ) (fun hf => by simp [k] at hf)))))⟩
    rw [a.dn]; funext σ
    rw [fold_xor, hc σ, nodeV]
    simp only [kindV, k]
    rw [Bool.eq_iff_iff]
    have := Int.tmod_eq_emod_of_nonneg (a := ((cnt x (V σ) x.Args.length : Nat) : Int)) (b := 2) (by omega)
    simp [this]; omega
  · have k4 := hK.2 k
    obtain ⟨kk, hkk⟩ : ∃ kk : Nat, x.K = kk := ⟨x.K.toNat, by omega⟩
    obtain ⟨n1, u1, m1, r, a, w⟩ := vote_s h hn (refs := refs) (k := kk) (by omega) (by omega) hb hr1
    refine ⟨n1, u1, m1, r, ⟨a.ts, a.pre, a.vd, ?_, a.le⟩, fun Q hQ => condB (fun hf => by simp [k] at hf) (fun _ => condB (fun hf => by simp [k] at hf) (fun _ => condB (fun hf => by simp [k] at hf) (fun _ => condB (fun hf => by simp [k] at hf) (fun _ => condB (fun hf => by simp [k] at hf) (fun _ => by rw [hkk]; exact w Q hQ)))))⟩
    rw [a.dn]; funext σ
    rw [hc σ, nodeV]
    simp only [kindV, k, hkk]
    rw [Bool.eq_iff_iff]; simp
end
end Go.Gg
/- Build: the only diagram of a formula. Conditions: few events. -/
namespace Go.Gg
/-- The error of a formula and an order. -/
def buildE (f : GFormula) (o : List Int) : Int := if chkM f ≠ 0 then chkM f else ordE o f.Vars
/-- A formula's function. -/
def fF (f : GFormula) : Asg → Bool := fun σ => FV f (bset σ f.Vars.toNat)
theorem buildE_zero {f : GFormula} {o : List Int} : buildE f o = 0 ↔ FG f ∧ Or14 o ∧ (o.length : Int) = f.Vars := by
  unfold buildE
  constructor
  · intro h
    split at h
    · rename_i hc; exact absurd h hc
    · rename_i hc
      have hl : (o.length : Int) = f.Vars := by
        unfold ordE at h
        split at h
        · cases h
        split at h
        · cases h
        · rename_i hn; omega
      rw [← hl] at h
      exact ⟨chk_ok.1 (by omega), ordE_zero h, hl⟩
  · rintro ⟨g, h, hl⟩
    rw [if_neg (by rw [chk_ok.2 g]; simp), ← hl]
    exact ordE_of h
theorem fF_dep {f : GFormula} {o : List Int} (h : Or14 o) (hl : (o.length : Int) = f.Vars) : Dep (fF f) (natO o) := fun σ σ' hh => by
  unfold fF
  rw [bset_congr fun v hv => hh v (h.all (by omega))]
theorem fF_st {f : GFormula} {s : Nat} (hs : s < 2 ^ f.Vars.toNat) : fF f (stA s) = FV f s := by unfold fF; rw [bset_stA hs]
section
variable {f : GFormula} {o : List Int}
theorem Build_loops {x : GFormula} {place : List Int} {Q : GDiagram → Option Int → Prop} (g : FG x) (hl : (o.length : Int) = x.Vars) (h12 : x.Vars ≤ 12) (hT : TS o place [] mnew mnew) (hQ : Q (canD o (fF x)) none) :
    loopW (σ := Int × (List Int) × (GMap Int) × (List GDNode)) (0, (rep' (x.Vars + (x.Nodes.length : Int)) 0), mnew, []) fun ⟨x1, refs, x2, x3⟩ next1 =>
          condW (decide (x1 < x.Vars))
            (decision_Table__Event__e2_W x1 o place x3 x2 mnew fun u u1 r3 =>
            ((0 : Int) ≤ x1 ∧ x1 < (refs.length : Int)) ∧
            rng (x1 + 1) ∧
            next1 ((x1 + 1), (set' refs x1 r3), u1, u))
            (loopW (σ := Int × (List Int) × (GMap Int) × (GMap Int) × (List GDNode)) (0, refs, x2, mnew, x3) fun ⟨x4, refs1, x5, x6, x7⟩ next2 =>
              condW (decide (x4 < (x.Nodes.length : Int)))
                (((0 : Int) ≤ x4 ∧ x4 < (x.Nodes.length : Int)) ∧
                loopW (σ := Int × (List Int)) (0, []) fun ⟨x8, args⟩ next3 =>
                  condW (decide (x8 < (((at' x.Nodes x4).Args).length : Int)))
                    (((0 : Int) ≤ x8 ∧ x8 < (((at' x.Nodes x4).Args).length : Int)) ∧
                    ((0 : Int) ≤ (at' ((at' x.Nodes x4).Args) x8) ∧ (at' ((at' x.Nodes x4).Args) x8) < (refs1.length : Int)) ∧
                    ((args ++ [(at' refs1 (at' ((at' x.Nodes x4).Args) x8))]).length * 8 ≤ 140737488355328) ∧
                    rng (x8 + 1) ∧
                    next3 ((x8 + 1), (args ++ [(at' refs1 (at' ((at' x.Nodes x4).Args) x8))])))
                    (rng (x.Vars + x4) ∧
                    ∃ u2 u3 u4 r4, (diagram_node__e_W (at' x.Nodes x4) args o place x7 x5 x6 fun y1 y2 y3 y4 => y1 = u2 ∧ y2 = u3 ∧ y3 = u4 ∧ y4 = r4) ∧
                    ((0 : Int) ≤ (x.Vars + x4) ∧ (x.Vars + x4) < (refs1.length : Int)) ∧
                    rng (x.Vars + x4) ∧
                    ((0 : Int) ≤ (x.Vars + x4) ∧ (x.Vars + x4) < (refs1.length : Int)) ∧
                    decision_Table__Small__e_W (at' (set' refs1 (x.Vars + x4) r4) (x.Vars + x4)) 4096 o place u2 u3 u4 fun r5 =>
                    condW (!r5)
                      (Q (⟨[], [], 0⟩ : GDiagram) (some 4))
                      (rng (x4 + 1) ∧
                      next2 ((x4 + 1), (set' refs1 (x.Vars + x4) r4), u3, u4, u2))))
                (((0 : Int) ≤ x.Top ∧ x.Top < (refs1.length : Int)) ∧
                decision_Table__Export__e_W (at' refs1 x.Top) o place x7 x5 x6 fun r6 =>
                Q r6 none)) := by
  have v0 := g.v0; have v24 := g.v24; have n128 := g.n128
  have hn : o.length ≤ 12 := by omega
  obtain ⟨nv, hnv⟩ : ∃ nv : Nat, x.Vars = nv := ⟨x.Vars.toNat, by omega⟩
  have hrl : ((rep' (x.Vars + (x.Nodes.length : Int)) (0 : Int)).length : Int) = x.Vars + x.Nodes.length := rep_len (by omega)
  refine loopInv (n := nv) (fun i (y : Int × List Int × GMap Int × List GDNode) => (y.1 = (i : Int) ∧ (y.2.1.length : Int) = x.Vars + x.Nodes.length ∧ y.2.2.2.length ≤ i ∧ TS o place y.2.2.2 y.2.2.1 mnew) ∧ ∀ v : Nat, v < i → Vd y.2.2.2 (at' y.2.1 (v : Int)) ∧ dn y.2.2.2 (at' y.2.1 (v : Int)) = fun σ => σ v) (fun y => y.1) 0 (fun i y hy => by rw [hy.1.1]; omega) ⟨⟨rfl, hrl, Nat.zero_le _, hT⟩, fun v hv => absurd hv (by omega)⟩ ?_ ?_
  · rintro i ⟨x1, refs, u1, n1⟩ next hi ⟨⟨hx, hl1, hl2, hT1⟩, hI⟩ hn1
    dsimp only at hx hl1 hl2 hT1 hI
    subst hx
    obtain ⟨n2, u2, r2, a, w⟩ := Event_e hT1 (by omega) (v := (i : Int)) (by omega)
    have := a.le
    refine condT (fun _ => w _ ⟨by omega, by unfold rng; omega, hn1 _ ⟨⟨by dsimp only; omega, by dsimp only; rw [set_len]; exact hl1, by dsimp only; omega, a.ts⟩, fun v hv => ?_⟩⟩) (fun hc => absurd (show (i : Int) < x.Vars by omega) hc)
    dsimp only
    rw [at_set (by omega)]
    split
    · rename_i he; subst he
      exact ⟨a.vd, a.dn⟩
    · have h1 := hI v (by omega)
      exact ⟨h1.1.pre a.pre, by rw [dn_pre h1.1 a.pre, h1.2]⟩
  rintro ⟨x1, refs, u1, n1⟩ next ⟨⟨hx, hl1, hl2, hT1⟩, hI⟩
  dsimp only at hx hl1 hl2 hT1 hI
  subst hx
  refine condT (fun hc => absurd hc (by omega)) (fun _ => ?_)
  refine loopInv (n := x.Nodes.length) (fun i (y : Int × List Int × GMap Int × GMap Int × List GDNode) => (y.1 = (i : Int) ∧ (y.2.1.length : Int) = x.Vars + x.Nodes.length ∧ y.2.2.2.2.length ≤ 24 + 268435456 * i ∧ TS o place y.2.2.2.2 y.2.2.1 y.2.2.2.1) ∧ ∀ a : Nat, (a : Int) < x.Vars + i → Vd y.2.2.2.2 (at' y.2.1 (a : Int)) ∧ dn y.2.2.2.2 (at' y.2.1 (a : Int)) = fun σ => at' (vals x (bset σ nv) i) (a : Int)) (fun y => y.1) 0
    (fun i y hy => by rw [hy.1.1]; omega) ⟨⟨rfl, hl1, by dsimp only; omega, hT1⟩, fun a ha => ?_⟩ ?_ ?_
  · dsimp only
    have h1 := hI a (by omega)
    refine ⟨h1.1, ?_⟩
    rw [h1.2]
    funext σ
    rw [vals_bit (by omega) (by omega), Int.toNat_natCast, bset_in (by omega)]
  · rintro i ⟨x4, refs1, u5, m5, n5⟩ next2 hi ⟨⟨hx, hr1, hl5, hT5⟩, hA⟩ hn2
    dsimp only at hx hr1 hl5 hT5 hA
    subst hx
    have ng := nodeE_ok (g.node i hi)
    have hin := argsIn g hi
    have ll := ng.len
    have hi128 : i < 128 := by omega
    have hl6 : n5.length ≤ 549755813888 := Nat.le_trans hl5 (by omega)
    refine condT (fun _ => ⟨by omega, ?_⟩) (fun hc => absurd (show (i : Int) < _ by omega) hc)
    refine loopUp (n := (at' x.Nodes (i : Int)).Args.length) (fun j => ((j : Int), ((at' x.Nodes (i : Int)).Args.take j).map fun a => at' refs1 a)) (fun y => y.1) 0 (fun j => by dsimp only; omega) rfl (fun j next3 hj hn3 => ?_) (fun next3 => ?_)
    · have h3 := hin _ (at_in hj)
      dsimp only
      refine condT (fun _ => ⟨by omega, by omega, by rw [list_snoc, List.length_map, List.length_take]; omega, by unfold rng; omega, ?_⟩) (fun hc => absurd (show (j : Int) < _ by omega) hc)
      rw [take_snoc hj, List.map_append] at hn3
      exact hn3
    · refine condT (fun hc => absurd hc (by omega)) (fun _ => ?_)
      rw [List.take_length]
      obtain ⟨n6, u6, m6, r6, a, w⟩ := node_s hT5 hn (x := at' x.Nodes (i : Int)) (refs := (at' x.Nodes (i : Int)).Args.map fun a => at' refs1 a) (V := fun σ => vals x (bset σ nv) i) ⟨ng.k0, ng.k5⟩ (nodeE_K (g.node i hi)) ng.args (by rw [List.length_map]) ll hl6 (fun j hj => by
        rw [List.length_map] at hj
        have h3 := hin _ (at_in hj)
        rw [at_map hj]
        have := hA (at' (at' x.Nodes (i : Int)).Args (j : Int)).toNat (by omega)
        rw [show (((at' (at' x.Nodes (i : Int)).Args (j : Int)).toNat : Nat) : Int) = at' (at' x.Nodes (i : Int)).Args (j : Int) by omega] at this
        exact this)
      have l6 := a.le
      have hl7 : n6.length ≤ 24 + 268435456 * (i + 1) := Nat.le_trans l6 (by omega)
      have eset : at' (set' refs1 (x.Vars + i) r6) (x.Vars + i) = r6 := by rw [at_set' (by omega) (by omega), if_pos rfl]
      refine ⟨by unfold rng; omega, n6, u6, m6, r6, w _ ⟨rfl, rfl, rfl, rfl⟩, by omega, by unfold rng; omega, by omega, ?_⟩
      rw [eset]
      refine Small_e a.ts (Nat.le_trans hl7 (by omega)) hn a.vd (condB (fun hc => by cases hc) (fun _ => ⟨by unfold rng; omega, hn2 _ ⟨⟨by dsimp only; omega, by dsimp only; rw [set_len]; exact hr1, hl7, a.ts⟩, fun b hb => ?_⟩⟩))
      show Vd n6 (at' (set' refs1 (x.Vars + i) r6) (b : Int)) ∧ dn n6 (at' (set' refs1 (x.Vars + i) r6) (b : Int)) = _
      rw [at_set' (by omega) (by omega)]
      by_cases hbi : (b : Int) = x.Vars + i
      · rw [if_pos hbi, hbi]
        refine ⟨a.vd, ?_⟩
        rw [a.dn]
        funext σ
        have hvl : ((vals x (bset σ nv) i).length : Int) = x.Vars + i := by rw [vals_len]; omega
        rw [vals, ← hvl, at_app_mid]
      · rw [if_neg hbi]
        have h1 := hA b (by omega)
        refine ⟨h1.1.pre a.pre, ?_⟩
        rw [dn_pre h1.1 a.pre, h1.2]
        funext σ
        rw [vals_pre (m := i) (by omega) (by omega) (i + 1) (by omega)]
  · rintro ⟨x4, refs1, u5, m5, n5⟩ next2 ⟨⟨hx, hr1, hl5, hT5⟩, hA⟩
    dsimp only at hx hr1 hl5 hT5 hA
    subst hx
    have t0 := g.top0; have tt := g.top
    have ht := hA x.Top.toNat (by omega)
    rw [show ((x.Top.toNat : Nat) : Int) = x.Top by omega] at ht
    refine condT (fun hc => absurd hc (by omega)) (fun _ => ⟨by omega, Export_e hT5 (Nat.le_trans hl5 (by omega)) ht.1 ?_⟩)
    rw [ht.2]
    have : (fun σ => at' (vals x (bset σ nv) x.Nodes.length) x.Top) = fF x := by
      funext σ; unfold fF FV; rw [hnv]; rfl
    rw [this]
    exact hQ
theorem diagram_Build_s {Q : GDiagram → Option Int → Prop} (ht : rng f.Top) (h1 : buildE f o ≠ 0 → Q noD (some (buildE f o))) (hn : buildE f o = 0 → f.Vars ≤ 12) (h2 : buildE f o = 0 → Q (canD o (fF f)) none) : diagram_Build_W f o Q := by
  refine Size_s ht (fun hc => ?_) (fun g r a hr hr0 => ?_)
  · have e : buildE f o = chkM f := if_pos hc
    rw [e] at h1
    exact condB (fun _ => h1 hc) (fun hf => by cases hf)
  · refine condB (fun hf => by cases hf) (fun _ => ?_)
    have e : buildE f o = ordE o f.Vars := if_neg (by rw [chk_ok.2 g]; simp)
    refine order_Check_s ?_
    by_cases h0 : ordE o f.Vars = 0
    · rw [h0]
      have hz : buildE f o = 0 := by rw [e, h0]
      obtain ⟨_, hO, hl⟩ := buildE_zero.1 hz
      have h12 := hn hz
      have hQ := h2 hz
      have v0 := g.v0; have n128 := g.n128
      refine condB (fun hf => by cases hf) (fun _ => ⟨fun x => FG x ∧ x.Vars = f.Vars ∧ ∀ s, FV x s = FV f s, ?_, ?_⟩)
      · refine condT (fun _ => Trim_s g (fun x gx hv hf => condB (fun hc => by cases hc) (fun _ => ⟨gx, hv, hf⟩))) (fun hc => ?_)
        have htv := hr0 (by omega)
        refine ⟨⟨g.v0, g.v24, by simp, fun i hi => by simp at hi, g.top0, by simpa using htv⟩, rfl, fun s => ?_⟩
        show at' (vals ⟨f.Vars, [], f.Top⟩ s 0) f.Top = at' (vals f s f.Nodes.length) f.Top
        rw [vals_bit (f := ⟨f.Vars, [], f.Top⟩) g.top0 htv, vals_bit g.top0 htv]
      · rintro x ⟨gx, hv, hf⟩
        refine New_s hO (fun place hT => ⟨by unfold rng; have := gx.v24; have := gx.n128; have := gx.v0; omega, ⟨by have := gx.v24; have := gx.n128; have := gx.v0; omega, by have := gx.v24; have := gx.n128; have := gx.v0; omega, by have := gx.v24; have := gx.n128; have := gx.v0; omega, by have := gx.v24; have := gx.n128; have := gx.v0; omega⟩, Build_loops gx (by omega) (by omega) hT ?_⟩)
        have : fF x = fF f := by funext σ; unfold fF; rw [hv, hf]
        rw [this]
        exact hQ
    · have e2 : errO (ordE o f.Vars) = some (ordE o f.Vars) := errO_ne' h0
      rw [e2]
      rw [e] at h1
      exact condB (fun _ => h1 h0) (fun hf => by cases hf)
end
end Go.Gg
/- Chapter 15: values, support, levels; the example of the laws. Conditions: none. -/
namespace Go.Gg
section
variable {d : GDiagram}
theorem err_W {e : Int} {A B : Prop} (h0 : e ≠ 0 → A) (h1 : e = 0 → B) : condW (Option.isSome (errO e)) A B := by
  by_cases h : e = 0
  · rw [h]; exact condB (fun hc => by cases hc) (fun _ => h1 h)
  · exact condB (fun _ => h0 h) (fun hc => by rw [errO_some h] at hc; cases hc)
theorem dValue_s {s : Int} {Q : Bool → Option Int → Prop} (h0 : dgE d ≠ 0 → Q false (some (dgE d))) (h1 : VD d → (s < 0 ∨ ((2 ^ d.Order.length : Nat) : Int) ≤ s) → Q false (some 3)) (h2 : VD d → ∀ k : Nat, s = k → k < 2 ^ d.Order.length → Q (dF d (stA k)) none) : diagram_Value_W d s Q := by
  refine diagram_Check_s (err_W (fun hc => by rw [errO_ne' hc]; exact h0 hc) (fun hz => ?_))
  have h := dgE_zero.1 hz
  have hn := h.ord.le
  have hp := dpow24 hn
  have hl := h.le
  refine ⟨fun x => (x = true → s < 0 ∨ ((2 ^ d.Order.length : Nat) : Int) ≤ s) ∧ (x = false → 0 ≤ s ∧ s < ((2 ^ d.Order.length : Nat) : Int)), condT (fun hc => ⟨fun _ => .inl hc, fun hc => by cases hc⟩) (fun hc => ⟨shl_ok (by omega), ?_⟩), ?_⟩
  · rw [shl_pow]
    exact ⟨fun hh => .inr (of_decide_eq_true hh), fun hh => ⟨by omega, by have := of_decide_eq_false hh; omega⟩⟩
  rintro x ⟨hx1, hx2⟩
  refine condB (fun hc => h1 h (hx1 hc)) (fun hc => ?_)
  have hs0 := hx2 hc
  obtain ⟨s, rfl⟩ : ∃ k : Nat, s = k := ⟨s.toNat, by omega⟩
  have hs : s < 2 ^ d.Order.length := by omega
  have hQ := h2 h s rfl hs
  have r0 := h.root.1
  have r1 := h.root.2
  refine ⟨fun y => ∃ k : Nat, y = (k : Int) ∧ k < 2 + d.Nodes.length ∧ den d.Nodes (stA s) k = dF d (stA s), fun y => y.toNat, ⟨d.Root.toNat, by omega, r1, rfl⟩, ?_⟩
  rintro _ ⟨k, rfl, hk, he⟩
  refine condT (fun h1 => ?_) (fun h1 => ?_)
  · have hx := at_get (N := d.Nodes) (i := k - 2) (by omega)
    obtain ⟨a, b, c, _, _, _⟩ := h.wt.nd _ _ hx
    rw [show ((k - 2 : Nat) : Int) = (k : Int) - 2 by omega] at a b c
    have hst := den_step h.wt (by omega) hk (stA s)
    obtain ⟨v, hv⟩ : ∃ v : Nat, (at' d.Nodes ((k : Int) - 2)).Var = v := ⟨(at' d.Nodes ((k : Int) - 2)).Var.toNat, by omega⟩
    refine ⟨by unfold rng; omega, ⟨by omega, by omega⟩, ⟨by omega, by omega⟩, ?_⟩
    rw [hv] at hst ⊢
    rw [bit_in (by omega)]
    rw [Int.toNat_natCast] at hst
    refine condB (fun h2 => ?_) (fun h2 => ?_)
    · rw [show stA s v = true from h2, cond_true] at hst
      exact ⟨⟨(at' d.Nodes ((k : Int) - 2)).Hi.toNat, by omega, by omega, by rw [← hst, he]⟩, by dsimp only; omega⟩
    · rw [show stA s v = false from h2, cond_false] at hst
      exact ⟨⟨(at' d.Nodes ((k : Int) - 2)).Lo.toNat, by omega, by omega, by rw [← hst, he]⟩, by dsimp only; omega⟩
  · rw [← he] at hQ
    rcases (show k = 0 ∨ k = 1 by omega) with rfl | rfl
    · rw [den_zero] at hQ; exact hQ
    · rw [den_one] at hQ; exact hQ
/-! ### Support, size, levels -/
theorem var_of (h : VD d) {i : Nat} (hi : i < d.Nodes.length) : ∃ v : Nat, (at' d.Nodes (i : Int)).Var = v ∧ v < d.Order.length := by
  have := (h.wt.nd _ _ (at_get hi)).var
  exact ⟨(at' d.Nodes (i : Int)).Var.toNat, by omega, by omega⟩
theorem sup_loop (h : VD d) {A : Int → Prop} (hA : A (supM d.Nodes : Int)) : loopW (σ := Int × Int) (0, 0) fun ⟨out, x⟩ next1 =>
      condW (decide (x < (d.Nodes.length : Int)))
        (((0 : Int) ≤ x ∧ x < (d.Nodes.length : Int)) ∧
        (((0 : Int) ≤ (at' d.Nodes x).Var ∧ (at' d.Nodes x).Var ≤ 64) ∧ rng (1 * 2 ^ (Int.toNat ((at' d.Nodes x).Var)))) ∧
        setW (bits .or .i64 out (1 * 2 ^ (Int.toNat ((at' d.Nodes x).Var)))) fun out1 =>
        rng (x + 1) ∧
        next1 (out1, (x + 1)))
        (A out) := by
  have hn := h.ord.le
  have hl := h.le
  refine loopUp (n := d.Nodes.length) (fun i => ((supM (d.Nodes.take i) : Int), (i : Int))) (fun y => y.2) 0 (fun i => by dsimp only; omega) rfl (fun i next hi hn1 => ?_) (fun next => ?_)
  · obtain ⟨v, hv, hvl⟩ := var_of h hi
    have hlt : supM (d.Nodes.take i) < 2 ^ d.Order.length := supM_lt _ fun x hx => by
      obtain ⟨j, hj⟩ := List.mem_iff_getElem?.1 (List.mem_of_mem_take hx)
      have := (h.wt.nd j x hj).var
      omega
    have p62 := pow62 (n := d.Order.length) (by omega)
    have v62 := pow62 (n := v) (by omega)
    dsimp only
    rw [hv]
    refine condT (fun _ => ⟨by omega, shl_ok (by omega), letIn ⟨by unfold rng; omega, ?_⟩⟩) (fun hc => absurd (show (i : Int) < _ by omega) hc)
    rw [take_snoc hi, supM_snoc, hv, Int.toNat_natCast] at hn1
    rw [shl_pow, bits_or (by omega) (by omega)]
    exact hn1
  · refine condT (fun hc => absurd hc (by omega)) (fun _ => ?_)
    rw [List.take_length]
    exact hA
theorem dSupport_s {Q : Int → Option Int → Prop} (h0 : dgE d ≠ 0 → Q 0 (some (dgE d))) (h1 : VD d → Q (supM d.Nodes : Int) none) : diagram_Support_W d Q := by
  refine diagram_Check_s (err_W (fun hc => by rw [errO_ne' hc]; exact h0 hc) (fun hz => ?_))
  have h := dgE_zero.1 hz
  exact sup_loop h (A := fun out => Q out none) (h1 h)
theorem dSize_s {Q : Int → Option Int → Prop} (h0 : dgE d ≠ 0 → Q 0 (some (dgE d))) (h1 : VD d → Q (d.Nodes.length : Int) none) : diagram_Size_W d Q :=
  diagram_Check_s (err_W (fun hc => by rw [errO_ne' hc]; exact h0 hc) (fun hz => h1 (dgE_zero.1 hz)))
theorem index_s {o : List Int} (h : Or14 o) {v : Nat} {Q : Int → Prop} (hv : v < o.length) (hQ : Q (levO o v : Int)) : slices_Index___int_int_W o (v : Int) Q := by
  have hle := h.le
  have ha := h.at_lev hv
  refine scanW (n := o.length) (fun i => at' o (i : Int) = (v : Int)) (by omega) (fun i next hi hI hn => ⟨⟨by omega, by omega⟩, condE (fun he => ?_) (fun hne => hn (fun hc => hne hc.symm))⟩) (fun hI => absurd ha.2 (hI _ ha.1))
  have := h.lev_at hi
  rw [← he, Int.toNat_natCast] at this
  rw [← this]
  exact hQ
theorem dLevels_s {Q : List Int → Option Int → Prop} (h0 : dgE d ≠ 0 → Q [] (some (dgE d))) (h1 : VD d → Q (levN d.Order d.Nodes) none) : diagram_Levels_W d Q := by
  refine diagram_Check_s (err_W (fun hc => by rw [errO_ne' hc]; exact h0 hc) (fun hz => ?_))
  have h := dgE_zero.1 hz
  have hn := h.ord.le
  have hl := h.le
  refine ⟨⟨by omega, by omega, by omega, by omega⟩, ?_⟩
  refine loopUp (n := d.Nodes.length) (fun i => ((i : Int), levN d.Order (d.Nodes.take i))) (fun y => y.1) 0 (fun i => by dsimp only; omega) (by rw [levN_nil]; rfl) (fun i next hi hn1 => ?_) (fun next => ?_)
  · obtain ⟨v, hv, hvl⟩ := var_of h hi
    have hlev := (h.ord.at_lev hvl).1
    have hb := levN_le (o := d.Order) (N := d.Nodes.take i) hlev
    rw [List.length_take] at hb
    have hll : (levN d.Order (d.Nodes.take i)).length = d.Order.length := levN_len
    dsimp only
    rw [hv]
    refine condT (fun _ => ⟨by omega, index_s h.ord hvl ⟨by omega, by unfold rng; omega, by omega, by unfold rng; omega, ?_⟩⟩) (fun hc => absurd (show (i : Int) < _ by omega) hc)
    rw [take_snoc hi, ← levN_snoc (by rw [hv]; exact hlev), hv, Int.toNat_natCast] at hn1
    exact hn1
  · refine condT (fun hc => absurd hc (by omega)) (fun _ => ?_)
    rw [List.take_length]
    exact h1 h
/-! ### The example -/
def ex15 : GFormula := ⟨3, [(⟨3, 0, [0, 1]⟩ : GNode), (⟨2, 0, [3, 2]⟩ : GNode)], 4⟩
theorem law15_awake_s {Q : Bool → Prop} (h : Q true) : law15_awake_W Q := by
  have hb : buildE ex15 [0, 1, 2] = 0 := by decide
  have hO := (buildE_zero.1 hb).2.1
  have hd : Dep (fF ex15) (natO [0, 1, 2]) := fF_dep hO rfl
  have hv := VD_can hO (by decide) hd
  unfold law15_awake_W law15_example_W
  refine diagram_Build_s (f := ex15) (by unfold rng; decide) (fun hc => absurd hb hc) (fun _ => by decide) (fun _ => ?_)
  refine dValue_s (fun hc => absurd (dgE_zero.2 hv) hc) (fun _ hc => absurd hc (by decide)) (fun _ k hk _ => ?_)
  obtain rfl : k = 5 := by omega
  rw [dF_can hO hd]
  refine condB (fun _ => condB (fun _ => condB (fun _ => base_canE hO rfl h) (fun hc => by exact absurd hc (by decide))) (fun hc => by cases hc)) (fun hc => by cases hc)
theorem law15_problem_s {f : GFormula} {o : List Int} {Q : Int → Prop} (ht : rng f.Top) (h : Q (buildE f o)) : law15_problem_W f o Q := by
  refine ref08_Check_s ht ?_
  unfold buildE at h
  refine condB (fun hc => ?_) (fun hc => ref14_Check_s ?_)
  · have : chkM f ≠ 0 := by simpa using hc
    rw [if_pos this] at h; exact h
  · have : chkM f = 0 := by simpa using hc
    rw [if_neg (by simp [this])] at h; exact h
theorem law15_valid_s {f : GFormula} {o : List Int} {Q : Bool → Prop} (ht : rng f.Top) (h0 : Q false) (h1 : buildE f o = 0 → f.Vars ≤ 10 → Q true) : law15_valid_W f o Q := by
  refine condT (fun _ => law15_problem_s ht (condB (fun hc => ?_) (fun _ => h0))) (fun _ => h0)
  have hz : buildE f o = 0 := by simpa using hc
  by_cases hv : f.Vars ≤ 10
  · rw [decide_eq_true hv]; exact h1 hz hv
  · rw [decide_eq_false hv]; exact h0
end
end Go.Gg
/- Chapter 15: the cubes of a diagram, the program's and the reference's; cubes of one list are disjoint. Conditions: none. -/
namespace Go.Gg
section
variable {d : GDiagram}
/-- Cubes of the root. -/
def cubD (d : GDiagram) : List GCube := pth d.Nodes d.Root.toNat 0 0
theorem or_cube {m v n : Nat} (hm : m < 2 ^ n) (hv : v < n) (hn : n ≤ 24) : bits .or .i64 (m : Int) (1 * 2 ^ (Int.toNat (v : Int))) = ((m ||| 2 ^ v : Nat) : Int) := by
  have p62 := pow62 (n := n) (by omega)
  have v62 := pow62 (n := v) (by omega)
  rw [shl_pow, bits_or (by omega) (by omega)]
theorem root_nat (h : VD d) : ((d.Root.toNat : Nat) : Int) = d.Root := by have := h.root.1; omega
theorem cubes_1_s (h : VD d) : ∀ (r fu y m : Nat) (out : List GCube), r < fu → r < 2 + d.Nodes.length → y < 2 ^ d.Order.length → m < 2 ^ d.Order.length → out.length ≤ 1024 →
    ∃ (R : List GCube) (b : Bool), (out.length + (pth d.Nodes r y m).length ≤ 1024 → R = out ++ pth d.Nodes r y m ∧ b = true) ∧ (1024 < out.length + (pth d.Nodes r y m).length → b = false) ∧ ∀ Q : List GCube → Bool → Prop, Q R b → diagram_Cubes_1__e2_W fu (r : Int) ⟨(y : Int), (m : Int)⟩ d out Q := by
  have hn := h.ord.le
  have hl := h.le
  intro r
  induction r using Nat.strongRecOn with
  | _ r ih =>
    intro fu y m out hf hr hy hm hb
    obtain ⟨fu, rfl⟩ : ∃ a, fu = a + 1 := ⟨fu - 1, by omega⟩
    rcases ref_cases hr with rfl | rfl | ⟨i, x, rfl, hx⟩
    · rw [pth0]
      exact ⟨out, true, fun _ => ⟨by simp, rfl⟩, fun hc => by simp at hc; omega, fun Q hQ => condE (fun _ => hQ) (fun hc => absurd rfl hc)⟩
    · rw [pth1]
      refine ⟨out ++ [⟨(y : Int), (m : Int)⟩], decide (((out ++ [(⟨(y : Int), (m : Int)⟩ : GCube)]).length : Int) ≤ 1024), fun hc => ⟨rfl, decide_eq_true (by rw [list_snoc]; simp at hc; omega)⟩, fun hc => decide_eq_false (by rw [list_snoc]; simp at hc; omega), fun Q hQ => condE (fun hc => by omega) (fun _ => condE (fun _ => ⟨by rw [list_snoc]; omega, hQ⟩) (fun hc => absurd rfl hc))⟩
    · have nd := h.wt.nd i x hx
      have hi := (List.getElem?_eq_some_iff.1 hx).1
      have b0 := nd.var; have b1 := nd.lo; have b2 := nd.hi
      obtain ⟨v, hv⟩ : ∃ v : Nat, x.Var = v := ⟨x.Var.toNat, by omega⟩
      have hvn : v < d.Order.length := by omega
      have hxi : at' d.Nodes (((2 + i : Nat) : Int) - 2) = x := by
        have e := at_get (N := d.Nodes) hi
        rw [hx] at e
        rw [show ((2 + i : Nat) : Int) - 2 = (i : Int) by omega]
        exact (Option.some.inj e).symm
      have em := or_cube hm hvn hn
      have ey := or_cube hy hvn hn
      rw [pth_node h.wt.kids hx, List.length_append, hv, Int.toNat_natCast]
      obtain ⟨R1, b1', a1, a2, a4⟩ := ih x.Lo.toNat (by omega) fu y (m ||| 2 ^ v) out (by omega) (by omega) hy (or_lt hm hvn) hb
      rw [show ((x.Lo.toNat : Nat) : Int) = x.Lo by omega] at a4
      -- the operation's head
      have head : ∀ Q : List GCube → Bool → Prop, diagram_Cubes_1__e2_W fu x.Lo ⟨(y : Int), ((m ||| 2 ^ v : Nat) : Int)⟩ d out (fun u2 r1 => condW r1 (diagram_Cubes_1__e2_W fu x.Hi ⟨((y ||| 2 ^ v : Nat) : Int), (m : Int)⟩ d u2 fun u3 r2 => Q u3 r2) (Q u2 false)) → diagram_Cubes_1__e2_W (fu + 1) ((2 + i : Nat) : Int) ⟨(y : Int), (m : Int)⟩ d out Q := fun Q hQ => by
        refine condE (fun hc => by omega) (fun _ => condE (fun hc => by omega) (fun _ => ?_))
        rw [hxi, hv]
        refine ⟨by unfold rng; omega, by omega, shl_ok (by omega), letIn ?_⟩
        rw [em, ey]
        exact hQ
      by_cases h5 : out.length + (pth d.Nodes x.Lo.toNat y (m ||| 2 ^ v)).length ≤ 1024
      · obtain ⟨e1, rfl⟩ := a1 h5
        have e2 : R1.length = out.length + (pth d.Nodes x.Lo.toNat y (m ||| 2 ^ v)).length := by rw [e1, List.length_append]
        obtain ⟨R2, b2', c1, c2, c4⟩ := ih x.Hi.toNat (by omega) fu (y ||| 2 ^ v) m R1 (by omega) (by omega) (or_lt hy hvn) hm (by omega)
        rw [show ((x.Hi.toNat : Nat) : Int) = x.Hi by omega] at c4
        refine ⟨R2, b2', fun hc => ?_, fun hc => c2 (by omega), fun Q hQ => head Q (a4 _ (condB (fun _ => c4 _ hQ) (fun hc => by cases hc)))⟩
        obtain ⟨e3, e4⟩ := c1 (by omega)
        exact ⟨by rw [e3, e1, List.append_assoc], e4⟩
      · have e1 := a2 (by omega)
        subst e1
        exact ⟨R1, false, fun hc => by omega, fun _ => rfl, fun Q hQ => head Q (a4 _ (condB (fun hc => by cases hc) (fun _ => hQ)))⟩
theorem dCubes_s {Q : List GCube → Option Int → Prop} (h0 : dgE d ≠ 0 → Q [] (some (dgE d))) (h1 : VD d → (cubD d).length ≤ 1024 → Q (cubD d) none) (h2 : VD d → 1024 < (cubD d).length → Q [] (some 4)) : diagram_Cubes_W d Q := by
  refine diagram_Check_s (err_W (fun hc => by rw [errO_ne' hc]; exact h0 hc) (fun hz => ?_))
  have h := dgE_zero.1 hz
  obtain ⟨R, b, a1, a2, a4⟩ := cubes_1_s h d.Root.toNat (d.Root.toNat + 1) 0 0 [] (by omega) h.root.2 (Nat.pow_pos (by omega)) (Nat.pow_pos (by omega)) (by simp)
  rw [root_nat h] at a4
  rw [List.length_nil, Nat.zero_add] at a1 a2
  refine ⟨d.Root.toNat + 1, a4 _ (condB (fun hc => ?_) (fun hc => ?_))⟩
  · by_cases hl : (cubD d).length ≤ 1024
    · rw [(a1 hl).2] at hc; cases hc
    · exact h2 h (by omega)
  · by_cases hl : (cubD d).length ≤ 1024
    · rw [(a1 hl).1, List.nil_append]; exact h1 h hl
    · rw [a2 (by unfold cubD at hl; omega)] at hc; cases hc
/-! ### Cubes of events -/
theorem cubD_ok (h : VD d) : (∀ c ∈ cubD d, CubeOk d.Order.length c) ∧ (cubD d).Pairwise Apart := by
  obtain ⟨p1, p2⟩ := pth_cubes h.wt d.Root.toNat 0 0 h.root.2 (Nat.pow_pos (by omega)) (Nat.pow_pos (by omega)) rfl (fun i hi => by simp at hi)
  exact ⟨fun c hc => (p1 c hc).1, p2⟩
theorem cube_nat {n : Nat} {c : GCube} (h : CubeOk n c) : ∃ y m : Nat, c = ⟨(y : Int), (m : Int)⟩ ∧ y < 2 ^ n ∧ m < 2 ^ n ∧ y &&& m = 0 := by
  obtain ⟨y, m⟩ := c
  have h1 := h.yes; have h2 := h.no
  dsimp only at h1 h2
  exact ⟨y.toNat, m.toNat, by rw [show ((y.toNat : Nat) : Int) = y by omega, show ((m.toNat : Nat) : Int) = m by omega], h1.2, h2.2, h.dis⟩
theorem mem_at {α : Type} [Inhabited α] {l : List α} {i : Nat} (h : i < l.length) : at' l (i : Int) ∈ l := at_in h
theorem ref12_Holds_s {n s : Nat} {c : GCube} {Q : Bool → Prop} (h : CubeOk n c) (hn : n ≤ 24) (hs : s < 2 ^ 62) (hQ : Q (hitC s c)) : ref12_Holds_W c (s : Int) Q := by
  obtain ⟨y, m, rfl, hy, hm, _⟩ := cube_nat h
  have p62 := pow62 (n := n) (by omega)
  unfold hitC at hQ
  simp only [Int.toNat_natCast] at hQ
  unfold ref12_Holds_W
  dsimp only
  rw [bits_and hs (by omega), bits_and hs (by omega)]
  refine condE (fun he => ?_) (fun hne => ?_)
  · rw [decide_eq_true (by omega : s &&& y = y), Bool.true_and] at hQ
    have e : decide (s &&& m = 0) = (((s &&& m : Nat) : Int) == 0) := by rw [Bool.eq_iff_iff]; simp
    rw [e] at hQ; exact hQ
  · rw [decide_eq_false (fun hc => hne (by rw [hc])), Bool.false_and] at hQ
    exact hQ
instance : DecidableEq GCube := fun a b => decidable_of_iff (a.Yes = b.Yes ∧ a.No = b.No) (by cases a; cases b; simp)
end
end Go.Gg
/- Chapter 15: truth tables of formulas; the events on which a formula depends. Conditions: few events. -/
namespace Go.Gg
section
variable {f : GFormula}
theorem fF_lt : Dep (fF f) (List.range f.Vars.toNat) := fun σ σ' hh => by
  unfold fF
  rw [bset_congr fun v hv => hh v (List.mem_range.2 hv)]
theorem chk2_zero {s : Nat} (g : FG f) (hs : s < 2 ^ f.Vars.toNat) : chk2 f (s : Int) = 0 := by
  unfold chk2
  rw [if_neg (by rw [chk_ok.2 g]; simp), if_neg]
  have : (2 ^ f.Vars.toNat : Int) = ((2 ^ f.Vars.toNat : Nat) : Int) := by simp
  omega
theorem fVal_s {s : Nat} {Q : Bool → Option Int → Prop} (g : FG f) (hs : s < 2 ^ f.Vars.toNat) (hQ : Q (fF f (stA s)) none) : formula_Value_W f (s : Int) Q := by
  have := g.top0; have := g.top; have := g.v24; have := g.n128
  refine formula_Value_s (by unfold rng; omega) (fun hc => absurd (chk2_zero g hs) hc) (fun _ => ?_)
  rw [Int.toNat_natCast, ← fF_st hs]
  exact hQ
theorem truth_Table_s {Q : List Bool → Option Int → Prop} (g : FG f) (h12 : f.Vars ≤ 12) (hQ : Q (tabF f.Vars.toNat (fF f)) none) : truth_Table_W f Q := by
  have v0 := g.v0; have v24 := g.v24; have := g.top0; have := g.top; have := g.n128
  unfold truth_Table_W truth_check_W
  refine formula_Check_s (f := f) (by unfold rng; omega) ?_
  rw [chk_ok.2 g]
  refine condB (fun hc => by cases hc) (fun _ => condT (fun hc => by omega) (fun _ => condB (fun hc => by cases hc) (fun _ => ?_)))
  obtain ⟨n, hn⟩ : ∃ n : Nat, f.Vars = n := ⟨f.Vars.toNat, by omega⟩
  have hp := dpow24 (n := n) (by omega)
  have htn : f.Vars.toNat = n := by omega
  rw [htn] at hQ
  rw [hn]
  have hp0 : (0 : Int) ≤ ((2 ^ n : Nat) : Int) := Int.natCast_nonneg _
  have hp1 : ((2 ^ n : Nat) : Int) ≤ 16777216 := Int.ofNat_le.2 hp
  refine ⟨shl_ok (by omega), by rw [shl_pow]; generalize ((2 ^ n : Nat) : Int) = P at hp0 hp1 ⊢; exact ⟨by omega, by omega, by omega, by omega⟩, ?_⟩
  rw [shl_pow, Int.toNat_natCast]
  refine loopInv (n := 2 ^ n) (fun i (y : Int × List Bool) => y.1 = (i : Int) ∧ Upd n (fF f) (fun _ => false) i y.2) (fun y => y.1) 0 (fun i y hy => by rw [hy.1]; omega) ⟨rfl, ?_⟩ ?_ ?_
  · refine ⟨Int.ofNat_inj.1 (rep_len hp0), fun s hs => ?_⟩
    rw [if_neg (by omega), rep_at (by omega)]
  · rintro i ⟨x, t⟩ next hi ⟨hx, hU⟩ hn1
    dsimp only at hx hU
    subst hx
    have hl := hU.len
    refine condT (fun _ => fVal_s g (by rw [htn]; exact hi) (condB (fun hc => by cases hc) (fun _ => ⟨by omega, by unfold rng; omega, hn1 _ ⟨by dsimp only; omega, hU.step hi rfl⟩⟩))) (fun hc => absurd (show (i : Int) < _ by omega) hc)
  · rintro ⟨x, t⟩ next ⟨hx, hU⟩
    dsimp only at hx hU
    subst hx
    refine condT (fun hc => absurd hc (by omega)) (fun _ => ?_)
    rw [hU.done]
    exact hQ
/-- The states where an event makes a difference. -/
def difS (f : Asg → Bool) (s i : Nat) : Prop := f (stA s) ≠ f (setA (stA s) i true)
theorem dif_iff {n i : Nat} {f : Asg → Bool} (hd : Dep f (List.range n)) (hi : i < n) : (∃ s, s < 2 ^ n ∧ difS f s i) ↔ ¬ ∀ σ b, f (setA σ i b) = f σ := by
  constructor
  · rintro ⟨s, _, h⟩ hc
    exact h (hc _ _).symm
  · intro h
    refine Classical.byContradiction fun hn => h ?_
    have key : ∀ σ, f (setA σ i true) = f (setA σ i false) := fun σ => by
      refine Classical.byContradiction fun hne => hn ⟨bset (setA σ i false) n, bset_lt n, fun he => hne ?_⟩
      have e1 : f (stA (bset (setA σ i false) n)) = f (setA σ i false) := hd _ _ fun v hv => stA_bset (List.mem_range.1 hv)
      have e2 : f (setA (stA (bset (setA σ i false) n)) i true) = f (setA σ i true) := hd _ _ fun v hv => by
        by_cases hvi : v = i
        · subst hvi; rw [setA_same, setA_same]
        · rw [setA_ne hvi, setA_ne hvi, stA_bset (List.mem_range.1 hv), setA_ne hvi]
      rw [← e1, ← e2]
      exact he.symm
    intro σ b
    have hs : f σ = f (setA σ i (σ i)) := by rw [setA_id]
    rw [hs]
    cases b <;> cases σ i <;> first | rfl | exact key σ | exact (key σ).symm
theorem truth_Relevant_s {Q : Int → Option Int → Prop} (g : FG f) (h12 : f.Vars ≤ 12) (hQ : ∀ m : Nat, m < 2 ^ f.Vars.toNat → (∀ i, i < f.Vars.toNat → (m.testBit i = true ↔ ¬ ∀ σ b, fF f (setA σ i b) = fF f σ)) → Q (m : Int) none) : truth_Relevant_W f Q := by
  have v0 := g.v0; have v24 := g.v24
  refine truth_Table_s g h12 (condB (fun hc => by cases hc) (fun _ => ?_))
  obtain ⟨n, hn⟩ : ∃ n : Nat, f.Vars = n := ⟨f.Vars.toNat, by omega⟩
  have htn : f.Vars.toNat = n := by omega
  have hp := dpow24 (n := n) (by omega)
  have hd : Dep (fF f) (List.range n) := by rw [← htn]; exact fF_lt
  rw [htn] at hQ ⊢
  rw [tabF_len]
  refine loopInv (n := 2 ^ n) (fun s (y : Int × Int) => y.2 = (s : Int) ∧ ∃ m : Nat, y.1 = m ∧ m < 2 ^ n ∧ ∀ i, i < n → (m.testBit i = true ↔ ∃ s', s' < s ∧ difS (fF f) s' i)) (fun y => y.2) 0 (fun i y hy => by rw [hy.1]; omega) ⟨rfl, 0, rfl, Nat.two_pow_pos n, fun i _ => by simp⟩ ?_ ?_
  · rintro s ⟨out, x⟩ next hs ⟨hx, m, rfl, hm, hI⟩ hn1
    dsimp only at hx
    subst hx
    refine condT (fun _ => ⟨by omega, ?_⟩) (fun hc => absurd (show (s : Int) < _ by omega) hc)
    refine loopInv (n := n) (fun j (y : Int × Int) => y.2 = (j : Int) ∧ ∃ m : Nat, y.1 = m ∧ m < 2 ^ n ∧ ∀ i, i < n → (m.testBit i = true ↔ (∃ s', s' < s ∧ difS (fF f) s' i) ∨ (i < j ∧ difS (fF f) s i))) (fun y => y.2) 0 (fun i y hy => by rw [hy.1]; omega) ⟨rfl, m, rfl, hm, fun i hi => by rw [hI i hi]; simp⟩ ?_ ?_
    · rintro j ⟨out1, x1⟩ next2 hj ⟨hx1, m1, rfl, hm1, hJ⟩ hn2
      dsimp only at hx1
      subst hx1
      have eor := stA_or (s := s) (i := j) hs hj (by omega)
      have elt := bset_lt (p := setA (stA s) j true) n
      have et : at' (tabF n (fF f)) (bits .or .i64 (s : Int) (1 * 2 ^ (Int.toNat (j : Int)))) = fF f (setA (stA s) j true) := by
        rw [eor, tabF_at elt]
        exact hd _ _ fun v hv => stA_bset (List.mem_range.1 hv)
      refine condT (fun _ => ⟨shl_ok (by omega), by rw [eor]; omega, ?_⟩) (fun hc => absurd (show (j : Int) < f.Vars by omega) hc)
      rw [et, tabF_at hs]
      refine condN (fun hne => ⟨shl_ok (by omega), letIn ?_⟩) (fun he => ⟨by unfold rng; omega, hn2 _ ⟨by dsimp only; omega, m1, rfl, hm1, fun i hi => ?_⟩⟩)
      · rw [or_cube hm1 hj (by omega)]
        refine ⟨by unfold rng; omega, hn2 _ ⟨by dsimp only; omega, _, rfl, or_lt hm1 hj, fun i hi => ?_⟩⟩
        rw [or_bit, Bool.or_eq_true, decide_eq_true_eq, hJ i hi]
        constructor
        · rintro ((h | h) | h)
          · exact .inl h
          · exact .inr ⟨by omega, h.2⟩
          · exact .inr ⟨by omega, by rw [h]; exact hne⟩
        · rintro (h | h)
          · exact .inl (.inl h)
          · by_cases hij : i = j
            · exact .inr hij
            · exact .inl (.inr ⟨by omega, h.2⟩)
      · rw [hJ i hi]
        constructor
        · rintro (h | h)
          · exact .inl h
          · exact .inr ⟨by omega, h.2⟩
        · rintro (h | h)
          · exact .inl h
          · by_cases hij : i = j
            · subst hij; exact absurd he h.2
            · exact .inr ⟨by omega, h.2⟩
    · rintro ⟨out1, x1⟩ next2 ⟨hx1, m1, rfl, hm1, hJ⟩
      dsimp only at hx1
      subst hx1
      refine condT (fun hc => absurd hc (by omega)) (fun _ => ⟨by unfold rng; omega, hn1 _ ⟨by dsimp only; omega, m1, rfl, hm1, fun i hi => ?_⟩⟩)
      rw [hJ i hi]
      constructor
      · rintro (⟨s', h1, h2⟩ | h)
        · exact ⟨s', by omega, h2⟩
        · exact ⟨s, by omega, h.2⟩
      · rintro ⟨s', h1, h2⟩
        by_cases hss : s' = s
        · subst hss; exact .inr ⟨hi, h2⟩
        · exact .inl ⟨s', by omega, h2⟩
  · rintro ⟨out, x⟩ next ⟨hx, m, rfl, hm, hI⟩
    dsimp only at hx
    subst hx
    exact condT (fun hc => absurd hc (by omega)) (fun _ => hQ m hm fun i hi => by rw [hI i hi, dif_iff hd hi])
theorem truth_Equal_s {g1 : GFormula} {Q : Bool → Int → Option Int → Prop} (g : FG f) (g' : FG g1) (hv : g1.Vars = f.Vars) (h12 : f.Vars ≤ 12) (hQ : ∀ (b : Bool) (i : Int), (b = true ↔ fF f = fF g1) → Q b i none) : truth_Equal_W f g1 Q := by
  have v0 := g.v0; have v24 := g.v24; have t1 := g.top0; have t2 := g.top; have n1 := g.n128
  have t1' := g'.top0; have t2' := g'.top; have n1' := g'.n128
  refine formula_Check_s (f := f) (by unfold rng; omega) ?_
  rw [chk_ok.2 g]
  refine condB (fun hc => by cases hc) (fun _ => formula_Check_s (f := g1) (by unfold rng; omega) ?_)
  rw [chk_ok.2 g']
  refine condB (fun hc => by cases hc) (fun _ => condN (fun hc => absurd hv.symm hc) (fun _ => truth_Table_s g h12 (condB (fun hc => by cases hc) (fun _ => truth_Table_s g' (by omega) (condB (fun hc => by cases hc) (fun _ => ?_))))))
  rw [hv]
  obtain ⟨n, hn⟩ : ∃ n : Nat, f.Vars.toNat = n := ⟨_, rfl⟩
  have hp := dpow24 (n := n) (by omega)
  rw [hn, tabF_len, tabF_len]
  refine scanW (n := 2 ^ n) (fun s => fF f (stA s) ≠ fF g1 (stA s)) (by omega) (fun s next hs hI hn1 => ?_) (fun hI => ?_)
  · rw [tabF_at hs, tabF_at hs]
    exact ⟨⟨by omega, by omega⟩, ⟨by omega, by omega⟩, condN (fun hne => hQ false s ⟨fun hc => (by cases hc), fun hc => absurd (by rw [hc]) hne⟩) (fun he => hn1 (fun hc => hc he))⟩
  · have e : fF f = fF g1 := by
      funext σ
      have h1 := hI (bset σ n) (bset_lt n)
      have h2 : fF f (stA (bset σ n)) = fF g1 (stA (bset σ n)) := Classical.not_not.1 h1
      have d1 : Dep (fF f) (List.range n) := by rw [← hn]; exact fF_lt
      have d2 : Dep (fF g1) (List.range n) := by rw [← hn, ← hv]; exact fF_lt
      rw [d1 (stA (bset σ n)) σ fun v hv => stA_bset (List.mem_range.1 hv), d2 (stA (bset σ n)) σ fun v hv => stA_bset (List.mem_range.1 hv)] at h2
      exact h2
    exact hQ true (-1) ⟨fun _ => e, fun _ => rfl⟩
end
end Go.Gg
