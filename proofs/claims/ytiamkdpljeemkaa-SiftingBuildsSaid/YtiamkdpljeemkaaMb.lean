/- Tables of nodes: the program's functions that make nodes and choose. Conditions: none. -/
import Derived.Test.YtiamkdpljeemkaaMa
import Derived.Test.YtiamkdpljeemkaaWa
/- Tables of nodes: the program's functions that make nodes and choose. Conditions: none. -/
namespace Go.Gg
/-- A table of an order. -/
structure TS (o place : List Int) (nodes : List GDNode) (unique memo : GMap Int) : Prop where
  ord : Or14 o
  pl : place.length = o.length
  pl2 : ∀ v : Nat, v < o.length → at' place (v : Int) = (levO o v : Int)
  tb : TB o.length (levO o) nodes unique memo
abbrev lvO (o : List Int) (nodes : List GDNode) (r : Int) : Nat := lvl o.length (levO o) nodes r.toNat
section
variable {o place : List Int} {nodes : List GDNode} {unique memo : GMap Int}
theorem TS.wt (h : TS o place nodes unique memo) : WT o.length (levO o) nodes := h.tb.wt
theorem TS.at (h : TS o place nodes unique memo) {r : Int} (hr : Vd nodes r) (h2 : 2 ≤ r) : nodes[(r - 2).toNat]? = some (at' nodes (r - 2)) ∧ (0 ≤ (at' nodes (r - 2)).Var ∧ (at' nodes (r - 2)).Var < o.length) ∧ (0 ≤ (at' nodes (r - 2)).Lo ∧ (at' nodes (r - 2)).Lo < r) ∧ (0 ≤ (at' nodes (r - 2)).Hi ∧ (at' nodes (r - 2)).Hi < r) ∧
    lvO o nodes r = levO o (at' nodes (r - 2)).Var.toNat ∧ lvO o nodes r < lvO o nodes (at' nodes (r - 2)).Lo ∧ lvO o nodes r < lvO o nodes (at' nodes (r - 2)).Hi := by
  have h0 := hr.1
  have h1 := hr.2
  have hx := at_get (N := nodes) (i := (r - 2).toNat) (by omega)
  rw [show (((r - 2).toNat : Nat) : Int) = r - 2 by omega] at hx
  obtain ⟨a, b, c, d, e, f⟩ := h.wt.nd _ _ hx
  have hl : lvO o nodes r = levO o (at' nodes (r - 2)).Var.toNat := by
    have := lvl_at (n := o.length) (lev := levO o) hx
    rw [show 2 + (r - 2).toNat = r.toNat by omega] at this
    exact this
  exact ⟨hx, a, ⟨by omega, by omega⟩, ⟨by omega, by omega⟩, hl, by rw [hl]; exact e, by rw [hl]; exact f⟩
theorem level_s (h : TS o place nodes unique memo) (hb : nodes.length ≤ 1099511627776) {r : Int} (hr : Vd nodes r) {Q : Int → Prop} (hQ : Q (lvO o nodes r : Int)) : decision_Table__level__e_W r o place nodes unique memo Q := by
  have h0 := hr.1
  have h1 := hr.2
  refine condT (fun h2 => ?_) (fun h2 => ?_)
  · rw [show lvO o nodes r = o.length from lvl_lt (by omega)] at hQ; exact hQ
  · obtain ⟨_, a, _, _, e, _, _⟩ := h.at hr (by omega)
    have hp := h.pl
    have := h.pl2 (at' nodes (r - 2)).Var.toNat (by omega)
    rw [show (((at' nodes (r - 2)).Var.toNat : Nat) : Int) = (at' nodes (r - 2)).Var by omega] at this
    refine ⟨by unfold rng; omega, ⟨by omega, by omega⟩, ⟨by omega, by omega⟩, ?_⟩
    rw [this, ← e]
    exact hQ
/-- A reference with the event at a level set. -/
def kid (o : List Int) (nodes : List GDNode) (r : Int) (L : Nat) (b : Bool) : Int := if lvO o nodes r = L then (bif b then (at' nodes (r - 2)).Hi else (at' nodes (r - 2)).Lo) else r
theorem Kids_s (h : TS o place nodes unique memo) (hb : nodes.length ≤ 1099511627776) {r : Int} (hr : Vd nodes r) {L : Nat} (hL : L < o.length) {Q : Int → Int → Prop} (hQ : Q (kid o nodes r L false) (kid o nodes r L true)) : decision_Table__Kids__e_W r (L : Int) o place nodes unique memo Q := by
  have h0 := hr.1
  have h1 := hr.2
  refine level_s h hb hr (condN (fun hc => ?_) (fun hc => ?_))
  · rw [kid, kid, if_neg (by omega), if_neg (by omega)] at hQ; exact hQ
  · have h2 : 2 ≤ r := by
      by_cases h2 : r < 2
      · rw [show lvO o nodes r = o.length from lvl_lt (by omega)] at hc; omega
      · omega
    rw [kid, kid, if_pos (by omega), if_pos (by omega)] at hQ
    exact ⟨by unfold rng; omega, ⟨by omega, by omega⟩, hQ⟩
theorem kid_vd (h : TS o place nodes unique memo) {r : Int} (hr : Vd nodes r) {L : Nat} (hL : L < o.length) (b : Bool) : Vd nodes (kid o nodes r L b) := by
  have h0 := hr.1
  have h1 := hr.2
  unfold kid
  split
  · rename_i hc
    have h2 : 2 ≤ r := by
      by_cases h2 : r < 2
      · rw [show lvO o nodes r = o.length from lvl_lt (by omega)] at hc; omega
      · omega
    obtain ⟨_, _, c, d, _⟩ := h.at hr h2
    cases b
    · exact ⟨c.1, by simp only [cond_false]; omega⟩
    · exact ⟨d.1, by simp only [cond_true]; omega⟩
  · exact hr
theorem kid_lvl (h : TS o place nodes unique memo) {r : Int} (hr : Vd nodes r) {L : Nat} (hL : L < o.length) (hLr : L ≤ lvO o nodes r) (b : Bool) : L + 1 ≤ lvO o nodes (kid o nodes r L b) := by
  have h0 := hr.1
  have h1 := hr.2
  unfold kid
  split
  · rename_i hc
    have h2 : 2 ≤ r := by
      by_cases h2 : r < 2
      · rw [show lvO o nodes r = o.length from lvl_lt (by omega)] at hc; omega
      · omega
    obtain ⟨_, _, _, _, _, f, g⟩ := h.at hr h2
    cases b
    · simp only [cond_false]; omega
    · simp only [cond_true]; omega
  · rename_i hc; omega
theorem kid_dn (h : TS o place nodes unique memo) {r : Int} (hr : Vd nodes r) {v : Nat} (hv : v < o.length) (hLr : levO o v ≤ lvO o nodes r) (b : Bool) (σ : Asg) : dn nodes (kid o nodes r (levO o v) b) σ = dn nodes r (setA σ v b) := by
  have h0 := hr.1
  have h1 := hr.2
  have hlv := (h.ord.at_lev hv).1
  unfold kid
  split
  · rename_i hc
    have h2 : 2 ≤ r := by
      by_cases h2 : r < 2
      · rw [show lvO o nodes r = o.length from lvl_lt (by omega)] at hc; omega
      · omega
    obtain ⟨hx, a, c, d, e, _, _⟩ := h.at hr h2
    have hvv : (at' nodes (r - 2)).Var.toNat = v := h.ord.ord.lv.inj _ _ (by omega) hv (by omega)
    have := h.wt.den_cof hx σ b
    rw [hvv, show 2 + (r - 2).toNat = r.toNat by omega] at this
    unfold dn
    rw [this]
    cases b <;> rfl
  · rename_i hc
    exact (h.wt.den_set h1 (by show levO o v < lvO o nodes r; omega) σ).symm
theorem beq_dec {a b : Int} : (a == b) = decide (a = b) := by rw [Bool.eq_iff_iff]; simp
theorem vd_dep (h : TS o place nodes unique memo) {r : Int} (hr : Vd nodes r) {l : Nat} (hl : l ≤ lvl o.length (levO o) nodes r.toNat) : Dep (dn nodes r) ((natO o).drop l) :=
  (h.wt.dep h.ord.ord hr.2).sub fun v hv => h.ord.ord.mem.2 ⟨(h.ord.ord.mem.1 hv).1, by have := (h.ord.ord.mem.1 hv).2; omega⟩
theorem lvl_of_dep (h : TS o place nodes unique memo) {r : Int} (hr : Vd nodes r) {l : Nat} (hl : l ≤ o.length) (hd : Dep (dn nodes r) ((natO o).drop l)) : l ≤ lvO o nodes r := h.wt.lvl_ge h.ord.ord hr.2 hl hd
/-- The reference of a node. -/
theorem Make_s (h : TS o place nodes unique memo) (hb : nodes.length + 1 ≤ 1099511627776) {v lo hi : Int} (hv : 0 ≤ v ∧ v < o.length) (hlo : Vd nodes lo) (hhi : Vd nodes hi) (h1 : levO o v.toNat < lvO o nodes lo) (h2 : levO o v.toNat < lvO o nodes hi) :
    ∃ nodes' unique' r, (TS o place nodes' unique' memo ∧ Pre nodes nodes' ∧ Vd nodes' r ∧ (∀ σ, dn nodes' r σ = bif σ v.toNat then dn nodes hi σ else dn nodes lo σ) ∧ nodes'.length ≤ nodes.length + 1) ∧
      ∀ Q : List GDNode → GMap Int → Int → Prop, Q nodes' unique' r → decision_Table__Make__e2_W v lo hi o place nodes unique memo Q := by
  by_cases he : lo = hi
  · exact ⟨nodes, unique, lo, ⟨h, Pre.refl _, hlo, fun σ => by rw [← he]; cases σ v.toNat <;> rfl, by omega⟩, fun Q hQ => condE (fun _ => hQ) (fun hc => absurd he hc)⟩
  cases hm : mget unique [v, lo, hi] with
  | some r =>
    obtain ⟨a, b⟩ := h.tb.make_old hm
    refine ⟨nodes, unique, r, ⟨h, Pre.refl _, a, b, by omega⟩, fun Q hQ => condE (fun hc => absurd hc he) (fun _ => condB (fun hc => ?_) (fun _ => ?_))⟩
    · rw [hm] at hc; cases hc
    · rw [hm]; exact hQ
  | none =>
    obtain ⟨a, b, c⟩ := h.tb.make_new hv hlo hhi he h1 h2 hm
    refine ⟨_, _, _, ⟨⟨h.ord, h.pl, h.pl2, a⟩, ⟨_, rfl⟩, b, c, by simp⟩, fun Q hQ => condE (fun hc => absurd hc he) (fun _ => condB (fun _ => ⟨by unfold rng; omega, by rw [List.length_append, List.length_singleton]; omega, hQ⟩) (fun hc => ?_))⟩
    rw [hm] at hc; cases hc
/-- The reference of a choice. -/
theorem Choose_s : ∀ (k fu : Nat) {nodes : List GDNode} {unique memo : GMap Int} {c a b : Int}, k < fu → TS o place nodes unique memo → nodes.length + 2 ^ k ≤ 1099511627776 → Vd nodes c → Vd nodes a → Vd nodes b →
    o.length ≤ k + lvO o nodes c → o.length ≤ k + lvO o nodes a → o.length ≤ k + lvO o nodes b →
    ∃ nodes' unique' memo' r, (TS o place nodes' unique' memo' ∧ Pre nodes nodes' ∧ Vd nodes' r ∧ (∀ σ, dn nodes' r σ = bif dn nodes c σ then dn nodes a σ else dn nodes b σ) ∧ nodes'.length + 1 ≤ nodes.length + 2 ^ k) ∧
      ∀ Q : List GDNode → GMap Int → GMap Int → Int → Prop, Q nodes' unique' memo' r → decision_Table__Choose__e_W fu c a b o place nodes unique memo Q := by
  intro k
  induction k with
  | zero =>
    intro fu nodes unique memo c a b hfu h hb hc ha hb' lc la lb
    obtain ⟨g, rfl⟩ : ∃ g, fu = g + 1 := ⟨fu - 1, by omega⟩
    have hc0 := hc.1
    have hc2 : c < 2 := by
      by_cases h2 : c < 2
      · exact h2
      · obtain ⟨_, x, _, _, e, _⟩ := h.at hc (by omega)
        have := (h.ord.at_lev (v := (at' nodes (c - 2)).Var.toNat) (by omega)).1
        omega
    rcases (show c = 0 ∨ c = 1 by omega) with rfl | rfl
    · refine ⟨nodes, unique, memo, b, ⟨h, Pre.refl _, hb', fun σ => by rw [dn0]; rfl, by simp⟩, fun Q hQ => ?_⟩
      rw [decision_Table__Choose__e_W]
      refine ⟨fun _ => False, ⟨fun x => x = decide (a = b), condE (fun hh => by cases hh) (fun _ => beq_dec), ?_⟩, fun _ hh => hh.elim⟩
      rintro x rfl
      refine condT (fun he => by rw [he]; exact hQ) (fun _ => condE (fun _ => hQ) (fun hh => absurd rfl hh))
    · refine ⟨nodes, unique, memo, a, ⟨h, Pre.refl _, ha, fun σ => by rw [dn1]; rfl, by simp⟩, fun Q hQ => ?_⟩
      rw [decision_Table__Choose__e_W]
      refine ⟨fun _ => False, ⟨fun x => x = true, condE (fun _ => rfl) (fun hh => absurd rfl hh), ?_⟩, fun _ hh => hh.elim⟩
      rintro x rfl
      exact condB (fun _ => hQ) (fun hh => by cases hh)
  | succ k ih =>
    intro fu nodes unique memo c a b hfu h hb hc ha hb' lc la lb
    obtain ⟨g, rfl⟩ : ∃ g, fu = g + 1 := ⟨fu - 1, by omega⟩
    have hpk : 0 < 2 ^ k := Nat.pow_pos (by omega)
    rw [Nat.pow_succ] at hb
    have h1 : 1 ≤ 2 ^ (k + 1) := Nat.pow_pos (by omega)
    have hc0 := hc.1
    -- what is answered at once
    by_cases q1 : c = 1 ∨ a = b
    · refine ⟨nodes, unique, memo, a, ⟨h, Pre.refl _, ha, fun σ => ?_, by omega⟩, fun Q hQ => ?_⟩
      · rcases q1 with rfl | rfl
        · rw [dn1]; rfl
        · cases dn nodes c σ <;> rfl
      · rw [decision_Table__Choose__e_W]
        refine ⟨fun _ => False, ⟨fun x => x = true, condE (fun _ => rfl) (fun hh => by simpa using q1.resolve_left hh), ?_⟩, fun _ hh => hh.elim⟩
        rintro x rfl
        exact condB (fun _ => hQ) (fun hh => by cases hh)
    by_cases q2 : c = 0
    · refine ⟨nodes, unique, memo, b, ⟨h, Pre.refl _, hb', fun σ => by rw [q2, dn0]; rfl, by omega⟩, fun Q hQ => ?_⟩
      rw [decision_Table__Choose__e_W]
      refine ⟨fun _ => False, ⟨fun x => x = false, condE (fun hh => absurd (.inl hh) q1) (fun _ => by simpa using fun hh => q1 (.inr hh)), ?_⟩, fun _ hh => hh.elim⟩
      rintro x rfl
      exact condB (fun hh => by cases hh) (fun _ => condE (fun _ => hQ) (fun hh => absurd q2 hh))
    by_cases q3 : a = 1 ∧ b = 0
    · refine ⟨nodes, unique, memo, c, ⟨h, Pre.refl _, hc, fun σ => by rw [q3.1, q3.2, dn0, dn1]; cases dn nodes c σ <;> rfl, by omega⟩, fun Q hQ => ?_⟩
      rw [decision_Table__Choose__e_W]
      refine ⟨fun _ => False, ⟨fun x => x = false, condE (fun hh => absurd (.inl hh) q1) (fun _ => by simpa using fun hh => q1 (.inr hh)), ?_⟩, fun _ hh => hh.elim⟩
      rintro x rfl
      exact condB (fun hh => by cases hh) (fun _ => condE (fun hh => absurd hh q2) (fun _ => condE (fun _ => condE (fun _ => hQ) (fun hh => absurd q3.2 hh)) (fun hh => absurd q3.1 hh)))
    have enter : ∀ Q : List GDNode → GMap Int → GMap Int → Int → Prop,
        condW (Option.isSome (mget memo [c, a, b]))
        (Q nodes unique memo (Option.getD (mget memo [c, a, b]) 0))
        (decision_Table__level__e_W c o place nodes unique memo fun r =>
        decision_Table__level__e_W a o place nodes unique memo fun r1 =>
        decision_Table__level__e_W b o place nodes unique memo fun r2 =>
        decision_Table__Kids__e_W c (min (min r r1) r2) o place nodes unique memo fun r3 r4 =>
        decision_Table__Kids__e_W a (min (min r r1) r2) o place nodes unique memo fun r5 r6 =>
        decision_Table__Kids__e_W b (min (min r r1) r2) o place nodes unique memo fun r7 r8 =>
        decision_Table__Choose__e_W g r3 r5 r7 o place nodes unique memo fun u u1 u2 lo =>
        decision_Table__Choose__e_W g r4 r6 r8 o place u u1 u2 fun u3 u4 u5 hi =>
        ((0 : Int) ≤ (min (min r r1) r2) ∧ (min (min r r1) r2) < (o.length : Int)) ∧
        decision_Table__Make__e2_W (at' o (min (min r r1) r2)) lo hi o place u3 u4 u5 fun u6 u7 r9 =>
        Q u6 u7 (mput u5 [c, a, b] r9) r9) → decision_Table__Choose__e_W (g + 1) c a b o place nodes unique memo Q := fun Q hq => by
      rw [decision_Table__Choose__e_W]
      refine ⟨fun _ => True, ⟨fun x => x = false, condE (fun hh => absurd (.inl hh) q1) (fun _ => by simpa using fun hh => q1 (.inr hh)), ?_⟩, fun _ _ => hq⟩
      rintro x rfl
      exact condB (fun hh => by cases hh) (fun _ => condE (fun hh => absurd hh q2) (fun _ => condE (fun q4 => condE (fun hh => absurd ⟨q4, hh⟩ q3) (fun _ => trivial)) (fun _ => trivial)))
    cases hm : mget memo [c, a, b] with
    | some r =>
      obtain ⟨_, m2, m3⟩ := h.tb.me c a b r hm
      refine ⟨nodes, unique, memo, r, ⟨h, Pre.refl _, m2, m3, by omega⟩, fun Q hQ => enter Q ?_⟩
      rw [hm]
      exact condB (fun _ => hQ) (fun hh => by cases hh)
    | none =>
      have hc2 : 2 ≤ c := by omega
      obtain ⟨_, cv, _, _, ce, _⟩ := h.at hc hc2
      have clv := (h.ord.at_lev (v := (at' nodes (c - 2)).Var.toNat) (by omega)).1
      generalize hL : min (min (lvO o nodes c) (lvO o nodes a)) (lvO o nodes b) = L
      have hLn : L < o.length := by omega
      have hLI : min (min (lvO o nodes c : Int) (lvO o nodes a : Int)) (lvO o nodes b : Int) = (L : Int) := by omega
      have hbn : nodes.length ≤ 1099511627776 := by omega
      obtain ⟨v, hv⟩ : ∃ v : Nat, at' o (L : Int) = v := ⟨(at' o (L : Int)).toNat, by have := h.ord.rg L hLn; omega⟩
      have hvn : v < o.length := by have := h.ord.rg L hLn; omega
      have hvL : levO o v = L := by have := h.ord.lev_at hLn; rwa [hv, Int.toNat_natCast] at this
      have kv := fun (r : Int) (hr : Vd nodes r) (b : Bool) => kid_vd h hr hLn b
      have kl := fun (r : Int) (hr : Vd nodes r) (hl : L ≤ lvO o nodes r) (b : Bool) => kid_lvl h hr hLn hl b
      have kd := fun (r : Int) (hr : Vd nodes r) (hl : L ≤ lvO o nodes r) (b : Bool) (σ : Asg) => by
        have := kid_dn h hr hvn (by rw [hvL]; exact hl) b σ
        rwa [hvL] at this
      have lC : L ≤ lvO o nodes c := by omega
      have lA : L ≤ lvO o nodes a := by omega
      have lB : L ≤ lvO o nodes b := by omega
      obtain ⟨n1, u1, m1, lo, ⟨t1, p1, v1, d1, s1⟩, w1⟩ := ih g (by omega) h (by omega) (kv c hc false) (kv a ha false) (kv b hb' false) (by have := kl c hc lC false; omega) (by have := kl a ha lA false; omega) (by have := kl b hb' lB false; omega)
      have lv1 : ∀ r b, Vd nodes r → L ≤ lvO o nodes r → L + 1 ≤ lvO o n1 (kid o nodes r L b) := fun r b hr hl => by
        show L + 1 ≤ lvl o.length (levO o) n1 (kid o nodes r L b).toNat
        rw [Pre.lvl (kv r hr b) p1]; exact kl r hr hl b
      obtain ⟨n2, u2, m2, hi, ⟨t2, p2, v2, d2, s2⟩, w2⟩ := ih g (by omega) t1 (by omega) ((kv c hc true).pre p1) ((kv a ha true).pre p1) ((kv b hb' true).pre p1) (by have := lv1 c true hc lC; omega) (by have := lv1 a true ha lA; omega) (by have := lv1 b true hb' lB; omega)
      have v1' := v1.pre p2
      have dlo : ∀ σ, dn n2 lo σ = bif dn nodes c (setA σ v false) then dn nodes a (setA σ v false) else dn nodes b (setA σ v false) := fun σ => by
        rw [dn_pre v1 p2, d1, kd c hc lC, kd a ha lA, kd b hb' lB]
      have dhi : ∀ σ, dn n2 hi σ = bif dn nodes c (setA σ v true) then dn nodes a (setA σ v true) else dn nodes b (setA σ v true) := fun σ => by
        rw [d2, dn_pre (kv c hc true) p1, dn_pre (kv a ha true) p1, dn_pre (kv b hb' true) p1, kd c hc lC, kd a ha lA, kd b hb' lB]
      have dep : ∀ (r : Int) (hr : Vd nodes r), L ≤ lvO o nodes r → ∀ (b : Bool) (σ σ' : Asg), (∀ w ∈ (natO o).drop (L + 1), σ w = σ' w) → dn nodes r (setA σ v b) = dn nodes r (setA σ' v b) := fun r hr hl b σ σ' hh => by
        have := vd_dep h hr hl
        have hdr : (natO o).drop L = v :: (natO o).drop (L + 1) := by have := h.ord.ord.drop hvn; rwa [hvL] at this
        rw [hdr] at this
        exact this.set σ σ' hh
      have llo : L + 1 ≤ lvO o n2 lo := lvl_of_dep t2 v1' (by omega) fun σ σ' hh => by
        simp only [dlo]
        rw [dep c hc lC false σ σ' hh, dep a ha lA false σ σ' hh, dep b hb' lB false σ σ' hh]
      have lhi : L + 1 ≤ lvO o n2 hi := lvl_of_dep t2 v2 (by omega) fun σ σ' hh => by
        simp only [dhi]
        rw [dep c hc lC true σ σ' hh, dep a ha lA true σ σ' hh, dep b hb' lB true σ σ' hh]
      obtain ⟨n3, u3, r, ⟨t3, p3, v3, d3, s3⟩, w3⟩ := Make_s t2 (by omega) (v := (v : Int)) ⟨by omega, by omega⟩ v1' v2 (by rw [Int.toNat_natCast, hvL]; omega) (by rw [Int.toNat_natCast, hvL]; omega)
      have p13 := (p1.trans p2).trans p3
      have hres : ∀ σ, dn n3 r σ = bif dn nodes c σ then dn nodes a σ else dn nodes b σ := fun σ => by
        rw [d3, Int.toNat_natCast]
        cases hs : σ v
        · rw [cond_false, dlo, show setA σ v false = σ by rw [← hs]; exact setA_id]
        · rw [cond_true, dhi, show setA σ v true = σ by rw [← hs]; exact setA_id]
      refine ⟨n3, u3, mput m2 [c, a, b] r, r, ⟨⟨t3.ord, t3.pl, t3.pl2, t3.tb.memo_put (hc.pre p13) (ha.pre p13) (hb'.pre p13) v3 (fun σ => by rw [dn_pre hc p13, dn_pre ha p13, dn_pre hb' p13]; exact hres σ)⟩, p13, v3, hres, by rw [Nat.pow_succ]; omega⟩, fun Q hQ => enter Q ?_⟩
      rw [hm]
      refine condB (fun hh => by cases hh) (fun _ => level_s h hbn hc (level_s h hbn ha (level_s h hbn hb' ?_)))
      rw [hLI]
      refine Kids_s h hbn hc hLn (Kids_s h hbn ha hLn (Kids_s h hbn hb' hLn (w1 _ (w2 _ ⟨⟨by omega, by omega⟩, ?_⟩))))
      rw [hv]
      exact w3 _ hQ
end
end Go.Gg
namespace Go.Gg
section
variable {o place : List Int} {nodes : List GDNode} {unique memo : GMap Int}
/-- What an operation on a table leaves: a reference with a function, so many nodes more. -/
structure After (o place : List Int) (nodes nodes' : List GDNode) (unique' memo' : GMap Int) (r : Int) (f : Asg → Bool) (c : Nat) : Prop where
  ts : TS o place nodes' unique' memo'
  pre : Pre nodes nodes'
  vd : Vd nodes' r
  dn : dn nodes' r = f
  le : nodes'.length ≤ nodes.length + c
theorem Choose_e (h : TS o place nodes unique memo) (hb : nodes.length + 2 ^ o.length ≤ 1099511627776) {c a b : Int} (hc : Vd nodes c) (ha : Vd nodes a) (hb' : Vd nodes b) :
    ∃ nodes' unique' memo' r, After o place nodes nodes' unique' memo' r (fun σ => bif dn nodes c σ then dn nodes a σ else dn nodes b σ) (2 ^ o.length) ∧
      ∀ Q : List GDNode → GMap Int → GMap Int → Int → Prop, Q nodes' unique' memo' r → ∃ fu, decision_Table__Choose__e_W fu c a b o place nodes unique memo Q := by
  obtain ⟨n1, u1, m1, r, ⟨a1, a2, a3, a4, a5⟩, w⟩ := Choose_s o.length (o.length + 1) (by omega) h hb hc ha hb' (by omega) (by omega) (by omega)
  exact ⟨n1, u1, m1, r, ⟨a1, a2, a3, funext a4, by omega⟩, fun Q hQ => ⟨o.length + 1, w Q hQ⟩⟩
theorem And_e (h : TS o place nodes unique memo) (hb : nodes.length + 2 ^ o.length ≤ 1099511627776) {a b : Int} (ha : Vd nodes a) (hb' : Vd nodes b) :
    ∃ nodes' unique' memo' r, After o place nodes nodes' unique' memo' r (fun σ => dn nodes a σ && dn nodes b σ) (2 ^ o.length) ∧
      ∀ Q : List GDNode → GMap Int → GMap Int → Int → Prop, Q nodes' unique' memo' r → decision_Table__And__e_W a b o place nodes unique memo Q := by
  obtain ⟨n1, u1, m1, r, h1, w⟩ := Choose_e h hb ha hb' vd0
  refine ⟨n1, u1, m1, r, ⟨h1.ts, h1.pre, h1.vd, by rw [h1.dn, dn0]; funext σ; cases dn nodes a σ <;> rfl, h1.le⟩, fun Q hQ => w Q hQ⟩
theorem Or_e (h : TS o place nodes unique memo) (hb : nodes.length + 2 ^ o.length ≤ 1099511627776) {a b : Int} (ha : Vd nodes a) (hb' : Vd nodes b) :
    ∃ nodes' unique' memo' r, After o place nodes nodes' unique' memo' r (fun σ => dn nodes a σ || dn nodes b σ) (2 ^ o.length) ∧
      ∀ Q : List GDNode → GMap Int → GMap Int → Int → Prop, Q nodes' unique' memo' r → decision_Table__Or__e_W a b o place nodes unique memo Q := by
  obtain ⟨n1, u1, m1, r, h1, w⟩ := Choose_e h hb ha vd1 hb'
  refine ⟨n1, u1, m1, r, ⟨h1.ts, h1.pre, h1.vd, by rw [h1.dn, dn1]; funext σ; cases dn nodes a σ <;> rfl, h1.le⟩, fun Q hQ => w Q hQ⟩
theorem Not_e (h : TS o place nodes unique memo) (hb : nodes.length + 2 ^ o.length ≤ 1099511627776) {a : Int} (ha : Vd nodes a) :
    ∃ nodes' unique' memo' r, After o place nodes nodes' unique' memo' r (fun σ => !dn nodes a σ) (2 ^ o.length) ∧
      ∀ Q : List GDNode → GMap Int → GMap Int → Int → Prop, Q nodes' unique' memo' r → decision_Table__Not__e_W a o place nodes unique memo Q := by
  obtain ⟨n1, u1, m1, r, h1, w⟩ := Choose_e h hb ha vd0 vd1
  refine ⟨n1, u1, m1, r, ⟨h1.ts, h1.pre, h1.vd, by rw [h1.dn, dn0, dn1]; funext σ; cases dn nodes a σ <;> rfl, h1.le⟩, fun Q hQ => w Q hQ⟩
theorem Xor_e (h : TS o place nodes unique memo) (hb : nodes.length + 2 * 2 ^ o.length ≤ 1099511627776) {a b : Int} (ha : Vd nodes a) (hb' : Vd nodes b) :
    ∃ nodes' unique' memo' r, After o place nodes nodes' unique' memo' r (fun σ => dn nodes a σ != dn nodes b σ) (2 * 2 ^ o.length) ∧
      ∀ Q : List GDNode → GMap Int → GMap Int → Int → Prop, Q nodes' unique' memo' r → decision_Table__Xor__e_W a b o place nodes unique memo Q := by
  obtain ⟨n1, u1, m1, r1, h1, w1⟩ := Not_e h (by omega) hb'
  have := h1.le
  obtain ⟨n2, u2, m2, r, h2, w2⟩ := Choose_e h1.ts (by omega) (ha.pre h1.pre) h1.vd (hb'.pre h1.pre)
  have := h2.le
  refine ⟨n2, u2, m2, r, ⟨h2.ts, h1.pre.trans h2.pre, h2.vd, ?_, by omega⟩, fun Q hQ => w1 _ (w2 Q hQ)⟩
  rw [h2.dn, h1.dn, dn_pre ha h1.pre, dn_pre hb' h1.pre]
  funext σ
  show (bif dn nodes a σ then !dn nodes b σ else dn nodes b σ) = _
  cases dn nodes a σ <;> cases dn nodes b σ <;> rfl
theorem Event_e (h : TS o place nodes unique memo) (hb : nodes.length + 1 ≤ 1099511627776) {v : Int} (hv : 0 ≤ v ∧ v < o.length) :
    ∃ nodes' unique' r, After o place nodes nodes' unique' memo r (fun σ => σ v.toNat) 1 ∧
      ∀ Q : List GDNode → GMap Int → Int → Prop, Q nodes' unique' r → decision_Table__Event__e2_W v o place nodes unique memo Q := by
  have hl := (h.ord.at_lev (v := v.toNat) (by omega)).1
  obtain ⟨n1, u1, r, ⟨a1, a2, a3, a4, a5⟩, w⟩ := Make_s h hb hv vd0 vd1 (by show _ < lvl _ _ _ 0; rw [lvl_lt (by omega)]; exact hl) (by show _ < lvl _ _ _ 1; rw [lvl_lt (by omega)]; exact hl)
  refine ⟨n1, u1, r, ⟨a1, a2, a3, ?_, a5⟩, fun Q hQ => w Q hQ⟩
  funext σ
  rw [a4, dn0, dn1]
  cases σ v.toNat <;> rfl
/-- What has been replaced. -/
def Done (nodes : List GDNode) (e : Nat) (g : Asg → Bool) (done : GMap Int) : Prop := ∀ r x, mget done [r] = some x → Vd nodes r ∧ Vd nodes x ∧ ∀ σ, dn nodes x σ = dn nodes r (setA σ e (g σ))
theorem Done.pre {nodes' : List GDNode} {e : Nat} {g : Asg → Bool} {done : GMap Int} (h : Done nodes e g done) (hp : Pre nodes nodes') : Done nodes' e g done := fun r x hx => by
  obtain ⟨a, b, c⟩ := h r x hx
  exact ⟨a.pre hp, b.pre hp, fun σ => by rw [dn_pre a hp, dn_pre b hp]; exact c σ⟩
/-! ### What is given out -/
theorem mput_n {V : Type} {m : GMap V} {k : List Int} {v : V} : (mput m k v).n ≤ m.n + 1 := by
  unfold mput
  dsimp only
  cases (m.f k).isSome
  · exact Nat.le_refl _
  · exact Nat.le_succ _
theorem Small_1_e (h : TS o place nodes unique memo) (hb : nodes.length ≤ 1099511627776) : ∀ (k fu : Nat) {seen : GMap Bool} {r most : Int}, k < fu → Vd nodes r → o.length ≤ k + lvO o nodes r →
    ∃ seen' : GMap Bool, seen'.n + 1 ≤ seen.n + 2 ^ k ∧ ∀ Q : GMap Bool → Prop, Q seen' → decision_Table__Small_1__e_W fu r most seen o place nodes unique memo Q := by
  intro k
  induction k with
  | zero =>
    intro fu seen r most hfu hr hk
    obtain ⟨f, rfl⟩ : ∃ f, fu = f + 1 := ⟨fu - 1, by omega⟩
    refine ⟨seen, by simp, fun Q hQ => ?_⟩
    rw [decision_Table__Small_1__e_W]
    refine condT (fun _ => hQ) (fun hc => ?_)
    obtain ⟨_, x, _, _, e, _⟩ := h.at hr (by omega)
    have := (h.ord.at_lev (v := (at' nodes (r - 2)).Var.toNat) (by omega)).1
    omega
  | succ k ih =>
    intro fu seen r most hfu hr hk
    obtain ⟨f, rfl⟩ : ∃ f, fu = f + 1 := ⟨fu - 1, by omega⟩
    have hpk : 0 < 2 ^ k := Nat.pow_pos (by omega)
    rw [Nat.pow_succ]
    by_cases h2 : r < 2
    · refine ⟨seen, by omega, fun Q hQ => ?_⟩
      rw [decision_Table__Small_1__e_W]
      exact condT (fun _ => hQ) (fun hc => absurd h2 hc)
    by_cases h3 : Option.getD (mget seen [r]) false = true
    · refine ⟨seen, by omega, fun Q hQ => ?_⟩
      rw [decision_Table__Small_1__e_W]
      exact condT (fun _ => hQ) (fun _ => condB (fun _ => hQ) (fun hc => by rw [h3] at hc; cases hc))
    by_cases h4 : most < ((GMap.n seen : Nat) : Int)
    · refine ⟨seen, by omega, fun Q hQ => ?_⟩
      rw [decision_Table__Small_1__e_W]
      exact condT (fun _ => hQ) (fun _ => condB (fun _ => hQ) (fun _ => condT (fun _ => hQ) (fun hc => absurd h4 hc)))
    obtain ⟨_, _, xl, xh, _, xlo, xhi⟩ := h.at hr (by omega)
    have hr2 := hr.2
    have hn := mput_n (m := seen) (k := [r]) (v := true)
    obtain ⟨s1, c1, w1⟩ := ih f (seen := mput seen [r] true) (r := (at' nodes (r - 2)).Lo) (most := most) (by omega) ⟨xl.1, by omega⟩ (by omega)
    obtain ⟨s2, c2, w2⟩ := ih f (seen := s1) (r := (at' nodes (r - 2)).Hi) (most := most) (by omega) ⟨xh.1, by omega⟩ (by omega)
    refine ⟨s2, by omega, fun Q hQ => ?_⟩
    rw [decision_Table__Small_1__e_W]
    exact condT (fun hc => absurd hc h2) (fun _ => condB (fun hc => absurd hc h3) (fun _ => condT (fun hc => absurd hc h4) (fun _ => ⟨by unfold rng; omega, ⟨by omega, by omega⟩, s1, w1 _ rfl, by unfold rng; omega, ⟨by omega, by omega⟩, s2, w2 _ rfl, hQ⟩)))
theorem Small_e (h : TS o place nodes unique memo) (hb : nodes.length ≤ 1099511627776) (hn : o.length ≤ 12) {r : Int} (hr : Vd nodes r) {Q : Bool → Prop} (hQ : Q true) : decision_Table__Small__e_W r 4096 o place nodes unique memo Q := by
  obtain ⟨s, c, w⟩ := Small_1_e h hb o.length (o.length + 1) (seen := mnew) (r := r) (most := 4096) (by omega) hr (by omega)
  have h12 : 2 ^ o.length ≤ 4096 := Nat.pow_le_pow_right (n := 2) (by omega) hn
  have h0 : (mnew : GMap Bool).n = 0 := rfl
  refine ⟨o.length + 1, w _ ?_⟩
  rw [decide_eq_true (by omega)]
  exact hQ
theorem Export_1_e (h : TS o place nodes unique memo) (hb : nodes.length ≤ 1099511627776) {root : Int} {oo : List Int} : ∀ (k fu : Nat) {refs : GMap Int} {M : List GDNode} {r : Int}, k < fu → Vd nodes r → o.length ≤ k + lvO o nodes r → EX o.length (levO o) nodes refs M → M.length + 2 ^ k ≤ 1099511627776 →
    ∃ (refs' : GMap Int) (M' : List GDNode) (x : Int), (EX o.length (levO o) nodes refs' M' ∧ 0 ≤ x ∧ addF (natO o) (dn nodes r) M = (M', x.toNat) ∧ M'.length + 1 ≤ M.length + 2 ^ k ∧ ∀ q : Int, r < q → mget refs' [q] = mget refs [q]) ∧
      ∀ Q : GMap Int → List GDNode → Int → Prop, Q refs' M' x → decision_Table__Export_1__e2_W fu r root refs oo M o place nodes unique memo Q := by
  intro k
  induction k with
  | zero =>
    intro fu refs M r hfu hr hk hE hB
    obtain ⟨f, rfl⟩ : ∃ f, fu = f + 1 := ⟨fu - 1, by omega⟩
    have h0 := hr.1
    have h2 : r < 2 := by
      by_cases h2 : r < 2
      · exact h2
      · obtain ⟨_, x, _, _, e, _⟩ := h.at hr (by omega)
        have := (h.ord.at_lev (v := (at' nodes (r - 2)).Var.toNat) (by omega)).1
        omega
    have hm : mget refs [r] = some r := by
      rcases (show r = 0 ∨ r = 1 by omega) with rfl | rfl
      · exact hE.c0
      · exact hE.c1
    refine ⟨refs, M, r, ⟨hE, h0, hE.old h.ord.ord h.wt hm, by simp, fun _ _ => rfl⟩, fun Q hQ => ?_⟩
    rw [decision_Table__Export_1__e2_W, hm]
    exact condB (fun _ => hQ) (fun hc => by cases hc)
  | succ k ih =>
    intro fu refs M r hfu hr hk hE hB
    obtain ⟨f, rfl⟩ : ∃ f, fu = f + 1 := ⟨fu - 1, by omega⟩
    have hpk : 0 < 2 ^ k := Nat.pow_pos (by omega)
    rw [Nat.pow_succ] at hB ⊢
    cases hm : mget refs [r] with
    | some x =>
      refine ⟨refs, M, x, ⟨hE, (hE.sound r x hm).2.2.1, hE.old h.ord.ord h.wt hm, by omega, fun _ _ => rfl⟩, fun Q hQ => ?_⟩
      rw [decision_Table__Export_1__e2_W, hm]
      exact condB (fun _ => hQ) (fun hc => by cases hc)
    | none =>
      have h0 := hr.1
      have h2 : 2 ≤ r := by
        by_cases h2 : r < 2
        · rcases (show r = 0 ∨ r = 1 by omega) with rfl | rfl
          · rw [hE.c0] at hm; cases hm
          · rw [hE.c1] at hm; cases hm
        · omega
      obtain ⟨hx, _, xl, xh, _, xlo, xhi⟩ := h.at hr h2
      have hr2 := hr.2
      obtain ⟨r1, M1, y1, ⟨E1, z1, e1, c1, k1⟩, w1⟩ := ih f (refs := refs) (M := M) (r := (at' nodes (r - 2)).Lo) (by omega) ⟨xl.1, by omega⟩ (by omega) hE (by omega)
      obtain ⟨r2, M2, y2, ⟨E2, z2, e2, c2, k2⟩, w2⟩ := ih f (refs := r1) (M := M1) (r := (at' nodes (r - 2)).Hi) (by omega) ⟨xh.1, by omega⟩ (by omega) E1 (by omega)
      have hno : mget r2 [r] = none := by rw [k2 r (by omega), k1 r (by omega)]; exact hm
      have er : r = ((2 + (r - 2).toNat : Nat) : Int) := by omega
      have hN := EX.node h.ord.ord h.wt hE.wt E2 hx z1 z2 e1 e2 (by rw [← er]; exact hno)
      rw [← er] at hN
      obtain ⟨ha, hE3⟩ := hN
      have hlen : (M2 ++ [(⟨(at' nodes (r - 2)).Var, y1, y2⟩ : GDNode)]).length = M2.length + 1 := by rw [List.length_append]; rfl
      refine ⟨_, _, ((2 + M2.length : Nat) : Int), ⟨hE3, by omega, ?_, by rw [hlen]; omega, fun q hq => ?_⟩, fun Q hQ => ?_⟩
      · rw [show dn nodes r = fun σ => den nodes σ (2 + (r - 2).toNat) from ?_, ha, Int.toNat_natCast]
        funext σ
        unfold dn
        congr 1
        omega
      · rw [mget_put1, if_neg (by omega), k2 q (by omega), k1 q (by omega)]
      · rw [decision_Table__Export_1__e2_W, hm]
        refine condB (fun hc => by cases hc) (fun _ => ⟨by unfold rng; omega, ⟨by omega, by omega⟩, w1 _ (w2 _ ⟨by rw [hlen]; omega, by rw [hlen]; unfold rng; omega, ?_⟩)⟩)
        rw [hlen, mget_put1, if_pos rfl, show (1 + ((M2.length + 1 : Nat) : Int)) = ((2 + M2.length : Nat) : Int) by omega]
        exact hQ
theorem Export_e (h : TS o place nodes unique memo) (hb : nodes.length ≤ 1099511627776) {r : Int} (hr : Vd nodes r) {Q : GDiagram → Prop} (hQ : Q (canD o (dn nodes r))) : decision_Table__Export__e_W r o place nodes unique memo Q := by
  have hn := h.ord.le
  have hp := dpow24 hn
  obtain ⟨refs, M, x, ⟨_, z, e, _, _⟩, w⟩ := Export_1_e h hb (root := 0) (oo := o) o.length (o.length + 1) (refs := mput (mput (mnew : GMap Int) [0] 0) [1] 1) (M := []) (r := r) (by omega) hr (by omega) EX.start (by simp; omega)
  refine ⟨by omega, o.length + 1, w _ ?_⟩
  have : (⟨o, M, x⟩ : GDiagram) = canD o (dn nodes r) := by
    unfold canD
    rw [e]
    simp only [GDiagram.mk.injEq, true_and]
    omega
  rw [this]
  exact hQ
end
end Go.Gg
/- Lists are the same; a new table, what is imported, what is opened. Conditions: none. -/
namespace Go.Gg
theorem rep_len {α : Type} {n : Int} {x : α} (h : 0 ≤ n) : ((rep' n x).length : Int) = n := by simp [rep']; omega
theorem rep_at {α : Type} [Inhabited α] {n : Int} {x : α} {i : Nat} (h : (i : Int) < n) : at' (rep' n x) (i : Int) = x := by
  simp [at', rep', List.getD_eq_getElem?_getD, show i < n.toNat by omega]
theorem list_ne {α : Type} [Inhabited α] {a b : List α} {i : Int} (h : at' a i ≠ at' b i) : a ≠ b := fun he => h (by rw [he])
/-- A comparison of two lists of the same length, item by item. -/
theorem eqScan {α : Type} [Inhabited α] {a b : List α} {Q : Bool → Prop} {E : α → α → Bool} (hE : ∀ x y, E x y = false ↔ x = y) [Decidable (a = b)] (la : a.length ≤ 9223372036854775807) (hl : a.length = b.length) (h : Q (decide (a = b))) :
    loopW (σ := Int) 0 fun x next1 =>
      condW (decide (x < (a.length : Int)))
        (((0 : Int) ≤ x ∧ x < (a.length : Int)) ∧
        ((0 : Int) ≤ x ∧ x < (b.length : Int)) ∧
        condW (E (at' a x) (at' b x))
          (Q false)
          (rng (x + 1) ∧
          next1 (x + 1)))
        (Q true) := by
  refine scanW (n := a.length) (fun i => at' a (i : Int) ≠ at' b (i : Int)) la (fun i next hi hI hn => ⟨⟨by omega, by omega⟩, ⟨by omega, by omega⟩, condB (fun hc => ?_) (fun hc => hn (fun hh => hh ((hE _ _).1 hc)))⟩) (fun hI => ?_)
  · have hne : at' a (i : Int) ≠ at' b (i : Int) := fun hh => by rw [(hE _ _).2 hh] at hc; cases hc
    rw [decide_eq_false (list_ne hne)] at h
    exact h
  · rw [decide_eq_true (eq_by hl fun i hi => by have := hI i hi; exact Classical.not_not.1 this)] at h
    exact h
theorem bne_eq {x y : Int} : (x != y) = false ↔ x = y := by simp
theorem base_Ints_s {a b : List Int} {Q : Bool → Prop} (la : a.length ≤ 9223372036854775807) (h : Q (decide (a = b))) : base_Ints_W a b Q :=
  condN (fun hc => by rw [decide_eq_false (fun he => hc (by rw [he]))] at h; exact h) (fun hc => eqScan (E := fun x y => x != y) (fun _ _ => bne_eq) la (by omega) h)
theorem dnodE {x y : GDNode} : (!decide ([x.Var, x.Lo, x.Hi] = [y.Var, y.Lo, y.Hi])) = false ↔ x = y := by
  rw [Bool.not_eq_false', decide_eq_true_eq, node_ext]
instance : DecidableEq GDiagram := fun a b => decidable_of_iff (a.Order = b.Order ∧ a.Nodes = b.Nodes ∧ a.Root = b.Root) (by cases a; cases b; simp)
theorem base_Diagram_s {a b : GDiagram} {Q : Bool → Prop} (lo : a.Order.length ≤ 9223372036854775807) (ln : a.Nodes.length ≤ 9223372036854775807) (h : Q (decide (a = b))) : base_Diagram_W a b Q := by
  have no : a ≠ b → Q false := fun hne => by rw [decide_eq_false hne] at h; exact h
  refine condN (fun hc => no (fun he => hc (by rw [he]))) (fun h1 => base_Ints_s lo (condB (fun hc => no (fun he => ?_)) (fun h2 => ?_)))
  · rw [he] at hc; simp at hc
  · have h2' : a.Order = b.Order := by simpa using h2
    refine condN (fun hc => no (fun he => hc (by rw [he]))) (fun h3 => eqScan (E := fun (x y : GDNode) => !decide ([x.Var, x.Lo, x.Hi] = [y.Var, y.Lo, y.Hi])) (fun _ _ => dnodE) ln (by omega) ?_)
    have : decide (a.Nodes = b.Nodes) = decide (a = b) := decide_eq_decide.2 ⟨fun he => by cases a; cases b; simp only at h1 h2' he ⊢; rw [h1, h2', he], fun he => by rw [he]⟩
    rw [this]
    exact h
/-! ### A new table, and what is imported -/
theorem New_s {o : List Int} {Q : List Int → List Int → GMap Int → GMap Int → Prop} (h : Or14 o) (hQ : ∀ place, TS o place [] mnew mnew → Q o place mnew mnew) : decision_New_W o Q := by
  have hle := h.le
  refine ⟨by omega, ⟨by omega, by omega, by omega, by omega⟩, ?_⟩
  refine loopInv (n := o.length) (fun i y => y.1 = (i : Int) ∧ y.2.length = o.length ∧ ∀ v : Nat, v < o.length → levO o v < i → at' y.2 (v : Int) = (levO o v : Int)) (fun y => y.1) 0 (fun i y hy => by rw [hy.1]; omega) ⟨rfl, by simp [rep'], fun v hv hl => absurd hl (by omega)⟩ ?_ ?_
  · rintro i ⟨x, out⟩ next hi ⟨hx, hl, hI⟩ hn
    dsimp only at hx hl hI
    subst hx
    have hr := h.rg i hi
    obtain ⟨v, hv⟩ : ∃ v : Nat, at' o (i : Int) = v := ⟨(at' o (i : Int)).toNat, by omega⟩
    have hlv := h.lev_at hi
    rw [hv, Int.toNat_natCast] at hlv
    refine condT (fun _ => ⟨⟨by omega, by omega⟩, by omega, by unfold rng; omega, hn _ ⟨by dsimp only; omega, by dsimp only; rw [set_len]; exact hl, fun u hu hul => ?_⟩⟩) (fun hc => absurd (show (i : Int) < o.length by omega) hc)
    dsimp only
    rw [hv, at_set (by omega)]
    split
    · rename_i he; subst he; rw [hlv]
    · rename_i he
      refine hI u hu ?_
      rcases Nat.lt_or_ge (levO o u) i with h5 | h5
      · exact h5
      · have h6 := (h.at_lev hu).2
        rw [show levO o u = i by omega, hv] at h6
        omega
  · rintro ⟨x, out⟩ next ⟨hx, hl, hI⟩
    dsimp only at hx hl hI
    subst hx
    exact condT (fun hc => absurd hc (by omega)) (fun _ => hQ out ⟨h, hl, fun v hv => hI v hv (h.at_lev hv).1, TB.nil⟩)
/-- A diagram's function. -/
def dF (d : GDiagram) : Asg → Bool := dn d.Nodes d.Root
theorem VD.dep {d : GDiagram} (h : VD d) : Dep (dF d) (natO d.Order) := by
  have := h.wt.dep h.ord.ord h.root.2
  exact this.sub fun v hv => List.mem_of_mem_drop hv
/-- A table with its list of references. -/
structure Opn (l : List GDiagram) (place : List Int) (nodes : List GDNode) (unique memo : GMap Int) (refs : List Int) : Prop where
  ts : TS (at' l 0).Order place nodes unique memo
  len : refs.length = l.length
  le : nodes.length ≤ 4096 * l.length
  ref : ∀ i : Nat, i < l.length → Vd nodes (at' refs (i : Int)) ∧ dn nodes (at' refs (i : Int)) = dF (at' l (i : Int))
end Go.Gg
/- The functions of package algebra that give diagrams. Conditions: few events. -/
namespace Go.Gg
def noD : GDiagram := ⟨[], [], 0⟩
theorem wc12 {n : Nat} (h : n ≤ 12) : 2 ^ n ≤ 4096 ∧ 2 ^ n * (2 ^ n + 1) ≤ 16781312 := by
  have h1 : 2 ^ n ≤ 4096 := Nat.pow_le_pow_right (n := 2) (by omega) h
  exact ⟨h1, Nat.le_trans (Nat.mul_le_mul h1 (Nat.add_le_add_right h1 1)) (by decide)⟩
section
variable {o place : List Int} {nodes : List GDNode} {unique memo : GMap Int}
end
theorem at1 {x : GDiagram} : at' [x] (0 : Int) = x := rfl
/-- A function of a table that combines two references. -/
def Op2 (M : Int → Int → List Int → List Int → List GDNode → GMap Int → GMap Int → (List GDNode → GMap Int → GMap Int → Int → Prop) → Prop) (g : Bool → Bool → Bool) : Prop :=
  ∀ {o place : List Int} {nodes : List GDNode} {unique memo : GMap Int}, TS o place nodes unique memo → o.length ≤ 12 → nodes.length ≤ 1099494850560 → ∀ {a b : Int}, Vd nodes a → Vd nodes b →
    ∃ nodes' unique' memo' r, After o place nodes nodes' unique' memo' r (fun σ => g (dn nodes a σ) (dn nodes b σ)) 16777216 ∧
      ∀ Q : List GDNode → GMap Int → GMap Int → Int → Prop, Q nodes' unique' memo' r → M a b o place nodes unique memo Q
theorem After.mono {o place : List Int} {nodes nodes' : List GDNode} {unique' memo' : GMap Int} {r : Int} {f : Asg → Bool} {c c' : Nat} (h : After o place nodes nodes' unique' memo' r f c) (hc : c ≤ c') : After o place nodes nodes' unique' memo' r f c' := ⟨h.ts, h.pre, h.vd, h.dn, Nat.le_trans h.le (Nat.add_le_add_left hc _)⟩
theorem op_and : Op2 decision_Table__And__e_W (fun x y => x && y) := by
  intro o place nodes unique memo h hn hb a b ha hb'
  obtain ⟨h1, h2⟩ := wc12 hn
  obtain ⟨n1, u1, m1, r, ha, w⟩ := And_e h (by omega) ha hb'
  exact ⟨n1, u1, m1, r, ha.mono (by omega), w⟩
theorem op_or : Op2 decision_Table__Or__e_W (fun x y => x || y) := by
  intro o place nodes unique memo h hn hb a b ha hb'
  obtain ⟨h1, h2⟩ := wc12 hn
  obtain ⟨n1, u1, m1, r, ha, w⟩ := Or_e h (by omega) ha hb'
  exact ⟨n1, u1, m1, r, ha.mono (by omega), w⟩
theorem op_xor : Op2 decision_Table__Xor__e_W (fun x y => x != y) := by
  intro o place nodes unique memo h hn hb a b ha hb'
  obtain ⟨h1, h2⟩ := wc12 hn
  obtain ⟨n1, u1, m1, r, ha, w⟩ := Xor_e h (by omega) ha hb'
  exact ⟨n1, u1, m1, r, ha.mono (by omega), w⟩
theorem Opn.r0 {l : List GDiagram} {place : List Int} {nodes : List GDNode} {unique memo : GMap Int} {refs : List Int} (h : Opn l place nodes unique memo refs) (hl : 0 < l.length) : Vd nodes (at' refs 0) ∧ dn nodes (at' refs 0) = dF (at' l 0) := h.ref 0 hl
theorem Opn.r1 {l : List GDiagram} {place : List Int} {nodes : List GDNode} {unique memo : GMap Int} {refs : List Int} (h : Opn l place nodes unique memo refs) (hl : 1 < l.length) : Vd nodes (at' refs 1) ∧ dn nodes (at' refs 1) = dF (at' l 1) := h.ref 1 hl
theorem Opn.r2 {l : List GDiagram} {place : List Int} {nodes : List GDNode} {unique memo : GMap Int} {refs : List Int} (h : Opn l place nodes unique memo refs) (hl : 2 < l.length) : Vd nodes (at' refs 2) ∧ dn nodes (at' refs 2) = dF (at' l 2) := h.ref 2 hl
section
variable {a b : GDiagram} {Q : GDiagram → Option Int → Prop}
end
end Go.Gg
/- How many states, and the least one, the program's and the reference's. Conditions: few events. -/
namespace Go.Gg
/-! ### The least state -/
structure Least (n : Nat) (f : Asg → Bool) (m : Nat) : Prop where
  lt : m < 2 ^ n
  yes : f (stA m) = true
  no : ∀ s, s < m → f (stA s) = false
theorem Least.ex {n : Nat} {f : Asg → Bool} : ∀ k, k ≤ 2 ^ n → (∀ s, s < k → f (stA s) = false) ∨ ∃ m, Least n f m
  | 0, _ => .inl fun s hs => absurd hs (by omega)
  | k + 1, hk => by
    rcases Least.ex (n := n) (f := f) k (by omega) with h | h
    · cases hf : f (stA k)
      · refine .inl fun s hs => ?_
        rcases Nat.lt_or_ge s k with h1 | h1
        · exact h s h1
        · obtain rfl : s = k := by omega
          exact hf
      · exact .inr ⟨k, by omega, hf, h⟩
    · exact .inr h
theorem natO_lt {o : List Int} (h : Or14 o) : ∀ v ∈ natO o, v < o.length := fun v hv => ((h.ord.mem (l := 0) (v := v)).1 (by simpa using hv)).1
end Go.Gg
/- The reference's operations on tables. Conditions: none. -/
namespace Go.Gg
theorem tab_end {n : Nat} {g : Asg → Bool} {t : List Bool} (h : t.length = 2 ^ n) (h2 : ∀ s : Nat, s < 2 ^ n → at' t (s : Int) = g (stA s)) : t = tabF n g :=
  eq_by (by rw [h, tabF_len]) fun i hi => by rw [h2 i (by omega), tabF_at (by omega)]
/-- What a loop over a table leaves. -/
structure Upd (n : Nat) (g f : Asg → Bool) (i : Nat) (t : List Bool) : Prop where
  len : t.length = 2 ^ n
  at_ : ∀ s : Nat, s < 2 ^ n → at' t (s : Int) = if s < i then g (stA s) else f (stA s)
theorem Upd.start {n : Nat} {g f : Asg → Bool} : Upd n g f 0 (tabF n f) := ⟨tabF_len, fun s hs => by rw [if_neg (by omega), tabF_at hs]⟩
theorem Upd.old {n : Nat} {g f : Asg → Bool} {i : Nat} {t : List Bool} (h : Upd n g f i t) (hi : i < 2 ^ n) : at' t (i : Int) = f (stA i) := by rw [h.at_ i hi, if_neg (by omega)]
theorem Upd.step {n : Nat} {g f : Asg → Bool} {i : Nat} {t : List Bool} {b : Bool} (h : Upd n g f i t) (hi : i < 2 ^ n) (hb : b = g (stA i)) : Upd n g f (i + 1) (set' t (i : Int) b) := by
  refine ⟨by rw [set_len]; exact h.len, fun s hs => ?_⟩
  rw [at_set (by rw [h.len]; exact hi)]
  by_cases h1 : s = i
  · subst h1; rw [if_pos rfl, if_pos (by omega), hb]
  · rw [if_neg h1, h.at_ s hs]
    by_cases h2 : s < i
    · rw [if_pos h2, if_pos (by omega)]
    · rw [if_neg h2, if_neg (by omega)]
theorem Upd.keep {n : Nat} {g f : Asg → Bool} {i : Nat} {t : List Bool} (h : Upd n g f i t) (hb : f (stA i) = g (stA i)) : Upd n g f (i + 1) t := by
  refine ⟨h.len, fun s hs => ?_⟩
  rw [h.at_ s hs]
  by_cases h1 : s = i
  · subst h1; rw [if_neg (by omega), if_pos (by omega), hb]
  · by_cases h2 : s < i
    · rw [if_pos h2, if_pos (by omega)]
    · rw [if_neg h2, if_neg (by omega)]
theorem Upd.done {n : Nat} {g f : Asg → Bool} {t : List Bool} (h : Upd n g f (2 ^ n) t) : t = tabF n g := tab_end h.len fun s hs => by rw [h.at_ s hs, if_pos hs]
theorem Dep.const {b : Bool} {vs : List Nat} : Dep (fun _ => b) vs := fun _ _ _ => rfl
theorem list_snoc {α : Type} {l : List α} {x : α} : (l ++ [x]).length = l.length + 1 := by simp
end Go.Gg
/- The diagrams of functions are accepted; the laws' own functions. Conditions: few events. -/
namespace Go.Gg
theorem upto_suc {k : Nat} : upto (k + 1) = upto k ++ [((2 + k : Nat) : Int)] := by simp [upto, List.range_succ]
theorem addF_num {n : Nat} {lev : Nat → Nat} {ord : List Nat} (hO : OrdL n lev ord) : ∀ (k l : Nat), l + k = n → ∀ {f : Asg → Bool} {N : List GDNode}, WT n lev N → Dep f (ord.drop l) →
    (∀ i x, N.length ≤ i → (addF (ord.drop l) f N).1[i]? = some x → l ≤ lev x.Var.toNat) ∧ ∀ N', Pre (addF (ord.drop l) f N).1 N' → Kids N' → numR N' (addF (ord.drop l) f N).2 (upto N.length) = upto (addF (ord.drop l) f N).1.length
  | 0, l, hk, f, N, h, hd => by
    have e : ord.drop l = [] := List.drop_eq_nil_of_le (by rw [hO.len]; omega)
    rw [e, addF]
    refine ⟨fun i x hi hx => ?_, fun N' _ _ => numR_old (.inl ?_)⟩
    · have := (List.getElem?_eq_some_iff.1 hx).1
      simp only at this
      omega
    · simp only; split <;> omega
  | k + 1, l, hk, f, N, h, hd => by
    by_cases hrep : ∃ r, r < 2 + N.length ∧ ∀ σ, den N σ r = f σ
    · obtain ⟨r, hr, hf⟩ := hrep
      rw [addF_rep hO h (k + 1) l hk hd hr hf]
      refine ⟨fun i x hi hx => ?_, fun N' _ _ => numR_old ?_⟩
      · have := (List.getElem?_eq_some_iff.1 hx).1
        simp only at this
        omega
      · rcases Nat.lt_or_ge r 2 with h2 | h2
        · exact .inl h2
        · exact .inr (mem_upto.2 ⟨by simp only; omega, by simp only; omega⟩)
    have hspec := addF_spec hO (k + 1) l hk h hd
    have hl : l < ord.length := by rw [hO.len]; omega
    have hdr : ord.drop l = ord[l] :: ord.drop (l + 1) := List.drop_eq_getElem_cons hl
    generalize hv : ord[l] = v at hdr
    have hat := hO.at_ l v (by rw [List.getElem?_eq_getElem hl, hv])
    rw [hdr] at hd hspec ⊢
    obtain ⟨a1, ⟨M1, a2⟩, a3, a4⟩ := addF_spec hO k (l + 1) (by omega) (f := fun σ => f (setA σ v false)) h hd.set
    obtain ⟨a5, a6⟩ := addF_num hO k (l + 1) (by omega) (f := fun σ => f (setA σ v false)) h hd.set
    rw [addF] at hspec ⊢
    generalize hA : addF (ord.drop (l + 1)) (fun σ => f (setA σ v false)) N = A at a1 a2 a3 a4 a5 a6 hspec ⊢
    obtain ⟨b1, ⟨M2, b2⟩, b3, b4⟩ := addF_spec hO k (l + 1) (by omega) (f := fun σ => f (setA σ v true)) a1 hd.set
    obtain ⟨b5, b6⟩ := addF_num hO k (l + 1) (by omega) (f := fun σ => f (setA σ v true)) a1 hd.set
    have hrepB : ∀ r, r < 2 + A.1.length → (∀ σ, den A.1 σ r = f (setA σ v true)) → addF (ord.drop (l + 1)) (fun σ => f (setA σ v true)) A.1 = (A.1, r) := fun r h1 h2 => addF_rep hO a1 k (l + 1) (by omega) hd.set h1 h2
    generalize hB : addF (ord.drop (l + 1)) (fun σ => f (setA σ v true)) A.1 = B at b1 b2 b3 b4 b5 b6 hspec hrepB ⊢
    have levB : ∀ i x, N.length ≤ i → B.1[i]? = some x → l + 1 ≤ lev x.Var.toNat := fun i x hi hx => by
      rcases Nat.lt_or_ge i A.1.length with h1 | h1
      · refine a5 i x hi ?_
        rw [b2, List.getElem?_append_left h1] at hx
        exact hx
      · exact b5 i x h1 hx
    unfold mkD at hspec ⊢
    by_cases heq : A.2 = B.2
    · rw [if_pos heq] at hspec ⊢
      have hBA : B = (A.1, A.2) := hrepB A.2 a3 fun σ => by
        rw [← b4 σ, ← heq, b2, den_app _ a3]
      refine ⟨fun i x hi hx => Nat.le_of_succ_le (levB i x hi hx), fun N' hp hK => ?_⟩
      simp only at hp ⊢
      rw [hBA] at hp ⊢
      exact a6 N' hp hK
    · rw [if_neg heq] at hspec ⊢
      by_cases hm : (⟨(v : Int), (A.2 : Int), (B.2 : Int)⟩ : GDNode) ∈ B.1
      · exfalso
        rw [if_pos hm] at hspec
        have hlt : B.1.idxOf (⟨(v : Int), (A.2 : Int), (B.2 : Int)⟩ : GDNode) < B.1.length := List.idxOf_lt_length_of_mem hm
        have hget : B.1[B.1.idxOf (⟨(v : Int), (A.2 : Int), (B.2 : Int)⟩ : GDNode)]? = some (⟨(v : Int), (A.2 : Int), (B.2 : Int)⟩ : GDNode) := by rw [List.getElem?_eq_getElem hlt, List.getElem_idxOf]
        rcases Nat.lt_or_ge (B.1.idxOf (⟨(v : Int), (A.2 : Int), (B.2 : Int)⟩ : GDNode)) N.length with h1 | h1
        · refine hrep ⟨2 + B.1.idxOf (⟨(v : Int), (A.2 : Int), (B.2 : Int)⟩ : GDNode), by omega, fun σ => ?_⟩
          have := hspec.2.2.2 σ
          simp only at this
          rw [← this, b2, a2, List.append_assoc, den_app _ (by
            rw [b2, a2, List.append_assoc] at h1
            omega)]
        · have := levB _ _ h1 hget
          simp only [Int.toNat_natCast] at this
          omega
      · rw [if_neg hm]
        refine ⟨fun i x hi hx => ?_, fun N' hp hK => ?_⟩
        · simp only at hx
          rcases Nat.lt_or_ge i B.1.length with h1 | h1
          · rw [List.getElem?_append_left h1] at hx
            exact Nat.le_of_succ_le (levB i x hi hx)
          · have h2 := (List.getElem?_eq_some_iff.1 hx).1
            rw [List.length_append, List.length_singleton] at h2
            obtain rfl : i = B.1.length := by omega
            simp at hx
            subst hx
            simp only [Int.toNat_natCast]
            omega
        · simp only at hp ⊢
          obtain ⟨M, rfl⟩ := hp
          have hx : (B.1 ++ [(⟨(v : Int), (A.2 : Int), (B.2 : Int)⟩ : GDNode)] ++ M)[B.1.length]? = some (⟨(v : Int), (A.2 : Int), (B.2 : Int)⟩ : GDNode) := by simp
          have hNB : N.length ≤ B.1.length := by rw [b2, a2]; simp
          rw [numR_node hK hx (fun hc => by have := (mem_upto.1 hc).2; omega)]
          simp only [Int.toNat_natCast]
          rw [a6 _ ⟨M2 ++ [(⟨(v : Int), (A.2 : Int), (B.2 : Int)⟩ : GDNode)] ++ M, by rw [b2]; simp⟩ hK, b6 _ ⟨[(⟨(v : Int), (A.2 : Int), (B.2 : Int)⟩ : GDNode)] ++ M, by simp⟩ hK, List.length_append, List.length_singleton, upto_suc]
theorem WT.kids' {n : Nat} {lev : Nat → Nat} {N : List GDNode} (h : WT n lev N) : Kids N := fun i x hx => ⟨(h.nd i x hx).lo, (h.nd i x hx).hi⟩
section
variable {o : List Int} {f : Asg → Bool}
theorem VD_can (h : Or14 o) (hn : o.length ≤ 12) (hd : Dep f (natO o)) : VD (canD o f) := by
  obtain ⟨a, _, c, _⟩ := addF_all h.ord WT.nil hd
  have hl := addF_len (natO o) f []
  have hp : 2 ^ o.length ≤ 4096 := Nat.pow_le_pow_right (n := 2) (by omega) hn
  rw [natO_len] at hl
  have hnum := (addF_num h.ord o.length 0 (by omega) (f := f) WT.nil (by simpa using hd)).2 _ (Pre.refl _)
  rw [List.drop_zero] at hnum
  refine ⟨h, a, ⟨by show (0 : Int) ≤ ((addF (natO o) f []).2 : Int); omega, by show ((addF (natO o) f []).2 : Int).toNat < _; rw [Int.toNat_natCast]; exact c⟩, ?_, ?_⟩
  · show (addF (natO o) f []).1.length ≤ 4096
    simp only [List.length_nil] at hl
    omega
  · show numR (addF (natO o) f []).1 ((addF (natO o) f []).2 : Int).toNat [] = upto (addF (natO o) f []).1.length
    rw [Int.toNat_natCast]
    exact hnum a.kids'
theorem dF_can (h : Or14 o) (hd : Dep f (natO o)) : dF (canD o f) = f := by
  obtain ⟨_, _, _, e⟩ := addF_all h.ord WT.nil hd
  funext σ
  show den (addF (natO o) f []).1 σ ((addF (natO o) f []).2 : Int).toNat = f σ
  rw [Int.toNat_natCast]
  exact e σ
theorem can_lens (h : Or14 o) : (canD o f).Order.length ≤ 9223372036854775807 ∧ (canD o f).Nodes.length ≤ 9223372036854775807 := by
  have h1 := h.le
  have h2 := addF_len (natO o) f []
  rw [natO_len] at h2
  have := dpow24 h1
  refine ⟨by show o.length ≤ _; omega, ?_⟩
  show (addF (natO o) f []).1.length ≤ _
  simp only [List.length_nil] at h2
  omega
theorem base_can {b : GDiagram} {Q : Bool → Prop} (h : Or14 o) (hQ : Q (decide (canD o f = b))) : base_Diagram_W (canD o f) b Q := base_Diagram_s (can_lens h).1 (can_lens h).2 hQ
/-- Two diagrams of the same function. -/
theorem base_canE {b : GDiagram} {Q : Bool → Prop} (h : Or14 o) (hb : canD o f = b) (hQ : Q true) : base_Diagram_W (canD o f) b Q := base_can h (by rw [decide_eq_true hb]; exact hQ)
end
end Go.Gg
/- Formulas: which nodes lie below the top, and the formula without the others. Conditions: none. -/
namespace Go.Gg
theorem at_set' {α : Type} [Inhabited α] {l : List α} {a : Int} {x : α} {j : Int} (ha : 0 ≤ a ∧ a < l.length) (hj : 0 ≤ j) : at' (set' l a x) j = if j = a then x else at' l j := by
  obtain ⟨n, rfl⟩ : ∃ n : Nat, a = n := ⟨a.toNat, by omega⟩
  obtain ⟨m, rfl⟩ : ∃ n : Nat, j = n := ⟨j.toNat, by omega⟩
  rw [at_set (by omega)]
  by_cases h : m = n
  · rw [if_pos h, if_pos (by omega)]
  · rw [if_neg h, if_neg (by omega)]
/-- Marks set at places. -/
def setAll (as : List Int) (m : List Bool) : List Bool := as.foldl (fun m a => set' m a true) m
theorem setAll_len : ∀ (as : List Int) (m : List Bool), (setAll as m).length = m.length
  | [], _ => rfl
  | a :: as, m => by rw [setAll, List.foldl_cons]; exact (setAll_len as _).trans set_len
theorem setAll_at : ∀ (as : List Int) (m : List Bool) {j : Int}, (∀ a ∈ as, 0 ≤ a ∧ a < m.length) → 0 ≤ j → (at' (setAll as m) j = true ↔ at' m j = true ∨ j ∈ as)
  | [], m, j, _, _ => by simp [setAll]
  | a :: as, m, j, h, hj => by
    have ha := h a (by simp)
    have ih := setAll_at as (set' m a true) (j := j) (fun b hb => by rw [set_len]; exact h b (List.mem_cons_of_mem _ hb)) hj
    rw [setAll, List.foldl_cons]
    show at' (setAll as (set' m a true)) j = true ↔ _
    rw [ih, at_set' ha hj, List.mem_cons]
    by_cases he : j = a
    · rw [if_pos he]; simp [he]
    · rw [if_neg he]; simp [he]
theorem setAll_snoc {as : List Int} {a : Int} {m : List Bool} : setAll (as ++ [a]) m = set' (setAll as m) a true := by simp [setAll]
theorem take_snoc {α : Type} [Inhabited α] {l : List α} {j : Nat} (h : j < l.length) : l.take (j + 1) = l.take j ++ [at' l (j : Int)] := by
  rw [List.take_add_one, List.getElem?_eq_getElem h]
  simp [at', List.getD_eq_getElem?_getD, h]
theorem at_in {α : Type} [Inhabited α] {l : List α} {j : Nat} (h : j < l.length) : at' l (j : Int) ∈ l := by
  simp only [at', Int.toNat_natCast, List.getD_eq_getElem?_getD, List.getElem?_eq_getElem h, Option.getD_some]
  exact List.getElem_mem h
theorem in_at {α : Type} [Inhabited α] {l : List α} {x : α} (h : x ∈ l) : ∃ j : Nat, j < l.length ∧ at' l (j : Int) = x := by
  obtain ⟨j, hj, rfl⟩ := List.mem_iff_getElem.1 h
  exact ⟨j, hj, by simp [at', List.getD_eq_getElem?_getD, hj]⟩
def stepM (f : GFormula) (i : Nat) (m : List Bool) : List Bool := if at' m (f.Vars + i) = true then setAll (at' f.Nodes (i : Int)).Args m else m
def markF (f : GFormula) : Nat → List Bool
  | 0 => set' (rep' (f.Vars + (f.Nodes.length : Int)) false) f.Top true
  | k + 1 => stepM f (f.Nodes.length - 1 - k) (markF f k)
section
variable {f : GFormula}
theorem markF_len (g : FG f) : ∀ k, ((markF f k).length : Int) = f.Vars + f.Nodes.length
  | 0 => by
    have := g.v0
    rw [markF, set_len, rep_len (by omega)]
  | k + 1 => by
    rw [markF, stepM]
    split
    · rw [setAll_len]; exact markF_len g k
    · exact markF_len g k
theorem argsIn (g : FG f) {i : Nat} (hi : i < f.Nodes.length) : ∀ a ∈ (at' f.Nodes (i : Int)).Args, 0 ≤ a ∧ a < f.Vars + i := fun a ha => by
  obtain ⟨j, hj, rfl⟩ := in_at ha
  exact (nodeE_ok (g.node i hi)).arg j hj
structure Below (f : GFormula) (k : Nat) (m : List Bool) : Prop where
  top : at' m f.Top = true
  cl : ∀ i : Nat, f.Nodes.length - k ≤ i → i < f.Nodes.length → at' m (f.Vars + i) = true → ∀ a ∈ (at' f.Nodes (i : Int)).Args, at' m a = true
theorem markF_below (g : FG f) : ∀ k, k ≤ f.Nodes.length → Below f k (markF f k)
  | 0, _ => by
    have := g.v0; have := g.top0; have := g.top
    have hl : ((rep' (f.Vars + (f.Nodes.length : Int)) false).length : Int) = f.Vars + f.Nodes.length := rep_len (by omega)
    refine ⟨?_, fun i h1 h2 => by omega⟩
    rw [markF, at_set' (by omega) (by omega), if_pos rfl]
  | k + 1, hk => by
    have ih := markF_below g k (by omega)
    have hl := markF_len g k
    have v0 := g.v0
    have hi : f.Nodes.length - 1 - k < f.Nodes.length := by omega
    have hin := argsIn g hi
    have hin' : ∀ a ∈ (at' f.Nodes ((f.Nodes.length - 1 - k : Nat) : Int)).Args, 0 ≤ a ∧ a < (markF f k).length := fun a ha => by have := hin a ha; omega
    rw [markF, stepM]
    split
    · rename_i hm
      refine ⟨(setAll_at _ _ hin' g.top0).2 (.inl ih.top), fun i h1 h2 h3 a ha => ?_⟩
      have ha0 := argsIn g h2 a ha
      rw [setAll_at _ _ hin' (by omega)] at h3 ⊢
      by_cases he : i = f.Nodes.length - 1 - k
      · subst he; exact .inr ha
      · rcases h3 with h3 | h3
        · exact .inl (ih.cl i (by omega) h2 h3 a ha)
        · have := hin _ h3; omega
    · rename_i hm
      refine ⟨ih.top, fun i h1 h2 h3 a ha => ?_⟩
      by_cases he : i = f.Nodes.length - 1 - k
      · subst he; exact absurd h3 hm
      · exact ih.cl i (by omega) h2 h3 a ha
theorem below_s (g : FG f) {Q : List Bool → Prop} (hQ : Q (markF f f.Nodes.length)) : formula_below_W f Q := by
  have v0 := g.v0; have v24 := g.v24; have n128 := g.n128; have t0 := g.top0; have tt := g.top
  refine ⟨by unfold rng; omega, ⟨by omega, by omega, by omega, by omega⟩, by omega, by unfold rng; omega, ?_⟩
  refine ⟨fun y => ∃ k : Nat, k ≤ f.Nodes.length ∧ y = ((f.Nodes.length : Int) - 1 - k, markF f k), fun y => (y.1 + 1).toNat, ⟨0, by omega, by simp [markF]⟩, ?_⟩
  rintro _ ⟨k, hk, rfl⟩
  refine condT (fun hc => ?_) (fun hc => ?_)
  · have ei : (f.Nodes.length : Int) - 1 - k = ((f.Nodes.length - 1 - k : Nat) : Int) := by omega
    have hi : f.Nodes.length - 1 - k < f.Nodes.length := by omega
    have hl := markF_len g k
    have hin := argsIn g hi
    rw [ei]
    refine ⟨by unfold rng; omega, by omega, condB (fun hm => ⟨by omega, ?_⟩) (fun hm => ⟨by unfold rng; omega, ⟨k + 1, by omega, ?_⟩, by dsimp only; omega⟩)⟩
    · have ll := (nodeE_ok (g.node _ hi)).len
      refine loopUp (n := (at' f.Nodes ((f.Nodes.length - 1 - k : Nat) : Int)).Args.length) (fun j => ((j : Int), setAll ((at' f.Nodes ((f.Nodes.length - 1 - k : Nat) : Int)).Args.take j) (markF f k))) (fun y => y.1) 0 (fun i => by dsimp only; omega) rfl (fun j next hj hn => ?_) (fun next => ?_)
      · have ha := hin _ (at_in hj)
        refine condT (fun _ => ⟨by omega, by rw [setAll_len]; omega, by unfold rng; omega, ?_⟩) (fun hc => absurd (show (j : Int) < _ by omega) hc)
        rw [take_snoc hj, setAll_snoc] at hn
        exact hn
      · refine condT (fun hc => absurd hc (by omega)) (fun _ => ⟨by unfold rng; omega, ⟨k + 1, by omega, ?_⟩, by dsimp only; omega⟩)
        rw [List.take_length, markF, stepM, if_pos hm]
        refine Prod.ext ?_ rfl
        show _ = _
        simp only; omega
    · rw [markF, stepM, if_neg (by rw [hm]; simp)]
      refine Prod.ext ?_ rfl
      show _ = _
      simp only; omega
  · obtain rfl : k = f.Nodes.length := by omega
    exact hQ
theorem sub_from {α : Type} [Inhabited α] {l : List α} {a : Int} (h : 0 ≤ a ∧ a ≤ l.length) : ((sub' l a (l.length : Int)).length : Int) = l.length - a ∧ ∀ i : Nat, (i : Int) < l.length - a → at' (sub' l a (l.length : Int)) (i : Int) = at' l (a + i) := by
  obtain ⟨n, rfl⟩ : ∃ n : Nat, a = n := ⟨a.toNat, by omega⟩
  refine ⟨by simp [sub']; omega, fun i hi => ?_⟩
  rw [show (n : Int) + (i : Int) = ((n + i : Nat) : Int) by omega]
  simp only [at', sub', List.getD_eq_getElem?_getD, Int.toNat_natCast]
  rw [List.getElem?_take, if_pos (by omega), List.getElem?_drop]
theorem Size_s {Q : Int → Int → Option Int → Prop} (ht : rng f.Top) (h1 : chkM f ≠ 0 → Q 0 0 (some (chkM f))) (h2 : FG f → ∀ r a, 0 ≤ r → (r = 0 → f.Top < f.Vars) → Q r a none) : formula_Size_W f Q := by
  refine formula_Check_s ht ?_
  by_cases h0 : chkM f = 0
  · have g := chk_ok.1 h0
    have v0 := g.v0; have v24 := g.v24; have n128 := g.n128
    have hl := markF_len g f.Nodes.length
    have hb := markF_below g f.Nodes.length (Nat.le_refl _)
    obtain ⟨sl, sa⟩ := sub_from (l := markF f f.Nodes.length) (a := f.Vars) (by omega)
    rw [h0]
    refine condB (fun hc => by cases hc) (fun _ => ⟨_, below_s g rfl, ⟨by omega, by omega, by omega⟩, ?_⟩)
    refine loopInv (n := f.Nodes.length) (fun i (y : Int × Int × Int) => (y.2.2 = (i : Int) ∧ 0 ≤ y.1 ∧ y.1 ≤ (i : Int) ∧ 0 ≤ y.2.1 ∧ y.2.1 ≤ 16 * (i : Int)) ∧ (y.1 = 0 → ∀ k : Nat, k < i → at' (markF f f.Nodes.length) (f.Vars + k) = false)) (fun y => y.2.2) 0 (fun i y hy => by rw [hy.1.1]; omega) ⟨by dsimp only; omega, fun _ k hk => absurd hk (by omega)⟩ ?_ ?_
    · rintro i ⟨nn, aa, x⟩ next hi ⟨⟨hx, a1, a2, a3, a4⟩, hz⟩ hn
      dsimp only at hx a1 a2 a3 a4 hz
      subst hx
      have ll := (nodeE_ok (g.node _ hi)).len
      dsimp only
      rw [sa i (by omega)]
      refine condT (fun _ => ⟨by omega, condB (fun hm => ⟨by unfold rng; omega, by omega, by unfold rng; omega, letIn ⟨by unfold rng; omega, hn _ ⟨by dsimp only; omega, fun hc => by dsimp only at hc; omega⟩⟩⟩) (fun hm => ⟨by unfold rng; omega, hn _ ⟨by dsimp only; omega, fun hc k hk => ?_⟩⟩)⟩) (fun hc => absurd (show (i : Int) < _ by omega) hc)
      by_cases hk2 : k < i
      · exact hz hc k hk2
      · obtain rfl : k = i := by omega
        exact hm
    · rintro ⟨nn, aa, x⟩ next ⟨⟨hx, a1, a2, a3, a4⟩, hz⟩
      dsimp only at hx a1 a2 a3 a4 hz
      subst hx
      refine condT (fun hc => absurd hc (by omega)) (fun _ => h2 g nn aa a1 fun hr => ?_)
      by_cases hT : f.Top < f.Vars
      · exact hT
      · have := hz hr (f.Top - f.Vars).toNat (by have := g.top; omega)
        rw [show f.Vars + ((f.Top - f.Vars).toNat : Int) = f.Top by omega, hb.top] at this
        cases this
  · have : Option.isSome (errO (chkM f)) = true := by rw [isSome_errO]; simp [h0]
    have e : errO (chkM f) = some (chkM f) := errO_ne' h0
    rw [e]
    exact condB (fun _ => h1 h0) (fun hc => by cases hc)
/-! ### The formula without the other nodes -/
theorem vals_ext {f g : GFormula} {s : Nat} (hV : f.Vars = g.Vars) : ∀ n, (∀ i : Nat, i < n → at' f.Nodes (i : Int) = at' g.Nodes (i : Int)) → vals f s n = vals g s n
  | 0, _ => by rw [vals, vals, hV]
  | n + 1, h => by rw [vals, vals, vals_ext hV n (fun i hi => h i (by omega)), h n (by omega)]
theorem nodeE_ext {f g : GFormula} {i : Nat} (hV : f.Vars = g.Vars) (h : at' f.Nodes (i : Int) = at' g.Nodes (i : Int)) : nodeE f i = nodeE g i := by
  unfold nodeE; rw [h, hV]
theorem at_map {α β : Type} [Inhabited α] [Inhabited β] {l : List α} {g : α → β} {j : Nat} (h : j < l.length) : at' (l.map g) (j : Int) = g (at' l (j : Int)) := by
  simp [at', List.getD_eq_getElem?_getD, h]
theorem Trim_s {Q : GFormula → Option Int → Prop} (g : FG f) (hQ : ∀ x, FG x → x.Vars = f.Vars → (∀ s, FV x s = FV f s) → Q x none) : formula_Trim_W f Q := by
  have v0 := g.v0; have v24 := g.v24; have n128 := g.n128; have t0 := g.top0; have tt := g.top
  have hl := markF_len g f.Nodes.length
  have hb := markF_below g f.Nodes.length (Nat.le_refl _)
  obtain ⟨sl, sa⟩ := sub_from (l := markF f f.Nodes.length) (a := f.Vars) (by omega)
  have hrl : ((rep' (f.Vars + (f.Nodes.length : Int)) (0 : Int)).length : Int) = f.Vars + f.Nodes.length := rep_len (by omega)
  refine formula_Check_s (by unfold rng; omega) ?_
  rw [chk_ok.2 g]
  refine condB (fun hc => by cases hc) (fun _ => ⟨by unfold rng; omega, ⟨by omega, by omega, by omega, by omega⟩, ?_⟩)
  refine loopInv (n := f.Vars.toNat) (fun i (y : Int × List Int) => (y.1 = (i : Int) ∧ (y.2.length : Int) = f.Vars + f.Nodes.length) ∧ ∀ v : Nat, v < i → at' y.2 (v : Int) = (v : Int)) (fun y => y.1) 0 (fun i y hy => by rw [hy.1.1]; omega) ⟨⟨rfl, hrl⟩, fun v hv => absurd hv (by omega)⟩ ?_ ?_
  · rintro i ⟨x, to⟩ next hi ⟨⟨hx, hl1⟩, hI⟩ hn
    dsimp only at hx hl1 hI
    subst hx
    refine condT (fun _ => ⟨by omega, by unfold rng; omega, hn _ ⟨⟨by dsimp only; omega, by dsimp only; rw [set_len]; exact hl1⟩, fun v hv => ?_⟩⟩) (fun hc => absurd (show (i : Int) < f.Vars by omega) hc)
    dsimp only
    rw [at_set (by omega)]
    split
    · rename_i he; rw [he]
    · exact hI v (by omega)
  rintro ⟨x, to0⟩ next ⟨⟨hx, hl1⟩, hI⟩
  dsimp only at hx hl1 hI
  subst hx
  refine condT (fun hc => absurd hc (by omega)) (fun _ => ⟨_, below_s g rfl, ⟨by omega, by omega, by omega⟩, ?_⟩)
  refine loopInv (n := f.Nodes.length) (fun i (y : Int × List Int × List GNode) => (y.1 = (i : Int) ∧ (y.2.1.length : Int) = f.Vars + f.Nodes.length ∧ y.2.2.length ≤ i) ∧ (∀ v : Nat, (v : Int) < f.Vars → at' y.2.1 (v : Int) = (v : Int)) ∧ (∀ n, n < y.2.2.length → nodeE ⟨f.Vars, y.2.2, 0⟩ n = 0) ∧
      ∀ k : Nat, k < i → at' (markF f f.Nodes.length) (f.Vars + k) = true → (0 ≤ at' y.2.1 (f.Vars + k) ∧ at' y.2.1 (f.Vars + k) < f.Vars + y.2.2.length) ∧ ∀ s, at' (vals ⟨f.Vars, y.2.2, 0⟩ s y.2.2.length) (at' y.2.1 (f.Vars + k)) = at' (vals f s f.Nodes.length) (f.Vars + k)) (fun y => y.1) 0
    (fun i y hy => by rw [hy.1.1]; omega) ⟨⟨rfl, hl1, by simp⟩, fun v hv => hI v (by omega), fun n hn => by simp at hn, fun k hk => absurd hk (by omega)⟩ ?_ ?_
  · rintro i ⟨x, to, x2⟩ next2 hi ⟨⟨hx, hl2, hx2⟩, hV, hN, hK⟩ hn
    dsimp only at hx hl2 hx2 hV hN hK
    subst hx
    have ng := nodeE_ok (g.node i hi)
    have hin := argsIn g hi
    dsimp only
    rw [sa i (by omega)]
    refine condT (fun _ => ⟨by omega, condB (fun hm => ?_) (fun hm => ⟨by omega, ?_⟩)⟩) (fun hc => absurd (show (i : Int) < _ by omega) hc)
    · have hm' : at' (markF f f.Nodes.length) (f.Vars + i) = false := by simpa using hm
      refine ⟨by unfold rng; omega, hn _ ⟨⟨by dsimp only; omega, hl2, by dsimp only; omega⟩, hV, hN, fun k hk hmk => ?_⟩⟩
      by_cases hk2 : k < i
      · exact hK k hk2 hmk
      · obtain rfl : k = i := by omega
        rw [hm'] at hmk; cases hmk
    · have hm' : at' (markF f f.Nodes.length) (f.Vars + i) = true := by simpa using hm
      have ll := ng.len
      have hcl := hb.cl i (by omega) hi hm'
      -- where the arguments have gone
      have harg : ∀ a ∈ (at' f.Nodes (i : Int)).Args, (0 ≤ at' to a ∧ at' to a < f.Vars + x2.length) ∧ ∀ s, at' (vals ⟨f.Vars, x2, 0⟩ s x2.length) (at' to a) = at' (vals f s i) a := fun a ha => by
        have h3 := hin a ha
        by_cases hv : a < f.Vars
        · obtain ⟨v, rfl⟩ : ∃ v : Nat, a = v := ⟨a.toNat, by omega⟩
          rw [hV v hv]
          refine ⟨by omega, fun s => ?_⟩
          rw [vals_bit (f := ⟨f.Vars, x2, 0⟩) (by omega) hv, vals_bit (by omega) hv]
        · obtain ⟨k, rfl⟩ : ∃ k : Nat, a = f.Vars + k := ⟨(a - f.Vars).toNat, by omega⟩
          obtain ⟨q1, q2⟩ := hK k (by omega) (hcl _ ha)
          refine ⟨q1, fun s => ?_⟩
          rw [q2, vals_pre (m := i) (by omega) (by omega) f.Nodes.length (by omega)]
      refine loopUp (n := (at' f.Nodes (i : Int)).Args.length) (fun j => ((j : Int), ((at' f.Nodes (i : Int)).Args.take j).map fun a => at' to a)) (fun y => y.1) 0 (fun j => by dsimp only; omega) rfl (fun j next3 hj hn3 => ?_) (fun next3 => ?_)
      · have h3 := hin _ (at_in hj)
        dsimp only
        refine condT (fun _ => ⟨by omega, by omega, by rw [list_snoc, List.length_map, List.length_take]; omega, by unfold rng; omega, ?_⟩) (fun hc => absurd (show (j : Int) < _ by omega) hc)
        rw [take_snoc hj, List.map_append] at hn3
        exact hn3
      · refine condT (fun hc => absurd hc (by omega)) (fun _ => ?_)
        dsimp only
        rw [List.take_length]
        generalize hxn : (⟨(at' f.Nodes (i : Int)).Kind, (at' f.Nodes (i : Int)).K, (at' f.Nodes (i : Int)).Args.map fun a => at' to a⟩ : GNode) = xn
        have hlast : at' (x2 ++ [xn]) (x2.length : Int) = xn := at_app_mid
        have hold : ∀ n : Nat, n < x2.length → at' (x2 ++ [xn]) (n : Int) = at' x2 (n : Int) := fun n hn => at_app_left (by omega) (by omega)
        have hvo : ∀ s n, n ≤ x2.length → vals ⟨f.Vars, x2 ++ [xn], 0⟩ s n = vals ⟨f.Vars, x2, 0⟩ s n := fun s n hn => vals_ext (f := ⟨f.Vars, x2 ++ [xn], 0⟩) (g := ⟨f.Vars, x2, 0⟩) rfl n fun k hk => hold k (by omega)
        have hval : ∀ s, at' (vals ⟨f.Vars, x2 ++ [xn], 0⟩ s (x2.length + 1)) (f.Vars + x2.length) = at' (vals f s f.Nodes.length) (f.Vars + i) := fun s => by
          have e := vals_node (f := ⟨f.Vars, x2 ++ [xn], 0⟩) (s := s) (i := x2.length) v0 (by simp)
          rw [show (⟨f.Vars, x2 ++ [xn], 0⟩ : GFormula).Nodes.length = x2.length + 1 from list_snoc] at e
          rw [e, vals_node v0 hi]
          show nodeV (at' (x2 ++ [xn]) (x2.length : Int)) _ = _
          rw [hlast, hvo s _ (Nat.le_refl _), ← hxn]
          unfold nodeV
          have ec : cnt ⟨(at' f.Nodes (i : Int)).Kind, (at' f.Nodes (i : Int)).K, (at' f.Nodes (i : Int)).Args.map fun a => at' to a⟩ (vals ⟨f.Vars, x2, 0⟩ s x2.length) (at' f.Nodes (i : Int)).Args.length = cnt (at' f.Nodes (i : Int)) (vals f s i) (at' f.Nodes (i : Int)).Args.length := by
            have : ∀ j, j ≤ (at' f.Nodes (i : Int)).Args.length → cnt ⟨(at' f.Nodes (i : Int)).Kind, (at' f.Nodes (i : Int)).K, (at' f.Nodes (i : Int)).Args.map fun a => at' to a⟩ (vals ⟨f.Vars, x2, 0⟩ s x2.length) j = cnt (at' f.Nodes (i : Int)) (vals f s i) j := fun j => by
              induction j with
              | zero => intro _; rfl
              | succ j ih =>
                intro hj
                rw [cnt, cnt, ih (by omega)]
                simp only
                rw [at_map (by omega), (harg _ (at_in (by omega))).2 s]
            exact this _ (Nat.le_refl _)
          simp only [List.length_map]
          rw [ec]
          unfold kindV
          simp only [List.length_map]
        refine ⟨by unfold rng; omega, by unfold rng; omega, by omega, by rw [list_snoc]; omega, by unfold rng; omega, hn _ ⟨⟨by dsimp only; omega, by dsimp only; rw [set_len]; exact hl2, by dsimp only; rw [list_snoc]; omega⟩, fun v hv => ?_, fun n hn2 => ?_, fun k hk hmk => ?_⟩⟩
        · dsimp only
          rw [at_set' (by omega) (by omega), if_neg (by omega)]
          exact hV v hv
        · dsimp only at hn2 ⊢
          rw [list_snoc] at hn2
          by_cases hlt : n < x2.length
          · rw [nodeE_ext (f := ⟨f.Vars, x2 ++ [xn], 0⟩) (g := ⟨f.Vars, x2, 0⟩) rfl (hold n hlt)]
            exact hN n hlt
          · obtain rfl : n = x2.length := by omega
            have h0 := g.node i hi
            unfold nodeE at h0 ⊢
            simp only [hlast]
            rw [← hxn]
            simp only [List.length_map]
            split at h0
            · cases h0
            rename_i c1
            split at h0
            · cases h0
            rename_i c2
            split at h0
            · cases h0
            rw [if_neg c1, if_neg c2, if_neg]
            · exact h0
            · rintro ⟨j, hj, hc⟩
              rw [at_map hj] at hc
              have := (harg _ (at_in hj)).1
              omega
        · dsimp only
          rw [at_set' (by omega) (by omega), list_snoc]
          by_cases hki : k = i
          · subst hki
            rw [if_pos rfl]
            exact ⟨by omega, hval⟩
          · rw [if_neg (by omega)]
            obtain ⟨q1, q2⟩ := hK k (by omega) hmk
            refine ⟨by omega, fun s => ?_⟩
            rw [vals_pre (m := x2.length) q1.1 (by show _ < (f.Vars.toNat : Int) + _; omega) (x2.length + 1) (by omega), hvo s _ (Nat.le_refl _)]
            exact q2 s
  · rintro ⟨x, to, x2⟩ next2 ⟨⟨hx, hl2, hx2⟩, hV, hN, hK⟩
    dsimp only at hx hl2 hx2 hV hN hK
    subst hx
    have hT : (0 ≤ at' to f.Top ∧ at' to f.Top < f.Vars + x2.length) ∧ ∀ s, at' (vals ⟨f.Vars, x2, 0⟩ s x2.length) (at' to f.Top) = at' (vals f s f.Nodes.length) f.Top := by
      by_cases hv : f.Top < f.Vars
      · obtain ⟨v, hv'⟩ : ∃ v : Nat, f.Top = v := ⟨f.Top.toNat, by omega⟩
        rw [hv'] at hv ⊢
        rw [hV v hv]
        refine ⟨by omega, fun s => ?_⟩
        rw [vals_bit (f := ⟨f.Vars, x2, 0⟩) (by omega) hv, vals_bit (by omega) hv]
      · obtain ⟨k, hk⟩ : ∃ k : Nat, f.Top = f.Vars + k := ⟨(f.Top - f.Vars).toNat, by omega⟩
        have hbt := hb.top
        rw [hk] at hbt ⊢
        exact hK k (by omega) hbt
    refine condT (fun hc => absurd hc (by omega)) (fun _ => ⟨by omega, hQ _ ⟨v0, v24, by show x2.length ≤ 128; omega, fun n hn => ?_, hT.1.1, hT.1.2⟩ rfl fun s => ?_⟩)
    · rw [nodeE_ext (f := ⟨f.Vars, x2, at' to f.Top⟩) (g := ⟨f.Vars, x2, 0⟩) rfl rfl]
      exact hN n hn
    · show at' (vals ⟨f.Vars, x2, at' to f.Top⟩ s x2.length) (at' to f.Top) = _
      rw [vals_ext (f := ⟨f.Vars, x2, at' to f.Top⟩) (g := ⟨f.Vars, x2, 0⟩) rfl _ (fun _ _ => rfl), hT.2 s]
      rfl
end
end Go.Gg
/- Loops whose outcome is known ahead; a node of a formula as a diagram. Conditions: few events. -/
namespace Go.Gg
/-- A loop over a known sequence of states. -/
theorem loopSeq {σ : Type} {n : Nat} (st : Nat → σ) (ix : σ → Int) (c : Int) (hix : ∀ i, i ≤ n → ix (st i) = i + c) {x0 : σ} {body : σ → (σ → Prop) → Prop} (h0 : x0 = st 0)
    (hs : ∀ i (next : σ → Prop), i < n → next (st (i + 1)) → body (st i) next) (he : ∀ (next : σ → Prop), body (st n) next) : loopW x0 body := by
  refine ⟨fun y => ∃ i, i ≤ n ∧ y = st i, fun y => n - (ix y - c).toNat, ⟨0, Nat.zero_le _, h0⟩, ?_⟩
  rintro _ ⟨i, hi, rfl⟩
  rcases Nat.lt_or_ge i n with h | h
  · refine hs i _ h ⟨⟨i + 1, h, rfl⟩, ?_⟩
    have h1 := hix i hi
    have h2 := hix (i + 1) h
    dsimp only
    rw [h1, h2]
    omega
  · obtain rfl : i = n := by omega
    exact he _
/-- A loop whose steps are told one after the other: its outcome is told, too. -/
theorem exLoop {σ τ : Type} {n : Nat} (Inv : Nat → σ → Prop) (ix : σ → Int) (c : Int) (hix : ∀ i y, Inv i y → ix y = i + c) {x0 : σ} {B : τ → σ → (σ → Prop) → Prop} (h0 : Inv 0 x0)
    (hs : ∀ i x, i < n → Inv i x → ∃ y, Inv (i + 1) y ∧ ∀ (Q : τ) (next : σ → Prop), next y → B Q x next) : ∃ y, Inv n y ∧ ∀ Q : τ, (∀ next, B Q y next) → loopW x0 (B Q) := by
  have key : ∀ k, k ≤ n → ∃ st : Nat → σ, st 0 = x0 ∧ (∀ i, i ≤ k → Inv i (st i)) ∧ ∀ i, i < k → ∀ (Q : τ) (next : σ → Prop), next (st (i + 1)) → B Q (st i) next := fun k => by
    induction k with
    | zero => exact fun _ => ⟨fun _ => x0, rfl, fun i hi => (by obtain rfl : i = 0 := (by omega); exact h0), fun i hi => absurd hi (by omega)⟩
    | succ k ih =>
      intro hk
      obtain ⟨st, a, b, d⟩ := ih (by omega)
      obtain ⟨y, hy, w⟩ := hs k (st k) (by omega) (b k (Nat.le_refl _))
      refine ⟨fun i => if i ≤ k then st i else y, by simp [a], fun i hi => ?_, fun i hi Q next hn => ?_⟩
      · by_cases h1 : i ≤ k
        · simp only [h1, if_true]; exact b i h1
        · obtain rfl : i = k + 1 := by omega
          simp only [h1, if_false]; exact hy
      · by_cases h1 : i = k
        · subst h1
          simp only [Nat.le_refl, if_true]
          simp only [show ¬ i + 1 ≤ i by omega, if_false] at hn
          exact w Q next hn
        · simp only [show i ≤ k by omega, if_true]
          simp only [show i + 1 ≤ k by omega, if_true] at hn
          exact d i (by omega) Q next hn
  obtain ⟨st, a, b, d⟩ := key n (Nat.le_refl _)
  exact ⟨st n, b n (Nat.le_refl _), fun Q he => loopSeq st ix c (fun i hi => hix i _ (b i hi)) a.symm (fun i next hi hn => d i hi Q next hn) he⟩
/-! ### Joins -/
def joinG (M : Int → Int → List Int → List Int → List GDNode → GMap Int → GMap Int → (List GDNode → GMap Int → GMap Int → Int → Prop) → Prop) (refs : List Int) (first : Int) (order : List Int) (place : List Int) (nodes : List GDNode) (unique : GMap Int) (memo : GMap Int) (Q : List GDNode → GMap Int → GMap Int → Int → Prop) : Prop :=
  loopW (σ := Int × Int × (List GDNode) × (GMap Int) × (GMap Int)) (first, 0, nodes, unique, memo) fun ⟨first1, x, x1, x2, x3⟩ next1 =>
    condW (decide (x < (refs.length : Int)))
      (((0 : Int) ≤ x ∧ x < (refs.length : Int)) ∧
      M first1 (at' refs x) order place x1 x2 x3 fun u u1 u2 first2 =>
      rng (x + 1) ∧
      next1 (first2, (x + 1), u, u1, u2))
      (Q x1 x2 x3 first1)
/-- A fold over the first references. -/
def gFold (g : Bool → Bool → Bool) (c : Bool) (b : Nat → Bool) : Nat → Bool
  | 0 => c
  | i + 1 => g (gFold g c b i) (b i)
section
variable {o place : List Int} {nodes : List GDNode} {unique memo : GMap Int}
theorem join_s {M : Int → Int → List Int → List Int → List GDNode → GMap Int → GMap Int → (List GDNode → GMap Int → GMap Int → Int → Prop) → Prop} {g : Bool → Bool → Bool} (hM : Op2 M g) (h : TS o place nodes unique memo) (hn : o.length ≤ 12) {refs : List Int} {first : Int} {c : Bool} (hl : refs.length ≤ 16)
    (hb : nodes.length ≤ 549755813888) (hf : Vd nodes first) (hc : dn nodes first = fun _ => c) (hr : ∀ j : Nat, j < refs.length → Vd nodes (at' refs (j : Int))) :
    ∃ nodes' unique' memo' r, After o place nodes nodes' unique' memo' r (fun σ => gFold g c (fun j => dn nodes (at' refs (j : Int)) σ) refs.length) 268435456 ∧
      ∀ Q : List GDNode → GMap Int → GMap Int → Int → Prop, Q nodes' unique' memo' r → joinG M refs first o place nodes unique memo Q := by
  obtain ⟨⟨r, x, n1, u1, m1⟩, ⟨⟨hx, hT⟩, hP, hV, hD, hL⟩, w⟩ := exLoop (τ := List GDNode → GMap Int → GMap Int → Int → Prop) (n := refs.length) (x0 := (first, 0, nodes, unique, memo))
    (fun i (y : Int × Int × (List GDNode) × (GMap Int) × (GMap Int)) => (y.2.1 = (i : Int) ∧ TS o place y.2.2.1 y.2.2.2.1 y.2.2.2.2) ∧ Pre nodes y.2.2.1 ∧ Vd y.2.2.1 y.1 ∧ dn y.2.2.1 y.1 = (fun σ => gFold g c (fun j => dn nodes (at' refs (j : Int)) σ) i) ∧ y.2.2.1.length ≤ nodes.length + 16777216 * i)
    (fun y => y.2.1) 0 (fun i y hy => by rw [hy.1.1]; omega)
    (B := fun Q => fun ⟨first1, x, x1, x2, x3⟩ next1 =>
    condW (decide (x < (refs.length : Int)))
      (((0 : Int) ≤ x ∧ x < (refs.length : Int)) ∧
      M first1 (at' refs x) o place x1 x2 x3 fun u u1 u2 first2 =>
      rng (x + 1) ∧
      next1 (first2, (x + 1), u, u1, u2))
      (Q x1 x2 x3 first1))
    ⟨⟨rfl, h⟩, Pre.refl _, hf, hc, by dsimp only; omega⟩ (by
      rintro i ⟨r, x, n1, u1, m1⟩ hi ⟨⟨hx, hT⟩, hP, hV, hD, hL⟩
      dsimp only at hx hT hP hV hD hL
      subst hx
      have hri := hr i hi
      have hi16 : i < 16 := Nat.lt_of_lt_of_le hi hl
      have hL2 : n1.length ≤ 550024249344 := Nat.le_trans hL (by omega)
      obtain ⟨n2, u2, m2, r2, a2, w2⟩ := hM hT hn (Nat.le_trans hL2 (by decide)) hV (hri.pre hP)
      have l2 := a2.le
      refine ⟨(r2, (i : Int) + 1, n2, u2, m2), ⟨⟨by dsimp only; omega, a2.ts⟩, hP.trans a2.pre, a2.vd, ?_, Nat.le_trans l2 (by omega)⟩, fun Q next hn => condT (fun _ => ⟨by omega, w2 _ ⟨by unfold rng; omega, hn⟩⟩) (fun hc => absurd (show (i : Int) < refs.length by omega) hc)⟩
      dsimp only
      rw [a2.dn, hD, dn_pre hri hP]
      rfl)
  dsimp only at hx hT hP hV hD hL
  subst hx
  exact ⟨n1, u1, m1, r, ⟨hT, hP, hV, hD, Nat.le_trans hL (by omega)⟩, fun Q hQ => w Q fun next => condT (fun hc => absurd hc (by omega)) (fun _ => hQ)⟩
/-- How many of the first references hold. -/
def cntB (b : Nat → Bool) : Nat → Nat
  | 0 => 0
  | i + 1 => cntB b i + (if b i = true then 1 else 0)
theorem cntB_le {b : Nat → Bool} : ∀ i, cntB b i ≤ i
  | 0 => Nat.le_refl _
  | i + 1 => by have := cntB_le (b := b) i; rw [cntB]; split <;> omega
theorem fold_and {b : Nat → Bool} : ∀ i, gFold (fun x y => x && y) true b i = decide (cntB b i = i)
  | 0 => rfl
  | i + 1 => by
    have := cntB_le (b := b) i
    rw [gFold, fold_and i, cntB]
    cases hb : b i
    · rw [Bool.and_false, if_neg (by simp)]; exact (decide_eq_false (by omega)).symm
    · rw [Bool.and_true, if_pos rfl]; exact decide_eq_decide.2 (by omega)
theorem fold_or {b : Nat → Bool} : ∀ i, gFold (fun x y => x || y) false b i = decide (0 < cntB b i)
  | 0 => rfl
  | i + 1 => by
    rw [gFold, fold_or i, cntB]
    cases hb : b i
    · rw [Bool.or_false, if_neg (by simp)]; rfl
    · rw [Bool.or_true, if_pos rfl]; exact (decide_eq_true (by omega)).symm
theorem fold_xor {b : Nat → Bool} : ∀ i, gFold (fun x y => x != y) false b i = decide (cntB b i % 2 = 1)
  | 0 => rfl
  | i + 1 => by
    rw [gFold, fold_xor i, cntB]
    cases hb : b i
    · rw [if_neg (by simp), Nat.add_zero]; simp
    · rw [if_pos rfl]
      rcases Nat.mod_two_eq_zero_or_one (cntB b i) with h1 | h1
      · rw [decide_eq_false (by omega), decide_eq_true (by omega)]; rfl
      · rw [decide_eq_true h1, decide_eq_false (by omega)]; rfl
end
end Go.Gg
/- Paths of a diagram to 1 and their cubes; the support of a diagram. Conditions: none. -/
namespace Go.Gg
section
variable {N : List GDNode}
/-- Cubes of events. -/
structure CubeOk (n : Nat) (c : GCube) : Prop where
  yes : 0 ≤ c.Yes ∧ c.Yes.toNat < 2 ^ n
  no : 0 ≤ c.No ∧ c.No.toNat < 2 ^ n
  dis : c.Yes.toNat &&& c.No.toNat = 0
end
end Go.Gg
/- Diagrams: which events a function depends on; numbers of nodes by places. Conditions: none. -/
namespace Go.Gg
section
variable {o : List Int} {f : Asg → Bool}
end
end Go.Gg
/- Sums of numbers; the number of pairs in unlike order is a metric. Conditions: none. -/
namespace Go.Gg
/-- A bijection of the first numbers. -/
structure Bij (n : Nat) (p a : Nat → Nat) : Prop where
  lt : ∀ v, v < n → p v < n
  lt' : ∀ k, k < n → a k < n
  ap : ∀ v, v < n → a (p v) = v
  pa : ∀ k, k < n → p (a k) = k
theorem Bij.symm {n : Nat} {p a : Nat → Nat} (h : Bij n p a) : Bij n a p := ⟨h.lt', h.lt, h.pa, h.ap⟩
theorem Bij.inj {n : Nat} {p a : Nat → Nat} (h : Bij n p a) {u v : Nat} (hu : u < n) (hv : v < n) (he : p u = p v) : u = v := by rw [← h.ap u hu, he, h.ap v hv]
end Go.Gg
/- All orders of some events in lexicographic order; the best of a list; sorted lists. Conditions: none. -/
namespace Go.Gg
/-- A list with each further event behind it. -/
def extO (n : Nat) (part : List Int) : List (List Int) := ((List.range n).filter fun v : Nat => decide ((v : Int) ∉ part)).map fun v : Nat => part ++ [(v : Int)]
def permO (n : Nat) : Nat → List Int → List (List Int)
  | 0, part => [part]
  | m + 1, part => (extO n part).flatMap (permO n m)
def levsO (n : Nat) : Nat → List (List Int)
  | 0 => [[]]
  | k + 1 => (levsO n k).flatMap (extO n)
theorem permO_suc {n : Nat} : ∀ m part, permO n (m + 1) part = (permO n m part).flatMap (extO n)
  | 0, part => by simp [permO]
  | m + 1, part => by
    have e : permO n (m + 1) = fun x => (permO n m x).flatMap (extO n) := funext fun x => permO_suc m x
    show (extO n part).flatMap (permO n (m + 1)) = ((extO n part).flatMap (permO n m)).flatMap (extO n)
    rw [e, List.flatMap_assoc]
theorem permO_levs {n : Nat} : ∀ k, permO n k [] = levsO n k
  | 0 => rfl
  | k + 1 => by rw [permO_suc, permO_levs k]; rfl
theorem mem_extO {n : Nat} {part q : List Int} : q ∈ extO n part ↔ ∃ v : Nat, v < n ∧ (v : Int) ∉ part ∧ q = part ++ [(v : Int)] := by
  simp only [extO, List.mem_map, List.mem_filter, List.mem_range, decide_eq_true_eq]
  constructor
  · rintro ⟨v, ⟨h1, h2⟩, h3⟩; exact ⟨v, h1, h2, h3.symm⟩
  · rintro ⟨v, h1, h2, h3⟩; exact ⟨v, ⟨h1, h2⟩, h3.symm⟩
/-- Parts of orders. -/
structure PartO (n k : Nat) (l : List Int) : Prop where
  len : l.length = k
  nd : l.Nodup
  rg : ∀ v ∈ l, 0 ≤ v ∧ v < n
theorem mem_levs {n : Nat} : ∀ (k : Nat) (l : List Int), l ∈ levsO n k ↔ PartO n k l
  | 0, l => by
    rw [levsO, List.mem_singleton]
    constructor
    · rintro rfl; exact ⟨rfl, List.nodup_nil, fun v h => by simp at h⟩
    · intro h; exact List.length_eq_zero_iff.1 h.len
  | k + 1, l => by
    rw [levsO, List.mem_flatMap]
    constructor
    · rintro ⟨a, ha, hl⟩
      obtain ⟨v, hv, hn, rfl⟩ := mem_extO.1 hl
      have h := (mem_levs k a).1 ha
      refine ⟨by rw [List.length_append, h.len]; rfl, ?_, fun w hw => ?_⟩
      · rw [List.nodup_append]
        refine ⟨h.nd, by simp, fun x hx y hy => ?_⟩
        rw [List.mem_singleton.1 hy]
        rintro rfl
        exact hn hx
      · rcases List.mem_append.1 hw with hw | hw
        · exact h.rg w hw
        · rw [List.mem_singleton.1 hw]; omega
    · intro h
      have hne : l ≠ [] := fun hc => by have := h.len; rw [hc] at this; simp at this
      obtain ⟨a, v, rfl⟩ : ∃ a v, l = a ++ [v] := ⟨l.dropLast, l.getLast hne, (List.dropLast_concat_getLast hne).symm⟩
      have hn := List.nodup_append.1 h.nd
      have hv := h.rg v (by simp)
      refine ⟨a, (mem_levs k a).2 ⟨by have := h.len; rw [List.length_append] at this; simpa using this, hn.1, fun w hw => h.rg w (by simp [hw])⟩, mem_extO.2 ⟨v.toNat, by omega, fun hc => ?_, by rw [show ((v.toNat : Nat) : Int) = v by omega]⟩⟩
      rw [show ((v.toNat : Nat) : Int) = v by omega] at hc
      exact hn.2.2 v hc v (by simp) rfl
/-! ### The best of a list -/
def bestF {α : Type} (key : α → Nat) (l : List α) (b : α) : α := l.foldl (fun b x => if key x < key b then x else b) b
theorem bestF_le {α : Type} {key : α → Nat} : ∀ (l : List α) (b : α), key (bestF key l b) ≤ key b ∧ ∀ x ∈ l, key (bestF key l b) ≤ key x
  | [], b => ⟨Nat.le_refl _, fun x h => by simp at h⟩
  | y :: l, b => by
    rw [bestF, List.foldl_cons]
    obtain ⟨h1, h2⟩ := bestF_le (key := key) l (if key y < key b then y else b)
    rw [bestF] at h1 h2
    have h3 : key (if key y < key b then y else b) ≤ key b ∧ key (if key y < key b then y else b) ≤ key y := by split <;> omega
    refine ⟨by omega, fun x hx => ?_⟩
    rcases List.mem_cons.1 hx with rfl | hx
    · omega
    · exact h2 x hx
theorem bestF_mem {α : Type} {key : α → Nat} : ∀ (l : List α) (b : α), bestF key l b = b ∨ bestF key l b ∈ l
  | [], b => .inl rfl
  | y :: l, b => by
    rw [bestF, List.foldl_cons]
    have := bestF_mem (key := key) l (if key y < key b then y else b)
    rw [bestF] at this
    rcases this with h | h
    · by_cases hk : key y < key b
      · rw [if_pos hk] at h ⊢; exact .inr (by rw [h]; simp)
      · rw [if_neg hk] at h ⊢; exact .inl h
    · exact .inr (List.mem_cons_of_mem _ h)
theorem bestF_snoc {α : Type} {key : α → Nat} {l : List α} {x b : α} : bestF key (l ++ [x]) b = if key x < key (bestF key l b) then x else bestF key l b := by rw [bestF, bestF, List.foldl_append]; rfl
end Go.Gg
/- The diagram of a formula. Conditions: few events. -/
namespace Go.Gg
theorem cnt_cntB {x : GNode} {v : List Bool} : ∀ j, cnt x v j = cntB (fun k => at' v (at' x.Args (k : Int))) j
  | 0 => rfl
  | j + 1 => by rw [cnt, cntB, cnt_cntB j]
theorem cntB_congr {b c : Nat → Bool} : ∀ j, (∀ k, k < j → b k = c k) → cntB b j = cntB c j
  | 0, _ => rfl
  | j + 1, h => by rw [cntB, cntB, cntB_congr j (fun k hk => h k (by omega)), h j (by omega)]
section
variable {o place : List Int} {nodes : List GDNode} {unique memo : GMap Int}
/-- How many references are needed: what a vote's row holds. -/
structure Need (nodes : List GDNode) (need : List Int) (k : Nat) (lo : Nat) (a b : Asg → Nat) : Prop where
  len : need.length = k + 1
  vd : ∀ m : Nat, m ≤ k → Vd nodes (at' need (m : Int))
  dn : ∀ m : Nat, m ≤ k → dn nodes (at' need (m : Int)) = fun σ => decide (m ≤ (if m ≤ lo then a σ else b σ))
theorem need_step {nodes' : List GDNode} {need : List Int} {k lo : Nat} {a b : Asg → Nat} {c : Asg → Bool} {r : Int} (h : Need nodes need k (lo + 1) a b) (hlo : lo + 1 ≤ k) (hp : Pre nodes nodes') (hv : Vd nodes' r)
    (hab : ∀ σ, b σ = a σ + (if c σ = true then 1 else 0)) (hd : dn nodes' r = fun σ => bif c σ then dn nodes (at' need (lo : Int)) σ else dn nodes (at' need ((lo + 1 : Nat) : Int)) σ) : Need nodes' (set' need ((lo + 1 : Nat) : Int) r) k lo a b := by
  have hl := h.len
  refine ⟨by rw [set_len]; exact hl, fun m hm => ?_, fun m hm => ?_⟩
  · rw [at_set (by omega)]
    split
    · exact hv
    · exact (h.vd m hm).pre hp
  · rw [at_set (by omega)]
    by_cases he : m = lo + 1
    · subst he
      rw [if_pos rfl, hd, h.dn lo (by omega), h.dn (lo + 1) hm]
      funext σ
      dsimp only
      rw [if_pos (by omega : lo ≤ lo + 1), if_pos (Nat.le_refl (lo + 1)), if_neg (by omega : ¬ lo + 1 ≤ lo), hab]
      cases c σ
      · simp
      · simp
    · rw [if_neg he, dn_pre (h.vd m hm) hp, h.dn m hm]
      funext σ
      by_cases h1 : m ≤ lo
      · rw [if_pos (by omega), if_pos h1]
      · rw [if_neg (by omega), if_neg h1]
theorem vote_s (h : TS o place nodes unique memo) (hn : o.length ≤ 12) {refs : List Int} {k : Nat} (hk : k ≤ 16) (hl : refs.length ≤ 16) (hb : nodes.length ≤ 549755813888)
    (hr : ∀ j : Nat, j < refs.length → Vd nodes (at' refs (j : Int))) :
    ∃ nodes' unique' memo' r, After o place nodes nodes' unique' memo' r (fun σ => decide (k ≤ cntB (fun j => dn nodes (at' refs (j : Int)) σ) refs.length)) 268435456 ∧
      ∀ Q : List GDNode → GMap Int → GMap Int → Int → Prop, Q nodes' unique' memo' r → diagram_vote__e_W refs (k : Int) o place nodes unique memo Q := by
  have w12 := (wc12 hn).1
  have hrl : ((rep' ((k : Int) + 1) (0 : Int)).length : Int) = k + 1 := rep_len (by omega)
  have start : Need nodes (set' (rep' ((k : Int) + 1) 0) 0 1) k k (fun σ => cntB (fun j => dn nodes (at' refs (j : Int)) σ) 0) (fun σ => cntB (fun j => dn nodes (at' refs (j : Int)) σ) 0) := by
    have e : ∀ m : Nat, m ≤ k → at' (set' (rep' ((k : Int) + 1) (0 : Int)) 0 1) (m : Int) = if m = 0 then 1 else 0 := fun m hm => by
      have := at_set (l := rep' ((k : Int) + 1) (0 : Int)) (i := 0) (x := 1) (j := m) (by omega)
      rw [show ((0 : Nat) : Int) = 0 from rfl] at this
      rw [this]
      by_cases h0 : m = 0
      · rw [if_pos h0, if_pos h0]
      · rw [if_neg h0, if_neg h0, rep_at (by omega)]
    refine ⟨by rw [set_len]; omega, fun m hm => ?_, fun m hm => ?_⟩
    · rw [e m hm]; split
      · exact vd1
      · exact vd0
    · rw [e m hm]
      by_cases h0 : m = 0
      · subst h0; rw [if_pos rfl, dn1]; rfl
      · rw [if_neg h0, dn0]; funext σ; simp [cntB, h0]
  obtain ⟨⟨x, need, n1, u1, m1⟩, ⟨⟨hx, hT⟩, hP, hN, hL⟩, w⟩ := exLoop (τ := List GDNode → GMap Int → GMap Int → Int → Prop) (n := refs.length) (x0 := ((0 : Int), set' (rep' ((k : Int) + 1) 0) 0 1, nodes, unique, memo))
    (fun i (y : Int × List Int × (List GDNode) × (GMap Int) × (GMap Int)) => (y.1 = (i : Int) ∧ TS o place y.2.2.1 y.2.2.2.1 y.2.2.2.2) ∧ Pre nodes y.2.2.1 ∧ Need y.2.2.1 y.2.1 k k (fun σ => cntB (fun j => dn nodes (at' refs (j : Int)) σ) i) (fun σ => cntB (fun j => dn nodes (at' refs (j : Int)) σ) i) ∧ y.2.2.1.length ≤ nodes.length + 65536 * i)
    (fun y => y.1) 0 (fun i y hy => by rw [hy.1.1]; omega)
    (B := fun Q => fun ⟨x, need, x1, x2, x3⟩ next1 =>
    condW (decide (x < (refs.length : Int)))
      (((0 : Int) ≤ x ∧ x < (refs.length : Int)) ∧
      loopW (σ := Int × (List Int) × (List GDNode) × (GMap Int) × (GMap Int)) ((k : Int), need, x1, x2, x3) fun ⟨j, need1, x4, x5, x6⟩ next2 =>
        condW (decide (0 < j))
          (rng (j - 1) ∧
          ((0 : Int) ≤ (j - 1) ∧ (j - 1) < (need1.length : Int)) ∧
          ((0 : Int) ≤ j ∧ j < (need1.length : Int)) ∧
          ∃ u u1 u2 r, (∃ fu, decision_Table__Choose__e_W fu (at' refs x) (at' need1 (j - 1)) (at' need1 j) o place x4 x5 x6 fun y1 y2 y3 y4 => y1 = u ∧ y2 = u1 ∧ y3 = u2 ∧ y4 = r) ∧
          ((0 : Int) ≤ j ∧ j < (need1.length : Int)) ∧
          rng (j - 1) ∧
          next2 ((j - 1), (set' need1 j r), u, u1, u2))
          (rng (x + 1) ∧
          next1 ((x + 1), need1, x4, x5, x6)))
      (((0 : Int) ≤ (k : Int) ∧ (k : Int) < (need.length : Int)) ∧
      Q x1 x2 x3 (at' need (k : Int))))
    ⟨⟨rfl, h⟩, Pre.refl _, start, by dsimp only; omega⟩ (by
      rintro i ⟨x, need, n1, u1, m1⟩ hi ⟨⟨hx, hT⟩, hP, hN, hL⟩
      dsimp only at hx hT hP hN hL
      subst hx
      have hri := hr i hi
      have hi16 : i < 16 := Nat.lt_of_lt_of_le hi hl
      have hL2 : n1.length ≤ 549756862464 := Nat.le_trans hL (by omega)
      -- the inner loop, from k down
      obtain ⟨⟨j, need2, n2, u2, m2⟩, ⟨⟨hj, hT2⟩, hP2, hN2, hL3⟩, w2⟩ := exLoop (τ := Int × (List Int) × (List GDNode) × (GMap Int) × (GMap Int) → Prop) (n := k) (x0 := ((k : Int), need, n1, u1, m1))
        (fun a (y : Int × List Int × (List GDNode) × (GMap Int) × (GMap Int)) => (y.1 = (k : Int) - a ∧ TS o place y.2.2.1 y.2.2.2.1 y.2.2.2.2) ∧ Pre n1 y.2.2.1 ∧ Need y.2.2.1 y.2.1 k (k - a) (fun σ => cntB (fun j => dn nodes (at' refs (j : Int)) σ) i) (fun σ => cntB (fun j => dn nodes (at' refs (j : Int)) σ) (i + 1)) ∧ y.2.2.1.length ≤ n1.length + 4096 * a)
        (fun y => -y.1) (-(k : Int)) (fun a y hy => by rw [hy.1.1]; omega)
        (B := fun N2 => fun ⟨j, need1, x4, x5, x6⟩ next2 =>
        condW (decide (0 < j))
          (rng (j - 1) ∧
          ((0 : Int) ≤ (j - 1) ∧ (j - 1) < (need1.length : Int)) ∧
          ((0 : Int) ≤ j ∧ j < (need1.length : Int)) ∧
          ∃ u u1 u2 r, (∃ fu, decision_Table__Choose__e_W fu (at' refs (i : Int)) (at' need1 (j - 1)) (at' need1 j) o place x4 x5 x6 fun y1 y2 y3 y4 => y1 = u ∧ y2 = u1 ∧ y3 = u2 ∧ y4 = r) ∧
          ((0 : Int) ≤ j ∧ j < (need1.length : Int)) ∧
          rng (j - 1) ∧
          next2 ((j - 1), (set' need1 j r), u, u1, u2))
          (rng ((i : Int) + 1) ∧
          N2 (((i : Int) + 1), need1, x4, x5, x6)))
        ⟨⟨by simp, hT⟩, Pre.refl _, ⟨hN.len, hN.vd, fun m hm => by
          have := hN.dn m hm
          rw [this]; funext σ
          rw [if_pos hm, if_pos (by omega)]⟩, by dsimp only; omega⟩ (by
          rintro a ⟨j, need2, n2, u2, m2⟩ ha ⟨⟨hj, hT2⟩, hP2, hN2, hL3⟩
          dsimp only at hj hT2 hP2 hN2 hL3
          obtain ⟨lo, hlo⟩ : ∃ lo, k - a = lo + 1 := ⟨k - a - 1, by omega⟩
          obtain rfl : j = ((lo + 1 : Nat) : Int) := by omega
          rw [hlo] at hN2
          have hlo2 : lo + 1 ≤ k := by omega
          have e1 : ((lo + 1 : Nat) : Int) - 1 = (lo : Int) := by omega
          have hl2 := hN2.len
          obtain ⟨n3, u3, m3, r3, a3, w3⟩ := Choose_e hT2 (Nat.le_trans (Nat.add_le_add hL3 w12) (by omega)) ((hri.pre hP).pre hP2) (hN2.vd lo (by omega)) (hN2.vd (lo + 1) hlo2)
          have l3 := a3.le
          refine ⟨((lo : Int), set' need2 ((lo + 1 : Nat) : Int) r3, n3, u3, m3), ⟨⟨by dsimp only; omega, a3.ts⟩, hP2.trans a3.pre, ?_, Nat.le_trans l3 (by omega)⟩, fun N2 next hn => condT (fun _ => ?_) (fun hc => absurd (show (0 : Int) < _ by omega) hc)⟩
          · dsimp only
            rw [show k - (a + 1) = lo by omega]
            exact need_step hN2 (c := dn nodes (at' refs (i : Int))) hlo2 a3.pre a3.vd (fun σ => rfl) (by rw [a3.dn, dn_pre (hri.pre hP) hP2, dn_pre hri hP])
          · rw [e1]
            exact ⟨by unfold rng; omega, by omega, by omega, n3, u3, m3, r3, w3 _ ⟨rfl, rfl, rfl, rfl⟩, by omega, by unfold rng; omega, hn⟩)
      dsimp only at hj hT2 hP2 hN2 hL3
      have hL4 : n2.length ≤ n1.length + 65536 := Nat.le_trans hL3 (by omega)
      refine ⟨((i : Int) + 1, need2, n2, u2, m2), ⟨⟨by dsimp only; omega, hT2⟩, hP.trans hP2, ⟨hN2.len, hN2.vd, fun m hm => ?_⟩, Nat.le_trans hL4 (by omega)⟩, fun Q next hn => condT (fun _ => ⟨by omega, w2 _ fun next2 => condT (fun hc => absurd hc (by omega)) (fun _ => ⟨by unfold rng; omega, hn⟩)⟩) (fun hc => absurd (show (i : Int) < refs.length by omega) hc)⟩
      rw [hN2.dn m hm]
      funext σ
      rw [if_pos hm]
      by_cases h0 : m = 0
      · subst h0; simp
      · rw [if_neg (by omega)])
  dsimp only at hx hT hP hN hL
  subst hx
  have hrl2 := hN.len
  refine ⟨n1, u1, m1, at' need (k : Int), ⟨hT, hP, hN.vd k (Nat.le_refl _), ?_, Nat.le_trans hL (by omega)⟩, fun Q hQ => ⟨by unfold rng; omega, ⟨by omega, by omega, by omega, by omega⟩, by omega, w Q fun next => condT (fun hc => absurd hc (by omega)) (fun _ => ⟨by omega, hQ⟩)⟩⟩
  rw [hN.dn k (Nat.le_refl _)]
  funext σ
  rw [if_pos (Nat.le_refl _)]
theorem nodeE_K {f : GFormula} {i : Nat} (h : nodeE f i = 0) : ((at' f.Nodes (i : Int)).Kind = 0 → (at' f.Nodes (i : Int)).K = 0 ∨ (at' f.Nodes (i : Int)).K = 1) ∧ ((at' f.Nodes (i : Int)).Kind = 4 → 1 ≤ (at' f.Nodes (i : Int)).K ∧ (at' f.Nodes (i : Int)).K ≤ ((at' f.Nodes (i : Int)).Args.length : Int)) := by
  unfold nodeE at h
  split at h
  · cases h
  split at h
  · cases h
  split at h
  · cases h
  split at h
  · split at h
    · cases h
    · exact ⟨fun _ => by omega, fun hc => by omega⟩
  split at h
  · split at h
    · cases h
    · exact ⟨fun hc => by omega, fun _ => by omega⟩
  · exact ⟨fun hc => by omega, fun hc => by omega⟩
theorem node_s (h : TS o place nodes unique memo) (hn : o.length ≤ 12) {x : GNode} {refs : List Int} {V : Asg → List Bool} (hk : 0 ≤ x.Kind ∧ x.Kind ≤ 5) (hK : (x.Kind = 0 → x.K = 0 ∨ x.K = 1) ∧ (x.Kind = 4 → 1 ≤ x.K ∧ x.K ≤ (x.Args.length : Int)))
    (ha : argsB x.Kind x.Args.length = true) (hl : refs.length = x.Args.length) (h16 : x.Args.length ≤ 16) (hb : nodes.length ≤ 549755813888) (hr : ∀ j : Nat, j < refs.length → Vd nodes (at' refs (j : Int)) ∧ dn nodes (at' refs (j : Int)) = fun σ => at' (V σ) (at' x.Args (j : Int))) :
    ∃ nodes' unique' memo' r, After o place nodes nodes' unique' memo' r (fun σ => nodeV x (V σ)) 268435456 ∧
      ∀ Q : List GDNode → GMap Int → GMap Int → Int → Prop, Q nodes' unique' memo' r → diagram_node__e_W x refs o place nodes unique memo Q := by
  have w12 := (wc12 hn).1
  have hc : ∀ σ, cntB (fun j => dn nodes (at' refs (j : Int)) σ) refs.length = cnt x (V σ) x.Args.length := fun σ => by
    rw [cnt_cntB, hl]
    exact cntB_congr _ fun j hj => by rw [(hr j (by omega)).2]
  have hr1 := fun j hj => (hr j hj).1
  rcases (by omega : x.Kind = 0 ∨ x.Kind = 1 ∨ x.Kind = 2 ∨ x.Kind = 3 ∨ x.Kind = 5 ∨ x.Kind = 4) with k | k | k | k | k | k
  · rcases hK.1 k with e | e
    · refine ⟨nodes, unique, memo, 0, ⟨h, Pre.refl _, vd0, ?_, by omega⟩, fun Q hQ => condB (fun _ => by rw [e]; exact hQ) (fun hf => by simp [k] at hf)⟩
      rw [dn0]; funext σ; simp [nodeV, kindV, k, e]
    · refine ⟨nodes, unique, memo, 1, ⟨h, Pre.refl _, vd1, ?_, by omega⟩, fun Q hQ => condB (fun _ => by rw [e]; exact hQ) (fun hf => by simp [k] at hf)⟩
      rw [dn1]; funext σ; simp [nodeV, kindV, k, e]
  · have h1 : x.Args.length = 1 := by simpa [argsB, k] using ha
    obtain ⟨n1, u1, m1, r, a, w⟩ := Not_e h (by omega) (hr 0 (by omega)).1
    refine ⟨n1, u1, m1, r, ⟨a.ts, a.pre, a.vd, ?_, by have := a.le; omega⟩, fun Q hQ => condB (fun hf => by simp [k] at hf) (fun _ => condB (fun _ => ⟨by omega, w _ hQ⟩) (fun hf => by simp [k] at hf))⟩
    rw [a.dn]; funext σ
    have := hc σ
    rw [hl, h1] at this
    rw [nodeV, h1, ← this]
    simp only [kindV, k, cntB]
    show _ = ((((0 + if dn nodes (at' refs ((0 : Nat) : Int)) σ = true then 1 else 0) : Nat) : Int) == 0)
    cases dn nodes (at' refs ((0 : Nat) : Int)) σ <;> rfl
  · obtain ⟨n1, u1, m1, r, a, w⟩ := join_s op_and h hn (refs := refs) (first := 1) (c := true) (by omega) hb vd1 dn1 hr1
    refine ⟨n1, u1, m1, r, ⟨a.ts, a.pre, a.vd, ?_, a.le⟩, fun Q hQ => condB (fun hf => by simp [k] at hf) (fun _ => condB (fun hf => by simp [k] at hf) (fun _ => condB (fun _ => w Q hQ) (fun hf => by simp [k] at hf)))⟩
    rw [a.dn]; funext σ
    rw [fold_and, hc σ, nodeV, hl]
    simp only [kindV, k]
    rw [Bool.eq_iff_iff]; simp; omega
  · obtain ⟨n1, u1, m1, r, a, w⟩ := join_s op_or h hn (refs := refs) (first := 0) (c := false) (by omega) hb vd0 dn0 hr1
    refine ⟨n1, u1, m1, r, ⟨a.ts, a.pre, a.vd, ?_, a.le⟩, fun Q hQ => condB (fun hf => by simp [k] at hf) (fun _ => condB (fun hf => by simp [k] at hf) (fun _ => condB (fun hf => by simp [k] at hf) (fun _ => condB (fun _ => w Q hQ) (fun hf => by simp [k] at hf))))⟩
    rw [a.dn]; funext σ
    rw [fold_or, hc σ, nodeV]
    simp only [kindV, k]
    rw [Bool.eq_iff_iff]; simp
  · obtain ⟨n1, u1, m1, r, a, w⟩ := join_s op_xor h hn (refs := refs) (first := 0) (c := false) (by omega) hb vd0 dn0 hr1
    refine ⟨n1, u1, m1, r, ⟨a.ts, a.pre, a.vd, ?_, a.le⟩, fun Q hQ => condB (fun hf => by simp [k] at hf) (fun _ => condB (fun hf => by simp [k] at hf) (fun _ => condB (fun hf => by simp [k] at hf) (fun _ => condB (fun hf => by simp [k] at hf) (fun _ => condB (fun _ => w Q hQ) (fun hf => by simp [k] at hf)))))⟩
    rw [a.dn]; funext σ
    rw [fold_xor, hc σ, nodeV]
    simp only [kindV, k]
    rw [Bool.eq_iff_iff]
    have := Int.tmod_eq_emod_of_nonneg (a := ((cnt x (V σ) x.Args.length : Nat) : Int)) (b := 2) (by omega)
    simp [this]; omega
  · have k4 := hK.2 k
    obtain ⟨kk, hkk⟩ : ∃ kk : Nat, x.K = kk := ⟨x.K.toNat, by omega⟩
    obtain ⟨n1, u1, m1, r, a, w⟩ := vote_s h hn (refs := refs) (k := kk) (by omega) (by omega) hb hr1
    refine ⟨n1, u1, m1, r, ⟨a.ts, a.pre, a.vd, ?_, a.le⟩, fun Q hQ => condB (fun hf => by simp [k] at hf) (fun _ => condB (fun hf => by simp [k] at hf) (fun _ => condB (fun hf => by simp [k] at hf) (fun _ => condB (fun hf => by simp [k] at hf) (fun _ => condB (fun hf => by simp [k] at hf) (fun _ => by rw [hkk]; exact w Q hQ)))))⟩
    rw [a.dn]; funext σ
    rw [hc σ, nodeV]
    simp only [kindV, k, hkk]
    rw [Bool.eq_iff_iff]; simp
end
end Go.Gg
/- Build: the only diagram of a formula. Conditions: few events. -/
namespace Go.Gg
/-- The error of a formula and an order. -/
def buildE (f : GFormula) (o : List Int) : Int := if chkM f ≠ 0 then chkM f else ordE o f.Vars
/-- A formula's function. -/
def fF (f : GFormula) : Asg → Bool := fun σ => FV f (bset σ f.Vars.toNat)
theorem buildE_zero {f : GFormula} {o : List Int} : buildE f o = 0 ↔ FG f ∧ Or14 o ∧ (o.length : Int) = f.Vars := by
  unfold buildE
  constructor
  · intro h
    split at h
    · rename_i hc; exact absurd h hc
    · rename_i hc
      have hl : (o.length : Int) = f.Vars := by
        unfold ordE at h
        split at h
        · cases h
        split at h
        · cases h
        · rename_i hn; omega
      rw [← hl] at h
      exact ⟨chk_ok.1 (by omega), ordE_zero h, hl⟩
  · rintro ⟨g, h, hl⟩
    rw [if_neg (by rw [chk_ok.2 g]; simp), ← hl]
    exact ordE_of h
theorem fF_dep {f : GFormula} {o : List Int} (h : Or14 o) (hl : (o.length : Int) = f.Vars) : Dep (fF f) (natO o) := fun σ σ' hh => by
  unfold fF
  rw [bset_congr fun v hv => hh v (h.all (by omega))]
theorem fF_st {f : GFormula} {s : Nat} (hs : s < 2 ^ f.Vars.toNat) : fF f (stA s) = FV f s := by unfold fF; rw [bset_stA hs]
section
variable {f : GFormula} {o : List Int}
theorem Build_loops {x : GFormula} {place : List Int} {Q : GDiagram → Option Int → Prop} (g : FG x) (hl : (o.length : Int) = x.Vars) (h12 : x.Vars ≤ 12) (hT : TS o place [] mnew mnew) (hQ : Q (canD o (fF x)) none) :
    loopW (σ := Int × (List Int) × (GMap Int) × (List GDNode)) (0, (rep' (x.Vars + (x.Nodes.length : Int)) 0), mnew, []) fun ⟨x1, refs, x2, x3⟩ next1 =>
          condW (decide (x1 < x.Vars))
            (decision_Table__Event__e2_W x1 o place x3 x2 mnew fun u u1 r3 =>
            ((0 : Int) ≤ x1 ∧ x1 < (refs.length : Int)) ∧
            rng (x1 + 1) ∧
            next1 ((x1 + 1), (set' refs x1 r3), u1, u))
            (loopW (σ := Int × (List Int) × (GMap Int) × (GMap Int) × (List GDNode)) (0, refs, x2, mnew, x3) fun ⟨x4, refs1, x5, x6, x7⟩ next2 =>
              condW (decide (x4 < (x.Nodes.length : Int)))
                (((0 : Int) ≤ x4 ∧ x4 < (x.Nodes.length : Int)) ∧
                loopW (σ := Int × (List Int)) (0, []) fun ⟨x8, args⟩ next3 =>
                  condW (decide (x8 < (((at' x.Nodes x4).Args).length : Int)))
                    (((0 : Int) ≤ x8 ∧ x8 < (((at' x.Nodes x4).Args).length : Int)) ∧
                    ((0 : Int) ≤ (at' ((at' x.Nodes x4).Args) x8) ∧ (at' ((at' x.Nodes x4).Args) x8) < (refs1.length : Int)) ∧
                    ((args ++ [(at' refs1 (at' ((at' x.Nodes x4).Args) x8))]).length * 8 ≤ 140737488355328) ∧
                    rng (x8 + 1) ∧
                    next3 ((x8 + 1), (args ++ [(at' refs1 (at' ((at' x.Nodes x4).Args) x8))])))
                    (rng (x.Vars + x4) ∧
                    ∃ u2 u3 u4 r4, (diagram_node__e_W (at' x.Nodes x4) args o place x7 x5 x6 fun y1 y2 y3 y4 => y1 = u2 ∧ y2 = u3 ∧ y3 = u4 ∧ y4 = r4) ∧
                    ((0 : Int) ≤ (x.Vars + x4) ∧ (x.Vars + x4) < (refs1.length : Int)) ∧
                    rng (x.Vars + x4) ∧
                    ((0 : Int) ≤ (x.Vars + x4) ∧ (x.Vars + x4) < (refs1.length : Int)) ∧
                    decision_Table__Small__e_W (at' (set' refs1 (x.Vars + x4) r4) (x.Vars + x4)) 4096 o place u2 u3 u4 fun r5 =>
                    condW (!r5)
                      (Q (⟨[], [], 0⟩ : GDiagram) (some 4))
                      (rng (x4 + 1) ∧
                      next2 ((x4 + 1), (set' refs1 (x.Vars + x4) r4), u3, u4, u2))))
                (((0 : Int) ≤ x.Top ∧ x.Top < (refs1.length : Int)) ∧
                decision_Table__Export__e_W (at' refs1 x.Top) o place x7 x5 x6 fun r6 =>
                Q r6 none)) := by
  have v0 := g.v0; have v24 := g.v24; have n128 := g.n128
  have hn : o.length ≤ 12 := by omega
  obtain ⟨nv, hnv⟩ : ∃ nv : Nat, x.Vars = nv := ⟨x.Vars.toNat, by omega⟩
  have hrl : ((rep' (x.Vars + (x.Nodes.length : Int)) (0 : Int)).length : Int) = x.Vars + x.Nodes.length := rep_len (by omega)
  refine loopInv (n := nv) (fun i (y : Int × List Int × GMap Int × List GDNode) => (y.1 = (i : Int) ∧ (y.2.1.length : Int) = x.Vars + x.Nodes.length ∧ y.2.2.2.length ≤ i ∧ TS o place y.2.2.2 y.2.2.1 mnew) ∧ ∀ v : Nat, v < i → Vd y.2.2.2 (at' y.2.1 (v : Int)) ∧ dn y.2.2.2 (at' y.2.1 (v : Int)) = fun σ => σ v) (fun y => y.1) 0 (fun i y hy => by rw [hy.1.1]; omega) ⟨⟨rfl, hrl, Nat.zero_le _, hT⟩, fun v hv => absurd hv (by omega)⟩ ?_ ?_
  · rintro i ⟨x1, refs, u1, n1⟩ next hi ⟨⟨hx, hl1, hl2, hT1⟩, hI⟩ hn1
    dsimp only at hx hl1 hl2 hT1 hI
    subst hx
    obtain ⟨n2, u2, r2, a, w⟩ := Event_e hT1 (by omega) (v := (i : Int)) (by omega)
    have := a.le
    refine condT (fun _ => w _ ⟨by omega, by unfold rng; omega, hn1 _ ⟨⟨by dsimp only; omega, by dsimp only; rw [set_len]; exact hl1, by dsimp only; omega, a.ts⟩, fun v hv => ?_⟩⟩) (fun hc => absurd (show (i : Int) < x.Vars by omega) hc)
    dsimp only
    rw [at_set (by omega)]
    split
    · rename_i he; subst he
      exact ⟨a.vd, a.dn⟩
    · have h1 := hI v (by omega)
      exact ⟨h1.1.pre a.pre, by rw [dn_pre h1.1 a.pre, h1.2]⟩
  rintro ⟨x1, refs, u1, n1⟩ next ⟨⟨hx, hl1, hl2, hT1⟩, hI⟩
  dsimp only at hx hl1 hl2 hT1 hI
  subst hx
  refine condT (fun hc => absurd hc (by omega)) (fun _ => ?_)
  refine loopInv (n := x.Nodes.length) (fun i (y : Int × List Int × GMap Int × GMap Int × List GDNode) => (y.1 = (i : Int) ∧ (y.2.1.length : Int) = x.Vars + x.Nodes.length ∧ y.2.2.2.2.length ≤ 24 + 268435456 * i ∧ TS o place y.2.2.2.2 y.2.2.1 y.2.2.2.1) ∧ ∀ a : Nat, (a : Int) < x.Vars + i → Vd y.2.2.2.2 (at' y.2.1 (a : Int)) ∧ dn y.2.2.2.2 (at' y.2.1 (a : Int)) = fun σ => at' (vals x (bset σ nv) i) (a : Int)) (fun y => y.1) 0
    (fun i y hy => by rw [hy.1.1]; omega) ⟨⟨rfl, hl1, by dsimp only; omega, hT1⟩, fun a ha => ?_⟩ ?_ ?_
  · dsimp only
    have h1 := hI a (by omega)
    refine ⟨h1.1, ?_⟩
    rw [h1.2]
    funext σ
    rw [vals_bit (by omega) (by omega), Int.toNat_natCast, bset_in (by omega)]
  · rintro i ⟨x4, refs1, u5, m5, n5⟩ next2 hi ⟨⟨hx, hr1, hl5, hT5⟩, hA⟩ hn2
    dsimp only at hx hr1 hl5 hT5 hA
    subst hx
    have ng := nodeE_ok (g.node i hi)
    have hin := argsIn g hi
    have ll := ng.len
    have hi128 : i < 128 := by omega
    have hl6 : n5.length ≤ 549755813888 := Nat.le_trans hl5 (by omega)
    refine condT (fun _ => ⟨by omega, ?_⟩) (fun hc => absurd (show (i : Int) < _ by omega) hc)
    refine loopUp (n := (at' x.Nodes (i : Int)).Args.length) (fun j => ((j : Int), ((at' x.Nodes (i : Int)).Args.take j).map fun a => at' refs1 a)) (fun y => y.1) 0 (fun j => by dsimp only; omega) rfl (fun j next3 hj hn3 => ?_) (fun next3 => ?_)
    · have h3 := hin _ (at_in hj)
      dsimp only
      refine condT (fun _ => ⟨by omega, by omega, by rw [list_snoc, List.length_map, List.length_take]; omega, by unfold rng; omega, ?_⟩) (fun hc => absurd (show (j : Int) < _ by omega) hc)
      rw [take_snoc hj, List.map_append] at hn3
      exact hn3
    · refine condT (fun hc => absurd hc (by omega)) (fun _ => ?_)
      rw [List.take_length]
      obtain ⟨n6, u6, m6, r6, a, w⟩ := node_s hT5 hn (x := at' x.Nodes (i : Int)) (refs := (at' x.Nodes (i : Int)).Args.map fun a => at' refs1 a) (V := fun σ => vals x (bset σ nv) i) ⟨ng.k0, ng.k5⟩ (nodeE_K (g.node i hi)) ng.args (by rw [List.length_map]) ll hl6 (fun j hj => by
        rw [List.length_map] at hj
        have h3 := hin _ (at_in hj)
        rw [at_map hj]
        have := hA (at' (at' x.Nodes (i : Int)).Args (j : Int)).toNat (by omega)
        rw [show (((at' (at' x.Nodes (i : Int)).Args (j : Int)).toNat : Nat) : Int) = at' (at' x.Nodes (i : Int)).Args (j : Int) by omega] at this
        exact this)
      have l6 := a.le
      have hl7 : n6.length ≤ 24 + 268435456 * (i + 1) := Nat.le_trans l6 (by omega)
      have eset : at' (set' refs1 (x.Vars + i) r6) (x.Vars + i) = r6 := by rw [at_set' (by omega) (by omega), if_pos rfl]
      refine ⟨by unfold rng; omega, n6, u6, m6, r6, w _ ⟨rfl, rfl, rfl, rfl⟩, by omega, by unfold rng; omega, by omega, ?_⟩
      rw [eset]
      refine Small_e a.ts (Nat.le_trans hl7 (by omega)) hn a.vd (condB (fun hc => by cases hc) (fun _ => ⟨by unfold rng; omega, hn2 _ ⟨⟨by dsimp only; omega, by dsimp only; rw [set_len]; exact hr1, hl7, a.ts⟩, fun b hb => ?_⟩⟩))
      show Vd n6 (at' (set' refs1 (x.Vars + i) r6) (b : Int)) ∧ dn n6 (at' (set' refs1 (x.Vars + i) r6) (b : Int)) = _
      rw [at_set' (by omega) (by omega)]
      by_cases hbi : (b : Int) = x.Vars + i
      · rw [if_pos hbi, hbi]
        refine ⟨a.vd, ?_⟩
        rw [a.dn]
        funext σ
        have hvl : ((vals x (bset σ nv) i).length : Int) = x.Vars + i := by rw [vals_len]; omega
        rw [vals, ← hvl, at_app_mid]
      · rw [if_neg hbi]
        have h1 := hA b (by omega)
        refine ⟨h1.1.pre a.pre, ?_⟩
        rw [dn_pre h1.1 a.pre, h1.2]
        funext σ
        rw [vals_pre (m := i) (by omega) (by omega) (i + 1) (by omega)]
  · rintro ⟨x4, refs1, u5, m5, n5⟩ next2 ⟨⟨hx, hr1, hl5, hT5⟩, hA⟩
    dsimp only at hx hr1 hl5 hT5 hA
    subst hx
    have t0 := g.top0; have tt := g.top
    have ht := hA x.Top.toNat (by omega)
    rw [show ((x.Top.toNat : Nat) : Int) = x.Top by omega] at ht
    refine condT (fun hc => absurd hc (by omega)) (fun _ => ⟨by omega, Export_e hT5 (Nat.le_trans hl5 (by omega)) ht.1 ?_⟩)
    rw [ht.2]
    have : (fun σ => at' (vals x (bset σ nv) x.Nodes.length) x.Top) = fF x := by
      funext σ; unfold fF FV; rw [hnv]; rfl
    rw [this]
    exact hQ
theorem diagram_Build_s {Q : GDiagram → Option Int → Prop} (ht : rng f.Top) (h1 : buildE f o ≠ 0 → Q noD (some (buildE f o))) (hn : buildE f o = 0 → f.Vars ≤ 12) (h2 : buildE f o = 0 → Q (canD o (fF f)) none) : diagram_Build_W f o Q := by
  refine Size_s ht (fun hc => ?_) (fun g r a hr hr0 => ?_)
  · have e : buildE f o = chkM f := if_pos hc
    rw [e] at h1
    exact condB (fun _ => h1 hc) (fun hf => by cases hf)
  · refine condB (fun hf => by cases hf) (fun _ => ?_)
    have e : buildE f o = ordE o f.Vars := if_neg (by rw [chk_ok.2 g]; simp)
    refine order_Check_s ?_
    by_cases h0 : ordE o f.Vars = 0
    · rw [h0]
      have hz : buildE f o = 0 := by rw [e, h0]
      obtain ⟨_, hO, hl⟩ := buildE_zero.1 hz
      have h12 := hn hz
      have hQ := h2 hz
      have v0 := g.v0; have n128 := g.n128
      refine condB (fun hf => by cases hf) (fun _ => ⟨fun x => FG x ∧ x.Vars = f.Vars ∧ ∀ s, FV x s = FV f s, ?_, ?_⟩)
      · refine condT (fun _ => Trim_s g (fun x gx hv hf => condB (fun hc => by cases hc) (fun _ => ⟨gx, hv, hf⟩))) (fun hc => ?_)
        have htv := hr0 (by omega)
        refine ⟨⟨g.v0, g.v24, by simp, fun i hi => by simp at hi, g.top0, by simpa using htv⟩, rfl, fun s => ?_⟩
        show at' (vals ⟨f.Vars, [], f.Top⟩ s 0) f.Top = at' (vals f s f.Nodes.length) f.Top
        rw [vals_bit (f := ⟨f.Vars, [], f.Top⟩) g.top0 htv, vals_bit g.top0 htv]
      · rintro x ⟨gx, hv, hf⟩
        refine New_s hO (fun place hT => ⟨by unfold rng; have := gx.v24; have := gx.n128; have := gx.v0; omega, ⟨by have := gx.v24; have := gx.n128; have := gx.v0; omega, by have := gx.v24; have := gx.n128; have := gx.v0; omega, by have := gx.v24; have := gx.n128; have := gx.v0; omega, by have := gx.v24; have := gx.n128; have := gx.v0; omega⟩, Build_loops gx (by omega) (by omega) hT ?_⟩)
        have : fF x = fF f := by funext σ; unfold fF; rw [hv, hf]
        rw [this]
        exact hQ
    · have e2 : errO (ordE o f.Vars) = some (ordE o f.Vars) := errO_ne' h0
      rw [e2]
      rw [e] at h1
      exact condB (fun _ => h1 h0) (fun hf => by cases hf)
end
end Go.Gg
/- Chapter 15: values, support, levels; the example of the laws. Conditions: none. -/
namespace Go.Gg
section
variable {d : GDiagram}
theorem err_W {e : Int} {A B : Prop} (h0 : e ≠ 0 → A) (h1 : e = 0 → B) : condW (Option.isSome (errO e)) A B := by
  by_cases h : e = 0
  · rw [h]; exact condB (fun hc => by cases hc) (fun _ => h1 h)
  · exact condB (fun _ => h0 h) (fun hc => by rw [errO_some h] at hc; cases hc)
/-! ### Support, size, levels -/
theorem var_of (h : VD d) {i : Nat} (hi : i < d.Nodes.length) : ∃ v : Nat, (at' d.Nodes (i : Int)).Var = v ∧ v < d.Order.length := by
  have := (h.wt.nd _ _ (at_get hi)).var
  exact ⟨(at' d.Nodes (i : Int)).Var.toNat, by omega, by omega⟩
end
end Go.Gg
/- The insertion sort that a stable sort of few elements is. Conditions: none. -/
namespace Go.Gg
theorem at_el {α : Type} [Inhabited α] {l : List α} {i : Nat} (h : i < l.length) : at' l (i : Int) = l[i] := by
  unfold at'
  rw [List.getD_eq_getElem?_getD, Int.toNat_natCast, List.getElem?_eq_getElem h]
  rfl
/-- Into a list that stands from right to left: past all elements that come behind x. -/
def insV (lt : Int → Int → Bool) (x : Int) : List Int → List Int
  | [] => [x]
  | b :: l => if lt x b then b :: insV lt x l else x :: b :: l
def insR (lt : Int → Int → Bool) (A : List Int) (x : Int) : List Int := (insV lt x A.reverse).reverse
def isort (lt : Int → Int → Bool) (l : List Int) : List Int := l.foldl (insR lt) []
section
variable {lt : Int → Int → Bool}
theorem insV_at {x : Int} : ∀ (C B : List Int), (∀ c ∈ C, lt x c = true) → (∀ b B', B = b :: B' → lt x b = false) → insV lt x (C ++ B) = C ++ x :: B
  | [], [], _, _ => rfl
  | [], b :: B, _, h => by rw [List.nil_append, insV, if_neg (by rw [h b B rfl]; simp)]; rfl
  | c :: C, B, h, h' => by
    rw [List.cons_append, insV, if_pos (h c (by simp)), insV_at C B (fun a ha => h a (by simp [ha])) h']
    rfl
theorem insR_at {x : Int} {B C : List Int} (h : ∀ c ∈ C, lt x c = true) (h' : ∀ b B', B = B' ++ [b] → lt x b = false) : insR lt (B ++ C) x = B ++ x :: C := by
  unfold insR
  rw [List.reverse_append, insV_at C.reverse B.reverse (fun c hc => h c (by simpa using hc)) (fun b B' hb => h' b B'.reverse (by
    have := congrArg List.reverse hb
    simpa using this))]
  simp
theorem insV_perm {x : Int} : ∀ l : List Int, (insV lt x l).Perm (x :: l)
  | [] => List.Perm.refl _
  | b :: l => by
    rw [insV]
    split
    · exact ((insV_perm l).cons b).trans (List.Perm.swap x b l)
    · exact List.Perm.refl _
theorem insR_perm {x : Int} {A : List Int} : (insR lt A x).Perm (A ++ [x]) := by
  unfold insR
  refine (List.reverse_perm _).trans ((insV_perm _).trans ?_)
  refine ((List.reverse_perm A).cons x).trans ?_
  exact (List.perm_append_singleton x A).symm
theorem isort_snoc {l : List Int} {x : Int} : isort lt (l ++ [x]) = insR lt (isort lt l) x := by simp [isort]
theorem isort_perm : ∀ l : List Int, (isort lt l).Perm l := snocInd (List.Perm.refl _) fun l x ih => by
  rw [isort_snoc]
  exact insR_perm.trans (ih.append_right [x])
theorem isort_len {l : List Int} : (isort lt l).length = l.length := (isort_perm l).length_eq
end
/-- The program's insertion sort of a part, over the comparison's formula. -/
def isortG (C : Int → Int → (Int → Prop) → Prop) (a b : Int) (data : List Int) (Q : List Int → Prop) : Prop :=
  rng (a + 1) ∧
  loopW (σ := Int × (List Int)) ((a + 1), data) fun ⟨i, data1⟩ next1 =>
    condW (decide (i < b))
      (loopW (σ := Int × (List Int)) (i, data1) fun ⟨j, data2⟩ next2 =>
        condW (decide (a < j))
          (((0 : Int) ≤ j ∧ j < (data2.length : Int)) ∧
          rng (j - 1) ∧
          ((0 : Int) ≤ (j - 1) ∧ (j - 1) < (data2.length : Int)) ∧
          ∃ r, (C (at' data2 j) (at' data2 (j - 1)) fun y1 => y1 = r) ∧
          condW (decide (r < 0))
            (rng (j - 1) ∧
            rng (j - 1) ∧
            ((0 : Int) ≤ (j - 1) ∧ (j - 1) < (data2.length : Int)) ∧
            ((0 : Int) ≤ j ∧ j < (data2.length : Int)) ∧
            ((0 : Int) ≤ j ∧ j < (data2.length : Int)) ∧
            ((0 : Int) ≤ (j - 1) ∧ (j - 1) < (data2.length : Int)) ∧
            rng (j - 1) ∧
            next2 ((j - 1), (set' (set' data2 j (at' data2 (j - 1))) (j - 1) (at' data2 j))))
            (rng (i + 1) ∧
            next1 ((i + 1), data2)))
          (rng (i + 1) ∧
          next1 ((i + 1), data2)))
      (Q data1)
theorem at_mid {α : Type} [Inhabited α] {B T : List α} {x : α} : at' (B ++ x :: T) (B.length : Int) = x := by
  rw [at_el (by simp)]
  simp
theorem swap_mid {B T : List Int} {b x : Int} : set' (set' (B ++ b :: x :: T) ((B.length + 1 : Nat) : Int) b) (B.length : Int) x = B ++ x :: b :: T := by
  rw [set_nat, set_nat]
  rw [List.set_append_right _ _ (by omega), List.set_append_right _ _ (by omega)]
  simp
/-- The part from 'A' on of a list is sorted. -/
theorem isortG_at {C : Int → Int → (Int → Prop) → Prop} {c : Int → Int → Int} {A l D : List Int} {Q : List Int → Prop} (hC : ∀ x ∈ l, ∀ y ∈ l, ∀ K : Int → Prop, K (c x y) → C x y K) (hl : A.length + l.length + D.length ≤ 1099511627776)
    (hQ : Q (A ++ isort (fun x y => decide (c x y < 0)) l ++ D)) : isortG C (A.length : Int) ((A.length + l.length : Nat) : Int) (A ++ l ++ D) Q := by
  generalize hlt : (fun x y : Int => decide (c x y < 0)) = lt at hQ
  have hltd : ∀ x y, lt x y = decide (c x y < 0) := fun x y => by rw [← hlt]
  refine ⟨by unfold rng; omega, ?_⟩
  match l, hC, hl, hQ with
  | [], _, hl, hQ =>
    refine ⟨fun y => y.2 = A ++ [] ++ D ∧ y.1 = (A.length : Int) + 1, fun _ => 0, ⟨rfl, rfl⟩, ?_⟩
    rintro ⟨i, data⟩ ⟨h1, h2⟩
    dsimp only at h1 h2
    subst h1 h2
    refine condT (fun hc => ?_) (fun _ => hQ)
    simp only [List.length_nil, Nat.add_zero] at hc
    omega
  | z :: l', hC, hl, hQ =>
  generalize hL : z :: l' = l at hC hl hQ ⊢
  have hpos : 0 < l.length := by rw [← hL]; simp
  refine loopInv (n := l.length - 1) (fun k y => y.1 = (k : Int) + ((A.length : Int) + 1) ∧ y.2 = A ++ isort lt (l.take (k + 1)) ++ (l.drop (k + 1) ++ D)) (fun y => y.1) ((A.length : Int) + 1) (fun k y hy => hy.1) ⟨by dsimp only; omega, ?_⟩ ?_ ?_
  · dsimp only
    rw [← hL]
    simp [isort, insR, insV]
  · rintro k ⟨i, data⟩ next hk ⟨hi, hd⟩ hn
    dsimp only at hi hd
    subst hi hd
    have hk1 : k + 1 < l.length := by omega
    refine condT (fun _ => ?_) (fun hc => absurd (show (k : Int) + ((A.length : Int) + 1) < ((A.length + l.length : Nat) : Int) by omega) hc)
    obtain ⟨x, hx⟩ : ∃ x, l[k + 1] = x := ⟨_, rfl⟩
    have hxl : x ∈ l := hx ▸ List.getElem_mem hk1
    have hdrop : l.drop (k + 1) = x :: l.drop (k + 2) := by rw [List.drop_eq_getElem_cons hk1, hx]
    have htake : l.take (k + 2) = l.take (k + 1) ++ [x] := by rw [List.take_succ_eq_append_getElem hk1, hx]
    obtain ⟨S, hS⟩ : ∃ S, isort lt (l.take (k + 1)) = S := ⟨_, rfl⟩
    have hSl : S.length = k + 1 := by rw [← hS, isort_len, List.length_take]; omega
    have hSm : ∀ y ∈ S, y ∈ l := fun y hy => by
      rw [← hS] at hy
      exact List.mem_of_mem_take ((isort_perm _).mem_iff.1 hy)
    have hnext : isort lt (l.take (k + 1 + 1)) = insR lt S x := by rw [show k + 1 + 1 = k + 2 from rfl, htake, isort_snoc, hS]
    rw [hnext] at hn
    rw [hS, hdrop]
    have hfull : ∀ B E : List Int, B ++ E = S → A.length + (B.length + (E.length + 1)) + (l.drop (k + 2)).length = A.length + l.length := fun B E hBE => by
      have : B.length + E.length = k + 1 := by rw [← hSl, ← hBE, List.length_append]
      rw [List.length_drop]; omega
    refine ⟨fun y => ∃ B E, B ++ E = S ∧ (∀ e ∈ E, lt x e = true) ∧ y.1 = (A.length : Int) + (B.length : Int) ∧ y.2 = A ++ B ++ x :: (E ++ (l.drop (k + 2) ++ D)), fun y => y.1.toNat, ⟨S, [], by simp, fun e he => by simp at he, by dsimp only; rw [hSl]; omega, by simp⟩, ?_⟩
    rintro ⟨j, data⟩ ⟨B, E, hBE, hE, hj, hd⟩
    dsimp only at hj hd
    subst hj hd
    have hlen := hfull B E hBE
    have hdl : (A ++ B ++ x :: (E ++ (l.drop (k + 2) ++ D))).length = A.length + l.length + D.length := by
      simp only [List.length_append, List.length_cons] at hlen ⊢; omega
    have fin : (B = [] ∨ ∃ b B', B = B' ++ [b] ∧ lt x b = false) → rng ((k : Int) + ((A.length : Int) + 1) + 1) ∧ next ((k : Int) + ((A.length : Int) + 1) + 1, A ++ B ++ x :: (E ++ (l.drop (k + 2) ++ D))) := fun hB => by
      refine ⟨by unfold rng; omega, hn _ ⟨by dsimp only; omega, ?_⟩⟩
      dsimp only
      rw [← hBE, insR_at hE (fun b B' hb => by
        rcases hB with rfl | ⟨b2, B2, hb2, hlt2⟩
        · simp at hb
        · rw [hb2] at hb
          have := List.append_inj_right' hb rfl
          injection this with h1 _
          rw [← h1]; exact hlt2)]
      simp
    refine condT (fun hc => ?_) (fun hc => ?_)
    · obtain ⟨b, B', rfl⟩ : ∃ b B', B = B' ++ [b] := ⟨B.getLast (by rintro rfl; simp at hc), B.dropLast, (List.dropLast_concat_getLast _).symm⟩
      have hbl : b ∈ l := hSm b (by rw [← hBE]; simp)
      have hshape : A ++ (B' ++ [b]) ++ x :: (E ++ (l.drop (k + 2) ++ D)) = (A ++ B') ++ b :: x :: (E ++ (l.drop (k + 2) ++ D)) := by simp
      have hBl : (B' ++ [b]).length = B'.length + 1 := by simp
      have e1 : (A.length : Int) + ((B' ++ [b]).length : Int) = (((A ++ B').length + 1 : Nat) : Int) := by rw [hBl, List.length_append]; omega
      have e2 : (A.length : Int) + ((B' ++ [b]).length : Int) - 1 = (((A ++ B').length : Nat) : Int) := by rw [e1]; omega
      have a1 : at' (A ++ (B' ++ [b]) ++ x :: (E ++ (l.drop (k + 2) ++ D))) ((A.length : Int) + ((B' ++ [b]).length : Int)) = x := by
        have : A ++ (B' ++ [b]) ++ x :: (E ++ (l.drop (k + 2) ++ D)) = ((A ++ B') ++ [b]) ++ x :: (E ++ (l.drop (k + 2) ++ D)) := by simp
        rw [this, show (A.length : Int) + ((B' ++ [b]).length : Int) = (((A ++ B' ++ [b]).length : Nat) : Int) by rw [hBl]; simp only [List.length_append, List.length_singleton]; omega, at_mid]
      have a2 : at' (A ++ (B' ++ [b]) ++ x :: (E ++ (l.drop (k + 2) ++ D))) ((A.length : Int) + ((B' ++ [b]).length : Int) - 1) = b := by rw [hshape, e2, at_mid]
      have hAB : (A ++ B').length + 1 < A.length + l.length + D.length := by
        rw [hBl] at hlen
        rw [List.length_append]; omega
      refine ⟨by rw [hdl, e1]; omega, by rw [e2]; unfold rng; omega, by rw [hdl, e2]; omega, c x b, by rw [a1, a2]; exact hC x hxl b hbl _ rfl, condT (fun hr => ?_) (fun hr => ?_)⟩
      · rw [a1, a2]
        refine ⟨by rw [e2]; unfold rng; omega, by rw [e2]; unfold rng; omega, by rw [hdl, e2]; omega, by rw [hdl, e1]; omega, by rw [hdl, e1]; omega, by rw [hdl, e2]; omega, by rw [e2]; unfold rng; omega, ⟨B', b :: E, by rw [← hBE]; simp, fun e he => ?_, by dsimp only; rw [hBl]; omega, ?_⟩, ?_⟩
        · rcases List.mem_cons.1 he with rfl | he
          · rw [hltd]; exact decide_eq_true hr
          · exact hE e he
        · dsimp only
          rw [hshape, e1, show ((((A ++ B').length + 1 : Nat) : Int) - 1) = (((A ++ B').length : Nat) : Int) by omega, swap_mid]
          simp
        · dsimp only
          rw [hBl]; omega
      · exact fin (.inr ⟨b, B', rfl, by rw [hltd]; exact decide_eq_false hr⟩)
    · exact fin (.inl (by
        have : B.length = 0 := by omega
        exact List.eq_nil_of_length_eq_zero this))
  · rintro ⟨i, data⟩ next ⟨hi, hd⟩
    dsimp only at hi hd
    subst hi hd
    refine condT (fun hc => absurd hc (by omega)) (fun _ => ?_)
    rw [show l.length - 1 + 1 = l.length by omega, List.take_length, List.drop_length, List.nil_append]
    exact hQ
/-- The program's stable sort, where one block is enough. -/
def stabG (C : Int → Int → (Int → Prop) → Prop) (n : Int) (data : List Int) (Q : List Int → Prop) : Prop :=
  loopW (σ := Int × Int × (List Int)) (0, 20, data) fun ⟨a, b, data1⟩ next1 =>
    condW (decide (b ≤ n))
      (isortG C a b data1 fun data2 =>
      data2.length = data1.length ∧
      rng (b + 20) ∧
      next1 (b, (b + 20), data2))
      (isortG C a n data1 fun data3 =>
      data3.length = data1.length ∧
      loopW (σ := Int) 20 fun blockSize next2 =>
        condW (decide (blockSize < n))
          (rng (2 * blockSize) ∧
          loopW (σ := Unit) () fun _ _ =>
            condW (decide ((2 * blockSize) ≤ n))
              (rng (0 + blockSize) ∧
              False)
              (rng (0 + blockSize) ∧
              condW (decide ((0 + blockSize) < n))
                (False)
                (rng (blockSize * 2) ∧
                next2 (blockSize * 2))))
          (Q data3))
theorem stabG_few {C : Int → Int → (Int → Prop) → Prop} {c : Int → Int → Int} {l : List Int} {Q : List Int → Prop} (hC : ∀ x ∈ l, ∀ y ∈ l, ∀ K : Int → Prop, K (c x y) → C x y K) (hl : l.length < 20) (hQ : Q (isort (fun x y => decide (c x y < 0)) l)) : stabG C (l.length : Int) l Q := by
  refine ⟨fun y => y = (0, 20, l), fun _ => 0, rfl, ?_⟩
  rintro _ rfl
  refine condT (fun hc => by omega) (fun _ => ?_)
  have := isortG_at (C := C) (c := c) (A := []) (D := []) (l := l) (Q := fun data3 => data3.length = l.length ∧ loopW (σ := Int) 20 fun blockSize next2 =>
        condW (decide (blockSize < (l.length : Int)))
          (rng (2 * blockSize) ∧
          loopW (σ := Unit) () fun _ _ =>
            condW (decide ((2 * blockSize) ≤ (l.length : Int)))
              (rng (0 + blockSize) ∧
              False)
              (rng (0 + blockSize) ∧
              condW (decide ((0 + blockSize) < (l.length : Int)))
                (False)
                (rng (blockSize * 2) ∧
                next2 (blockSize * 2))))
          (Q data3)) hC (by simp; omega) (by
    rw [List.nil_append, List.append_nil]
    refine ⟨isort_len, fun y => y = 20, fun _ => 0, rfl, ?_⟩
    rintro _ rfl
    exact condT (fun hc => by omega) (fun _ => hQ))
  simpa using this
end Go.Gg
/- Chapter 14: the natural order, neighbours exchanged, the distance. Conditions: none. -/
namespace Go.Gg
/-! ### Orders as lists without repetition -/
theorem Or14.nd {o : List Int} (h : Or14 o) : o.Nodup := by
  rw [List.Nodup, List.pairwise_iff_getElem]
  intro i j hi hj hij he
  have := h.inj i j hi hj (by unfold at'; rw [List.getD_eq_getElem?_getD, List.getD_eq_getElem?_getD, Int.toNat_natCast, Int.toNat_natCast, List.getElem?_eq_getElem hi, List.getElem?_eq_getElem hj]; exact he)
  omega
theorem Or14.mem {o : List Int} (h : Or14 o) : ∀ x ∈ o, 0 ≤ x ∧ x < o.length := fun x hx => by
  obtain ⟨i, hi, rfl⟩ := List.mem_iff_getElem.1 hx
  rw [← at_el hi]
  exact h.rg i hi
theorem or14_of {o : List Int} (hl : o.length ≤ 24) (nd : o.Nodup) (hm : ∀ x ∈ o, 0 ≤ x ∧ x < o.length) : Or14 o := by
  refine ⟨hl, fun i hi => by rw [at_el hi]; exact hm _ (List.getElem_mem hi), fun i j hi hj he => ?_⟩
  rw [at_el hi, at_el hj] at he
  exact (List.getElem_inj nd).1 he
theorem Or14.perm {o o' : List Int} (h : Or14 o) (hp : o'.Perm o) : Or14 o' :=
  or14_of (by rw [hp.length_eq]; exact h.le) (hp.nodup_iff.2 h.nd) (fun x hx => by rw [hp.length_eq]; exact h.mem x (hp.mem_iff.1 hx))
theorem Or14.has {o : List Int} (h : Or14 o) {v : Nat} (hv : v < o.length) : (v : Int) ∈ o := by
  have := h.at_lev hv
  rw [← this.2, at_el this.1]
  exact List.getElem_mem _
/-! ### The natural order -/
def nats (n : Nat) : List Int := (List.range n).map fun i : Nat => (i : Int)
theorem nats_len {n : Nat} : (nats n).length = n := by simp [nats]
theorem mem_nats {n : Nat} {x : Int} : x ∈ nats n ↔ 0 ≤ x ∧ x < n := by
  simp only [nats, List.mem_map, List.mem_range]
  constructor
  · rintro ⟨i, h, rfl⟩; omega
  · intro h; exact ⟨x.toNat, by omega, by omega⟩
theorem nats_at {n i : Nat} (h : i < n) : at' (nats n) (i : Int) = (i : Int) := by rw [at_el (by rw [nats_len]; exact h)]; simp [nats]
theorem natural_s {n : Nat} {Q : List Int → Prop} (hn : n ≤ 1048576) (hQ : Q (nats n)) : order_natural_W n Q := by
  refine ⟨⟨by omega, by omega, by omega, by omega⟩, ?_⟩
  refine loopInv (n := n) (fun k y => y.1 = (k : Int) ∧ y.2.length = n ∧ ∀ i : Nat, i < k → at' y.2 (i : Int) = (i : Int)) (fun y => y.1) 0 (fun k y hy => by rw [hy.1]; omega) ⟨rfl, by simp [rep'], fun i hi => by omega⟩ ?_ ?_
  · rintro k ⟨x, out⟩ next hk ⟨hx, hl, hI⟩ hn1
    dsimp only at hx hl hI
    subst hx
    rw [Int.toNat_natCast]
    refine condT (fun _ => ⟨by omega, by unfold rng; omega, hn1 _ ⟨by dsimp only; omega, by dsimp only; rw [set_len]; exact hl, fun i hi => ?_⟩⟩) (fun hc => absurd (show (k : Int) < n by omega) hc)
    dsimp only
    rw [at_set (by omega)]
    split
    · rename_i he; rw [he]
    · exact hI i (by omega)
  · rintro ⟨x, out⟩ next ⟨hx, hl, hI⟩
    dsimp only at hx hl hI
    subst hx
    rw [Int.toNat_natCast]
    refine condT (fun hc => absurd hc (by omega)) (fun _ => ?_)
    rw [show out = nats n from eq_by (by rw [hl, nats_len]) (fun i hi => by rw [hI i (by omega), nats_at (by omega)])]
    exact hQ
theorem Natural_s {n : Nat} {Q : List Int → Option Int → Prop} (hn : n ≤ 24) (hQ : Q (nats n) none) : order_Natural_W n Q := by
  refine ⟨fun b => b = false, condT (fun hc => by omega) (fun _ => decide_eq_false (by omega)), fun b hb => ?_⟩
  subst hb
  exact condB (fun hc => by cases hc) (fun _ => natural_s (by omega) hQ)
section
variable {o : List Int}
end
end Go.Gg
/- Orders as permutations; a diagram is brought to another order; an event is moved. Conditions: few events. -/
namespace Go.Gg
theorem or14_part {n : Nat} {o : List Int} (h24 : n ≤ 24) : PartO n n o ↔ Or14 o ∧ o.length = n := by
  constructor
  · intro h
    exact ⟨or14_of (by rw [h.len]; exact h24) h.nd (fun x hx => by rw [h.len]; exact h.rg x hx), h.len⟩
  · rintro ⟨h, rfl⟩
    exact ⟨rfl, h.nd, h.mem⟩
theorem dep_to {o o' : List Int} {f : Asg → Bool} (h : Or14 o) (h' : Or14 o') (hl : o'.length = o.length) (hd : Dep f (natO o)) : Dep f (natO o') :=
  hd.sub fun v hv => h'.all (by rw [hl]; exact natO_lt h v hv)
/-! ### A diagram is brought to another order -/
/-- The diagram of the same function for another order. -/
def reoD (d : GDiagram) (o : List Int) : GDiagram := canD o (dF d)
section
variable {d : GDiagram} {o : List Int}
theorem reo_dep (hd : VD d) (ho : Or14 o) (hl : o.length = d.Order.length) : Dep (dF d) (natO o) := dep_to hd.ord ho hl hd.dep
theorem reo_VD (hd : VD d) (ho : Or14 o) (hl : o.length = d.Order.length) (h12 : o.length ≤ 12) : VD (reoD d o) := VD_can ho h12 (reo_dep hd ho hl)
theorem reo_dF (hd : VD d) (ho : Or14 o) (hl : o.length = d.Order.length) : dF (reoD d o) = dF d := dF_can ho (reo_dep hd ho hl)
theorem reo_self (hd : VD d) : reoD d d.Order = d := hd.can.symm
theorem Translate_e {place : List Int} {nodes : List GDNode} {unique memo : GMap Int} {Q : List GDNode → GMap Int → GMap Int → Int → Prop} (hd : VD d) (h : TS o place nodes unique memo) (hlo : o.length = d.Order.length) (hb : nodes.length + d.Nodes.length * (2 ^ o.length + 1) ≤ 1099511627776)
    (hQ : ∀ nodes' unique' memo' r, After o place nodes nodes' unique' memo' r (dF d) (d.Nodes.length * (2 ^ o.length + 1)) → Q nodes' unique' memo' r) : decision_Table__Translate__e2_W d o place nodes unique memo Q := by
  have hl := hd.le
  have hle := hd.ord.le
  refine ⟨by unfold rng; omega, ⟨by omega, by omega, by omega, by omega⟩, by omega, ?_⟩
  have hlen : ((rep' (2 + (d.Nodes.length : Int)) (0 : Int)).length : Int) = 2 + d.Nodes.length := rep_len (by omega)
  obtain ⟨P, hPw⟩ : ∃ P, P = 2 ^ o.length := ⟨_, rfl⟩
  obtain ⟨C, hC⟩ : ∃ C, C = P + 1 := ⟨_, rfl⟩
  rw [← hPw, ← hC] at hb hQ
  refine loopInv (n := d.Nodes.length) (fun i y => (y.1 = (i : Int) ∧ (y.2.1.length : Int) = 2 + d.Nodes.length) ∧ TS o place y.2.2.1 y.2.2.2.1 y.2.2.2.2 ∧ Pre nodes y.2.2.1 ∧ y.2.2.1.length ≤ nodes.length + i * C ∧ ∀ k : Nat, k < 2 + i → Vd y.2.2.1 (at' y.2.1 (k : Int)) ∧ dn y.2.2.1 (at' y.2.1 (k : Int)) = fun σ => den d.Nodes σ k) (fun y => y.1) 0
    (fun i y hy => by rw [hy.1.1]; omega) ⟨⟨rfl, by dsimp only; rw [set_len]; exact hlen⟩, h, Pre.refl _, by simp, fun k hk => ?_⟩ ?_ ?_
  · dsimp only
    rw [show (1 : Int) = ((1 : Nat) : Int) from rfl, at_set (by omega)]
    split
    · rename_i he
      subst he
      exact ⟨vd1, by rw [show (((1 : Nat) : Int)) = 1 from rfl, dn1]; funext σ; rw [den_one]⟩
    · rw [rep_at (by omega)]
      obtain rfl : k = 0 := by omega
      exact ⟨vd0, by rw [dn0]; funext σ; rw [den_zero]⟩
  · rintro i ⟨x, refs, n1, u1, m1⟩ next hi ⟨⟨hx, hrl⟩, hT, hP, hn1, hI⟩ hn
    dsimp only at hx hrl hT hP hn1 hI
    subst hx
    have hg := at_get hi
    obtain ⟨a, b, c, e, f, g⟩ := hd.wt.nd i _ hg
    obtain ⟨l0, hlo'⟩ : ∃ k : Nat, (at' d.Nodes (i : Int)).Lo = k := ⟨(at' d.Nodes (i : Int)).Lo.toNat, by omega⟩
    obtain ⟨h0, hhi⟩ : ∃ k : Nat, (at' d.Nodes (i : Int)).Hi = k := ⟨(at' d.Nodes (i : Int)).Hi.toNat, by omega⟩
    have q1 := hI l0 (by omega)
    have q2 := hI h0 (by omega)
    have hmul : (i + 1) * C ≤ d.Nodes.length * C := Nat.mul_le_mul_right _ hi
    rw [Nat.succ_mul] at hmul
    obtain ⟨n2, u2, r, hA, w2⟩ := Event_e hT (by omega) (v := (at' d.Nodes (i : Int)).Var) (by rw [hlo]; exact a)
    have hA' := hA.le
    obtain ⟨n3, u3, m3, r3, hB, w3⟩ := Choose_e hA.ts (by rw [← hPw]; omega) (c := r) (a := at' refs (h0 : Int)) (b := at' refs (l0 : Int)) hA.vd (q2.1.pre hA.pre) (q1.1.pre hA.pre)
    have hB' := hB.le
    rw [← hPw] at hB'
    refine condT (fun _ => ⟨⟨by omega, by omega⟩, by unfold rng; omega, n2, u2, r, w2 _ ⟨rfl, rfl, rfl⟩, ⟨by omega, by omega⟩, ⟨by omega, by omega⟩, ?_⟩) (fun hc => absurd (show (i : Int) < d.Nodes.length by omega) hc)
    rw [hlo', hhi]
    refine ⟨n3, u3, m3, r3, w3 _ ⟨rfl, rfl, rfl, rfl⟩, ⟨by omega, by omega⟩, by unfold rng; omega, hn _ ⟨⟨by dsimp only; omega, by dsimp only; rw [set_len]; exact hrl⟩, hB.ts, (hP.trans hA.pre).trans hB.pre, by dsimp only; rw [Nat.succ_mul]; omega, fun k hk => ?_⟩⟩
    dsimp only
    rw [show (2 + (i : Int)) = ((2 + i : Nat) : Int) by omega, at_set (by omega)]
    split
    · rename_i he
      subst he
      refine ⟨hB.vd, ?_⟩
      funext σ
      rw [hB.dn, hA.dn, dn_pre q2.1 hA.pre, dn_pre q1.1 hA.pre, q1.2, q2.2, hd.wt.den_at hg]
      simp only
      rw [hlo', hhi, Int.toNat_natCast, Int.toNat_natCast]
    · have q := hI k (by omega)
      have hp := hA.pre.trans hB.pre
      exact ⟨q.1.pre hp, by rw [dn_pre q.1 hp]; exact q.2⟩
  · rintro ⟨x, refs, n1, u1, m1⟩ next ⟨⟨hx, hrl⟩, hT, hP, hn1, hI⟩
    dsimp only at hx hrl hT hP hn1 hI
    subst hx
    have r0 := hd.root.1
    have r1 := hd.root.2
    obtain ⟨k, hk⟩ : ∃ k : Nat, d.Root = k := ⟨d.Root.toNat, by omega⟩
    refine condT (fun hc => absurd hc (by omega)) (fun _ => ⟨⟨by omega, by omega⟩, ?_⟩)
    have q := hI k (by omega)
    refine hQ _ _ _ _ ⟨hT, hP, by rw [hk]; exact q.1, ?_, hn1⟩
    rw [hk, q.2]
    funext σ
    unfold dF dn
    rw [hk, Int.toNat_natCast]
theorem reorder_s {Q : GDiagram → Option Int → Prop} (hd : VD d) (ho : Or14 o) (hl : o.length = d.Order.length) (h12 : o.length ≤ 12) (hQ : Q (reoD d o) none) : sifting_reorder_W d o Q := by
  have hle := hd.le
  have hw := wc12 h12
  have hm : d.Nodes.length * (2 ^ o.length + 1) ≤ 4096 * 4097 := Nat.mul_le_mul hle (by omega)
  refine New_s ho fun place hT => Translate_e hd hT hl (by simp only [List.length_nil]; omega) fun n' u' m' r hA => ?_
  have hle' := hA.le
  simp only [List.length_nil] at hle'
  refine Small_e hA.ts (by omega) h12 hA.vd (condB (fun hc => by cases hc) (fun _ => Export_e hA.ts (by omega) hA.vd ?_))
  rw [hA.dn]
  exact hQ
/-- The error of another order. -/
def reoE (d : GDiagram) (o : List Int) : Int := if dgE d ≠ 0 then dgE d else if ordE o o.length ≠ 0 then ordE o o.length else if o.length ≠ d.Order.length then 11 else 0
theorem reoE_zero : reoE d o = 0 ↔ VD d ∧ Or14 o ∧ o.length = d.Order.length := by
  unfold reoE
  constructor
  · intro h
    split at h
    · rename_i h1; exact absurd h h1
    · rename_i h1
      split at h
      · rename_i h2; exact absurd h h2
      · rename_i h2
        split at h
        · cases h
        · rename_i h3; exact ⟨dgE_zero.1 (Classical.not_not.1 h1), ordE_zero (Classical.not_not.1 h2), by omega⟩
  · rintro ⟨h1, h2, h3⟩
    rw [if_neg (fun hc => hc (dgE_zero.2 h1)), if_neg (fun hc => hc (ordE_of h2)), if_neg (fun hc => hc h3)]
theorem sReorder_s {Q : GDiagram → Option Int → Prop} (h0 : reoE d o ≠ 0 → Q noD (some (reoE d o))) (h12 : reoE d o = 0 → o.length ≤ 12) (h1 : reoE d o = 0 → Q (reoD d o) none) : sifting_Reorder_W d o Q := by
  refine diagram_Check_s (err_W (fun hc => ?_) (fun hz => order_Check_s (err_W (fun hc => ?_) (fun hz2 => condN (fun hc => ?_) (fun hl => ?_)))))
  · have e : reoE d o = dgE d := by unfold reoE; rw [if_pos hc]
    rw [errO_ne' hc, ← e]
    exact h0 (by rw [e]; exact hc)
  · have e : reoE d o = ordE o o.length := by unfold reoE; rw [if_neg (by simp [hz]), if_pos hc]
    rw [errO_ne' hc, ← e]
    exact h0 (by rw [e]; exact hc)
  · have e : reoE d o = 11 := by unfold reoE; rw [if_neg (by simp [hz]), if_neg (by simp [hz2]), if_pos (by omega)]
    have := h0 (by rw [e]; decide)
    rw [e] at this
    exact this
  · have hr : reoE d o = 0 := reoE_zero.2 ⟨dgE_zero.1 hz, ordE_zero hz2, by omega⟩
    have := reoE_zero.1 hr
    exact reorder_s this.1 this.2.1 this.2.2 (h12 hr) (h1 hr)
end
/-! ### An event at another place -/
theorem clone_s {s : List Int} {Q : List Int → Prop} (hl : s.length ≤ 1099511627776) (h : Q s) : slices_Clone___int_int_W s Q := fun b hb => condB (fun hc => by rw [hb hc] at h; exact h) (fun _ => ⟨by rw [List.nil_append]; omega, h⟩)
def delL (s : List Int) (u : Int) : List Int := s.filter fun x => !(x == u)
theorem delL_snoc {s : List Int} {x u : Int} : delL (s ++ [x]) u = delL s u ++ (if x = u then [] else [x]) := by
  unfold delL
  rw [List.filter_append]
  congr 1
  by_cases h : x = u <;> simp [h]
theorem delL_none {s : List Int} {u : Int} (h : u ∉ s) : delL s u = s := List.filter_eq_self.2 fun x hx => by simp; rintro rfl; exact h hx
theorem delete_s {u : Int} {s : List Int} {Q : List Int → Prop} (hl : s.length ≤ 1099511627776) (h : Q (delL s u)) : slices_DeleteFunc___int_int__e_W u s Q := by
  unfold slices_DeleteFunc___int_int__e_W slices_IndexFunc___int_int__e_W sifting_moved_1__e_W
  refine scanW (n := s.length) (fun i => at' s (i : Int) = u) (by omega) (fun i next hi hI hn => ⟨⟨by omega, by omega⟩, condE (fun he => ?_) (fun he => hn he)⟩) (fun hI => ?_)
  · refine condE (fun hc => by omega) (fun _ => ⟨by unfold rng; omega, ?_⟩)
    have hnone : delL (s.take i) u = s.take i := delL_none fun hm => by
      obtain ⟨j, hj, hju⟩ := List.mem_iff_getElem.1 hm
      rw [List.length_take] at hj
      refine hI j (by omega) ?_
      rw [at_el (by omega), ← hju, List.getElem_take]
    refine loopInv (n := s.length - (i + 1)) (fun k y => (y.2.1 = (k : Int) + ((i : Int) + 1) ∧ y.1 = (((delL (s.take (k + (i + 1))) u).length : Nat) : Int)) ∧ y.2.2.length = s.length ∧ (delL (s.take (k + (i + 1))) u).length < k + (i + 1) ∧ y.2.2.take (delL (s.take (k + (i + 1))) u).length = delL (s.take (k + (i + 1))) u ∧ ∀ j : Nat, k + (i + 1) ≤ j → j < s.length → at' y.2.2 (j : Int) = at' s (j : Int))
      (fun y => y.2.1) ((i : Int) + 1) (fun k y hy => hy.1.1) ?_ ?_ ?_
    · have e : delL (s.take (0 + (i + 1))) u = s.take i := by rw [Nat.zero_add, take_snoc hi, delL_snoc, hnone, if_pos he, List.append_nil]
      rw [e]
      refine ⟨⟨by dsimp only; omega, by dsimp only; rw [List.length_take]; omega⟩, rfl, by rw [List.length_take]; omega, ?_, fun j _ _ => rfl⟩
      dsimp only
      rw [List.length_take, Nat.min_eq_left (by omega)]
    · rintro k ⟨i1, j, s1⟩ next hk ⟨⟨hj, hi1⟩, hs1, hlt, htk, hrest⟩ hn
      dsimp only at hj hi1 hs1 hlt htk hrest
      have hkn : k + (i + 1) < s.length := by omega
      obtain rfl : j = ((k + (i + 1) : Nat) : Int) := by omega
      have hat := hrest _ (Nat.le_refl _) hkn
      subst hi1
      have hsn : delL (s.take (k + 1 + (i + 1))) u = delL (s.take (k + (i + 1))) u ++ (if at' s ((k + (i + 1) : Nat) : Int) = u then [] else [at' s ((k + (i + 1) : Nat) : Int)]) := by
        rw [show k + 1 + (i + 1) = (k + (i + 1)) + 1 by omega, take_snoc hkn, delL_snoc]
      refine condT (fun _ => ⟨⟨by omega, by omega⟩, condB (fun hb => ?_) (fun hb => ?_)⟩) (fun hc => absurd (show ((k + (i + 1) : Nat) : Int) < (s1.length : Int) by omega) hc)
      · have hne : at' s ((k + (i + 1) : Nat) : Int) ≠ u := by rw [hat] at hb; simpa using hb
        rw [if_neg hne] at hsn
        refine ⟨by omega, by unfold rng; omega, by unfold rng; omega, hn _ ?_⟩
        rw [hsn]
        refine ⟨⟨by dsimp only; omega, by dsimp only; rw [List.length_append]; simp⟩, by dsimp only; rw [set_len]; exact hs1, by rw [List.length_append]; simp only [List.length_singleton]; omega, ?_, fun j hj hjs => ?_⟩
        · dsimp only
          have hl1 : (delL (s.take (k + (i + 1))) u).length < (set' s1 ((delL (s.take (k + (i + 1))) u).length : Nat) (at' s1 ((k + (i + 1) : Nat) : Int))).length := by rw [set_len]; omega
          rw [List.length_append, List.length_singleton, take_snoc hl1, at_set (by omega), if_pos rfl, hat]
          congr 1
          rw [set_nat, List.take_set_of_le (Nat.le_refl _)]
          exact htk
        · dsimp only
          rw [at_set (by omega), if_neg (by omega)]
          exact hrest j (by omega) hjs
      · have heq : at' s ((k + (i + 1) : Nat) : Int) = u := by rw [hat] at hb; simpa using hb
        rw [if_pos heq, List.append_nil] at hsn
        refine ⟨by unfold rng; omega, hn _ ?_⟩
        rw [hsn]
        exact ⟨⟨by dsimp only; omega, rfl⟩, hs1, by omega, htk, fun j hj hjs => hrest j (by omega) hjs⟩
    · rintro ⟨i1, j, s1⟩ next ⟨⟨hj, hi1⟩, hs1, hlt, htk, hrest⟩
      dsimp only at hj hi1 hs1 hlt htk hrest
      have hfull : s.length - (i + 1) + (i + 1) = s.length := by omega
      rw [hfull, List.take_length] at hi1 hlt htk
      subst hi1
      refine condT (fun hc => absurd hc (by omega)) (fun _ => ⟨by omega, by omega, ?_⟩)
      rw [Int.toNat_natCast, Nat.zero_add, List.take_take, Nat.min_self, htk]
      exact h
  · refine condE (fun _ => ?_) (fun hc => absurd rfl hc)
    have : delL s u = s := delL_none fun hm => by
      obtain ⟨j, hj, hju⟩ := List.mem_iff_getElem.1 hm
      exact hI j hj (by rw [at_el hj]; exact hju)
    rw [this] at h
    exact h
/-- An order with an event at another place. -/
def movO (o : List Int) (v : Int) (p : Int) : List Int := ins' (delL o v) p [v]
section
variable {o : List Int}
theorem delL_len (h : Or14 o) {v : Nat} (hv : v < o.length) : (delL o v).length + 1 = o.length := by
  have e : delL o v = o.erase (v : Int) := by
    rw [h.nd.erase_eq_filter]
    exact List.filter_congr fun x _ => rfl
  rw [e]
  have := List.length_erase_of_mem (h.has hv)
  omega
theorem movO_perm (h : Or14 o) {v p : Nat} (hv : v < o.length) : (movO o v p).Perm o := by
  have e : delL o v = o.erase (v : Int) := by
    rw [h.nd.erase_eq_filter]
    exact List.filter_congr fun x _ => rfl
  unfold movO ins'
  rw [e, Int.toNat_natCast, List.append_assoc]
  refine (List.perm_middle (l₁ := (o.erase (v : Int)).take p) (a := (v : Int)) (l₂ := (o.erase (v : Int)).drop p)).trans ?_
  rw [List.take_append_drop]
  exact (List.perm_cons_erase (h.has hv)).symm
theorem movO_ord (h : Or14 o) {v p : Nat} (hv : v < o.length) : Or14 (movO o v p) := h.perm (movO_perm h hv)
theorem movO_len (h : Or14 o) {v p : Nat} (hv : v < o.length) : (movO o v p).length = o.length := (movO_perm h hv).length_eq
theorem moved_s {v p : Nat} {Q : List Int → Prop} (h : Or14 o) (hv : v < o.length) (hp : p < o.length) (hQ : Q (movO o v p)) : sifting_moved_W o v p Q := by
  have hle := h.le
  have hd := delL_len h hv
  exact clone_s (by omega) (delete_s (by omega) ⟨⟨by omega, by omega⟩, by simp, by simp only [List.length_singleton]; omega, hQ⟩)
/-- The event stays where it is. -/
theorem movO_same (h : Or14 o) {v : Nat} (hv : v < o.length) : movO o v (levO o v : Nat) = o := by
  have hl := h.at_lev hv
  obtain ⟨hl1, hl2⟩ := hl
  have hnd := h.nd
  rw [at_el hl1] at hl2
  have hsplit : o = o.take (levO o v) ++ (v : Int) :: o.drop (levO o v + 1) := by
    rw [← hl2]
    rw [← List.drop_eq_getElem_cons hl1, List.take_append_drop]
  have hnd2 := hnd
  rw [hsplit] at hnd2
  have h1 : (v : Int) ∉ o.take (levO o v) ∧ (v : Int) ∉ o.drop (levO o v + 1) := by
    rw [List.nodup_append] at hnd2
    exact ⟨fun hm => hnd2.2.2 _ hm _ (List.mem_cons_self ..) rfl, (List.nodup_cons.1 hnd2.2.1).1⟩
  have hdel : delL o v = o.take (levO o v) ++ o.drop (levO o v + 1) := by
    conv => lhs; rw [hsplit]
    unfold delL
    rw [List.filter_append, List.filter_cons_of_neg (by simp)]
    exact congr (congrArg _ (delL_none h1.1)) (delL_none h1.2)
  have htl : (o.take (levO o v)).length = levO o v := by rw [List.length_take]; omega
  unfold movO ins'
  rw [hdel, Int.toNat_natCast, List.take_append_of_le_length (by omega), List.drop_append_of_le_length (by omega), List.take_of_length_le (by omega), List.drop_of_length_le (by omega : (o.take (levO o v)).length ≤ levO o v), List.nil_append, List.append_assoc]
  exact hsplit.symm
end
end Go.Gg
/- Sifting: the sequence of the events, Sift, all orders, Best; the program and the reference. Conditions: few events. -/
namespace Go.Gg
/-! ### The sequence of the events -/
/-- How many of the first nodes bear each event. -/
def mnyL (n : Nat) (N : List GDNode) : List Int := (List.range n).map fun v : Nat => ((N.countP (fun x => decide (x.Var = (v : Int))) : Nat) : Int)
theorem mnyL_len {n : Nat} {N : List GDNode} : (mnyL n N).length = n := by simp [mnyL]
theorem mnyL_at {n : Nat} {N : List GDNode} {v : Nat} (h : v < n) : at' (mnyL n N) (v : Int) = ((N.countP (fun x => decide (x.Var = (v : Int))) : Nat) : Int) := by rw [at_el (by rw [mnyL_len]; exact h)]; simp [mnyL]
theorem mnyL_nil {n : Nat} : rep' (n : Int) (0 : Int) = mnyL n [] := by
  refine eq_by (by simp [rep', mnyL]) (fun i hi => ?_)
  have hi' : i < n := by simpa [rep'] using hi
  rw [rep_at (by omega), mnyL_at hi']
  rfl
theorem mnyL_snoc {n : Nat} {N : List GDNode} {x : GDNode} {v : Nat} (hx : x.Var = v) (h : v < n) : set' (mnyL n N) (v : Int) (at' (mnyL n N) (v : Int) + 1) = mnyL n (N ++ [x]) := by
  refine eq_by (by rw [set_len, mnyL_len, mnyL_len]) (fun i hi => ?_)
  have hi' : i < n := by rw [set_len, mnyL_len] at hi; exact hi
  rw [at_set (by rw [mnyL_len]; exact h), mnyL_at (N := N ++ [x]) hi', List.countP_append]
  by_cases he : i = v
  · subst he; rw [if_pos rfl, mnyL_at h]; simp [hx]
  · rw [if_neg he, mnyL_at hi']
    have : List.countP (fun y => decide (y.Var = (i : Int))) [x] = 0 := by
      simp only [List.countP_singleton, hx]
      rw [if_neg (by simp; omega)]
    rw [this]; rfl
theorem mnyL_le {n : Nat} {N : List GDNode} {v : Nat} (h : v < n) : 0 ≤ at' (mnyL n N) (v : Int) ∧ at' (mnyL n N) (v : Int) ≤ N.length := by
  rw [mnyL_at h]
  have := List.countP_le_length (p := fun x : GDNode => decide (x.Var = (v : Int))) (l := N)
  omega
def seqV (n : Nat) (u : List Int) : List Int := isort (fun x y => decide (at' u y - at' u x < 0)) (nats n)
theorem seqV_perm {n : Nat} {u : List Int} : (seqV n u).Perm (nats n) := isort_perm _
theorem mem_seqV {n : Nat} {u : List Int} {x : Int} : x ∈ seqV n u ↔ 0 ≤ x ∧ x < n := by rw [seqV_perm.mem_iff, mem_nats]
theorem seqV_len {n : Nat} {u : List Int} : (seqV n u).length = n := by rw [seqV_perm.length_eq, nats_len]
theorem seqV_at {n : Nat} {u : List Int} {i : Nat} (h : i < n) : ∃ v : Nat, at' (seqV n u) (i : Int) = v ∧ v < n := by
  have := mem_seqV.1 (at_in (l := seqV n u) (j := i) (by rw [seqV_len]; exact h))
  exact ⟨(at' (seqV n u) (i : Int)).toNat, by omega, by omega⟩
theorem SortSift_s {l u : List Int} {Q : List Int → Prop} (hl : l.length < 20) (hu : ∀ x ∈ l, (0 ≤ x ∧ x < u.length) ∧ 0 ≤ at' u x ∧ at' u x ≤ 1048576) (hQ : Q (isort (fun x y => decide (at' u y - at' u x < 0)) l)) : slices_SortStableFunc___int_int__e_W l u Q :=
  stabG_few (C := fun x y K => sifting_Sift_1__e_W x y u K) (c := fun x y => at' u y - at' u x) (Q := fun x1 => x1.length = l.length ∧ Q x1) (fun x hx y hy K hK => by
    have h1 := hu x hx
    have h2 := hu y hy
    exact ⟨by omega, by omega, by unfold rng; omega, hK⟩) hl ⟨isort_len, hQ⟩
section
variable {d : GDiagram}
theorem many_step (h : VD d) {i : Nat} (hi : i < d.Nodes.length) {next : Int × List Int → Prop} (hn : next (((i + 1 : Nat) : Int), mnyL d.Order.length (d.Nodes.take (i + 1)))) :
    ((0 : Int) ≤ (i : Int) ∧ (i : Int) < (d.Nodes.length : Int)) ∧
    ((0 : Int) ≤ (at' d.Nodes (i : Int)).Var ∧ (at' d.Nodes (i : Int)).Var < ((mnyL d.Order.length (d.Nodes.take i)).length : Int)) ∧
    rng ((at' (mnyL d.Order.length (d.Nodes.take i)) ((at' d.Nodes (i : Int)).Var)) + 1) ∧
    ((0 : Int) ≤ (at' d.Nodes (i : Int)).Var ∧ (at' d.Nodes (i : Int)).Var < ((mnyL d.Order.length (d.Nodes.take i)).length : Int)) ∧
    rng ((i : Int) + 1) ∧
    next (((i : Int) + 1), (set' (mnyL d.Order.length (d.Nodes.take i)) ((at' d.Nodes (i : Int)).Var) ((at' (mnyL d.Order.length (d.Nodes.take i)) ((at' d.Nodes (i : Int)).Var)) + 1))) := by
  have hN := h.le
  obtain ⟨v, hv, hvl⟩ := var_of h hi
  have hb := mnyL_le (N := d.Nodes.take i) hvl
  rw [List.length_take] at hb
  have hll : (mnyL d.Order.length (d.Nodes.take i)).length = d.Order.length := mnyL_len
  rw [hv]
  refine ⟨by omega, by omega, by unfold rng; omega, by omega, by unfold rng; omega, ?_⟩
  rw [take_snoc hi, ← mnyL_snoc hv hvl] at hn
  exact hn
/-! ### An event's best place -/
def keyD (x : GDiagram) : Nat := x.Nodes.length
/-- The diagrams with an event at each place but the first. -/
def mvsD (d : GDiagram) (v : Nat) (k : Nat) : List GDiagram := (List.range k).map fun p => reoD d (movO d.Order v ((p + 1 : Nat) : Int))
theorem mvsD_succ {v k : Nat} : mvsD d v (k + 1) = mvsD d v k ++ [reoD d (movO d.Order v ((k + 1 : Nat) : Int))] := by simp [mvsD, List.range_succ]
def stepD (d : GDiagram) (v : Nat) : GDiagram := bestF keyD (mvsD d v (d.Order.length - 1)) (reoD d (movO d.Order v 0))
theorem best_mem {v k : Nat} : ∃ p : Nat, p ≤ k ∧ bestF keyD (mvsD d v k) (reoD d (movO d.Order v 0)) = reoD d (movO d.Order v (p : Int)) := by
  rcases bestF_mem (key := keyD) (mvsD d v k) (reoD d (movO d.Order v 0)) with h | h
  · exact ⟨0, Nat.zero_le _, h⟩
  · obtain ⟨p, hp, he⟩ := List.mem_map.1 h
    exact ⟨p + 1, List.mem_range.1 hp, he.symm⟩
/-- What a step leaves: the same function, the same number of events, no more nodes. -/
structure Kept (d x : GDiagram) : Prop where
  vd : VD x
  len : x.Order.length = d.Order.length
  df : dF x = dF d
  le : keyD x ≤ keyD d
theorem Kept.refl (h : VD d) : Kept d d := ⟨h, rfl, rfl, Nat.le_refl _⟩
theorem Kept.trans {x y : GDiagram} (h : Kept d x) (h' : Kept x y) : Kept d y := ⟨h'.vd, h'.len.trans h.len, h'.df.trans h.df, Nat.le_trans h'.le h.le⟩
theorem mov_kept (h : VD d) (h12 : d.Order.length ≤ 12) {v p : Nat} (hv : v < d.Order.length) : VD (reoD d (movO d.Order v p)) ∧ (reoD d (movO d.Order v p)).Order.length = d.Order.length ∧ dF (reoD d (movO d.Order v p)) = dF d := by
  have ho := movO_ord (p := p) h.ord hv
  have hl := movO_len (p := p) h.ord hv
  exact ⟨reo_VD h ho hl (by omega), hl, reo_dF h ho hl⟩
theorem step_kept (h : VD d) (h12 : d.Order.length ≤ 12) {v : Nat} (hv : v < d.Order.length) : Kept d (stepD d v) := by
  obtain ⟨p, hp, he⟩ := best_mem (d := d) (v := v) (k := d.Order.length - 1)
  have hm := mov_kept h h12 (p := p) hv
  refine ⟨?_, ?_, ?_, ?_⟩
  · unfold stepD; rw [he]; exact hm.1
  · unfold stepD; rw [he]; exact hm.2.1
  · unfold stepD; rw [he]; exact hm.2.2
  · have hle := bestF_le (key := keyD) (mvsD d v (d.Order.length - 1)) (reoD d (movO d.Order v 0))
    have hsame : reoD d (movO d.Order v ((levO d.Order v : Nat) : Int)) = d := by rw [movO_same h.ord hv, reo_self h]
    have hl := (h.ord.at_lev hv).1
    unfold stepD
    by_cases h0 : levO d.Order v = 0
    · rw [h0] at hsame
      have e0 : keyD (reoD d (movO d.Order v 0)) = keyD d := congrArg keyD hsame
      exact Nat.le_trans hle.1 (Nat.le_of_eq e0)
    · have : d ∈ mvsD d v (d.Order.length - 1) := by
        refine List.mem_map.2 ⟨levO d.Order v - 1, List.mem_range.2 (by omega), ?_⟩
        rw [show levO d.Order v - 1 + 1 = levO d.Order v by omega]
        exact hsame
      exact hle.2 d this
def siftL (d : GDiagram) (l : List Int) : GDiagram := l.foldl (fun x v => stepD x v.toNat) d
theorem siftL_snoc {l : List Int} {v : Int} : siftL d (l ++ [v]) = stepD (siftL d l) v.toNat := by simp [siftL]
theorem siftL_kept (h : VD d) (h12 : d.Order.length ≤ 12) : ∀ l : List Int, (∀ v ∈ l, 0 ≤ v ∧ v < d.Order.length) → Kept d (siftL d l) := snocInd (fun _ => Kept.refl h) fun l v ih hl => by
  rw [siftL_snoc]
  have hk := ih fun w hw => hl w (by simp [hw])
  have hv := hl v (by simp)
  exact hk.trans (step_kept hk.vd (by rw [hk.len]; exact h12) (by rw [hk.len]; omega))
/-- The diagram behind sifting. -/
def siftD (d : GDiagram) : GDiagram := siftL d (seqV d.Order.length (mnyL d.Order.length d.Nodes))
theorem sift_kept (h : VD d) (h12 : d.Order.length ≤ 12) : Kept d (siftD d) := siftL_kept h h12 _ fun v hv => by have := mem_seqV.1 hv; omega
theorem take_seq {l : List Int} {k : Nat} (h : k < l.length) : siftL d (l.take (k + 1)) = stepD (siftL d (l.take k)) (at' l (k : Int)).toNat := by rw [take_snoc h, siftL_snoc]
theorem keyI {a b : GDiagram} : decide ((a.Nodes.length : Int) < (b.Nodes.length : Int)) = decide (keyD a < keyD b) := decide_eq_decide.2 (by unfold keyD; omega)
theorem Sift_s {Q : GDiagram → Option Int → Prop} (h0 : dgE d ≠ 0 → Q noD (some (dgE d))) (h12 : dgE d = 0 → d.Order.length ≤ 12) (h1 : dgE d = 0 → Q (siftD d) none) : sifting_Sift_W d Q := by
  refine diagram_Check_s (err_W (fun hc => by rw [errO_ne' hc]; exact h0 hc) (fun hz => ?_))
  have h := dgE_zero.1 hz
  have hQ := h1 hz
  have hn := h12 hz
  refine ⟨⟨by omega, by omega, by omega, by omega⟩, loopUp (n := d.Nodes.length) (fun i => ((i : Int), mnyL d.Order.length (d.Nodes.take i))) (fun y => y.1) 0 (fun i => by dsimp only; omega) (by rw [mnyL_nil]; rfl) (fun i next hi hn => condT (fun _ => many_step h hi hn) (fun hc => absurd (show (i : Int) < _ by omega) hc)) (fun next => condT (fun hc => absurd hc (by omega)) (fun _ => ?_))⟩
  rw [List.take_length]
  generalize hU : mnyL d.Order.length d.Nodes = U
  have hUl : U.length = d.Order.length := by rw [← hU]; exact mnyL_len
  have hUb : ∀ v : Nat, v < d.Order.length → 0 ≤ at' U (v : Int) ∧ at' U (v : Int) ≤ 4096 := fun v hv => by
    have := mnyL_le (N := d.Nodes) hv
    have := h.le
    rw [← hU]; omega
  refine Natural_s (by omega) (condB (fun hc => by cases hc) (fun _ => ?_))
  have hnl : (nats d.Order.length).length = d.Order.length := nats_len
  have hseq : (seqV d.Order.length U).length = d.Order.length := seqV_len
  refine SortSift_s (by rw [hnl]; omega) (fun x hx => ?_) ⟨by show (seqV d.Order.length U).length = _; rw [hseq, hnl], ?_⟩
  · have hx' := mem_nats.1 hx
    obtain ⟨a, rfl⟩ : ∃ a : Nat, x = a := ⟨x.toNat, by omega⟩
    have ha := hUb a (by omega)
    omega
  show loopW _ _
  rw [hnl]
  have hsd : siftD d = siftL d (seqV d.Order.length U) := by unfold siftD; rw [hU]
  rw [hsd] at hQ
  refine loopUp (n := d.Order.length) (fun i => ((i : Int), siftL d ((seqV d.Order.length U).take i))) (fun y => y.1) 0 (fun i => by dsimp only; omega) rfl (fun i next hi hn1 => ?_) (fun next => ?_)
  · refine condT (fun _ => ⟨by omega, ?_⟩) (fun hc => absurd (show (i : Int) < _ by omega) hc)
    obtain ⟨v, hv, hvl⟩ := seqV_at (u := U) hi
    have hk := siftL_kept h hn ((seqV d.Order.length U).take i) (fun w hw => by have := mem_seqV.1 (List.mem_of_mem_take hw); omega)
    rw [take_seq (by rw [hseq]; exact hi), hv, Int.toNat_natCast] at hn1
    generalize siftL d ((seqV d.Order.length U).take i) = x at hk hn1
    have hxl := hk.len
    have hv' : at' (isort (fun x y => decide (at' U y - at' U x < 0)) (nats d.Order.length)) (i : Int) = v := hv
    dsimp only
    rw [hv']
    have hpos : 0 < x.Order.length := by omega
    refine loopInv (n := x.Order.length) (fun k y => y.2.1 = (k : Int) ∧ (k = 0 → y.1 = false) ∧ (k ≠ 0 → y.1 = true ∧ y.2.2 = bestF keyD (mvsD x v (k - 1)) (reoD x (movO x.Order v 0)))) (fun y => y.2.1) 0 (fun k y hy => by rw [hy.1]; omega) ⟨rfl, fun _ => rfl, fun hc => absurd rfl hc⟩ ?_ ?_
    · rintro k ⟨found, p, best⟩ next3 hkl ⟨hp, hf0, hf1⟩ hn3
      dsimp only at hp hf0 hf1
      subst hp
      have hvx : v < x.Order.length := by omega
      have ho := movO_ord (p := k) hk.vd.ord hvx
      have hol := movO_len (p := k) hk.vd.ord hvx
      refine condT (fun _ => ⟨_, moved_s hk.vd.ord hvx hkl rfl, _, _, reorder_s hk.vd ho hol (by omega) ⟨rfl, rfl⟩, ?_⟩) (fun hc => absurd (show (k : Int) < _ by omega) hc)
      by_cases hk0 : k = 0
      · subst hk0
        rw [hf0 rfl]
        refine ⟨fun b => b = true, condB (fun _ => condB (fun _ => rfl) (fun hc => by cases hc)) (fun hc => by cases hc), fun b hb => ?_⟩
        subst hb
        exact condB (fun _ => ⟨by unfold rng; dsimp only; omega, hn3 _ ⟨by dsimp only; omega, fun hc => by omega, fun _ => ⟨rfl, rfl⟩⟩⟩) (fun hc => by cases hc)
      · obtain ⟨hf, hb⟩ := hf1 hk0
        subst hf hb
        have hsn : bestF keyD (mvsD x v (k + 1 - 1)) (reoD x (movO x.Order v 0)) = if keyD (reoD x (movO x.Order v (k : Int))) < keyD (bestF keyD (mvsD x v (k - 1)) (reoD x (movO x.Order v 0))) then reoD x (movO x.Order v (k : Int)) else bestF keyD (mvsD x v (k - 1)) (reoD x (movO x.Order v 0)) := by
          obtain ⟨m, rfl⟩ : ∃ m, k = m + 1 := ⟨k - 1, by omega⟩
          rw [Nat.add_sub_cancel, Nat.add_sub_cancel, mvsD_succ, bestF_snoc]
        refine ⟨fun b => b = decide (keyD (reoD x (movO x.Order v (k : Int))) < keyD (bestF keyD (mvsD x v (k - 1)) (reoD x (movO x.Order v 0)))), condB (fun _ => condB (fun hc => by cases hc) (fun _ => keyI)) (fun hc => by cases hc), fun b hb => ?_⟩
        subst hb
        refine condT (fun hc => ⟨by unfold rng; dsimp only; omega, hn3 _ ⟨by dsimp only; omega, fun hc => by omega, fun _ => ⟨rfl, ?_⟩⟩⟩) (fun hc => ⟨by unfold rng; dsimp only; omega, hn3 _ ⟨by dsimp only; omega, fun hc => by omega, fun _ => ⟨rfl, ?_⟩⟩⟩)
        · dsimp only; rw [hsn, if_pos hc]
        · dsimp only; rw [hsn, if_neg hc]
    · rintro ⟨found, p, best⟩ next3 ⟨hp, hf0, hf1⟩
      dsimp only at hp hf0 hf1
      subst hp
      obtain ⟨hf, hb⟩ := hf1 (by omega)
      subst hf hb
      exact condT (fun hc => absurd hc (by dsimp only; omega)) (fun _ => ⟨by unfold rng; omega, hn1⟩)
  · have hk := sift_kept h hn
    refine condT (fun hc => absurd hc (by omega)) (fun _ => ?_)
    rw [List.take_of_length_le (by rw [hseq]; exact Nat.le_refl _), ← hsd]
    refine reorder_s hk.vd hk.vd.ord rfl (by rw [hk.len]; exact hn) ?_
    rw [reo_self hk.vd, hsd]
    exact hQ
end
end Go.Gg
/- Sifting: the reference's Sift; all orders; Best of both. Conditions: few events. -/
namespace Go.Gg
section
variable {d : GDiagram}
/-! ### All orders -/
theorem contains_s {s : List Int} {v : Int} {Q : Bool → Prop} (hl : s.length ≤ 1099511627776) (h : Q (decide (v ∈ s))) : slices_Contains___int_int_W s v Q := by
  unfold slices_Contains___int_int_W slices_Index___int_int_W
  refine scanW (n := s.length) (fun i => v = at' s (i : Int)) (by omega) (fun i next hi hI hn => ⟨⟨by omega, by omega⟩, condE (fun he => ?_) (fun he => hn he)⟩) (fun hI => ?_)
  · have hm : v ∈ s := by rw [he, at_el hi]; exact List.getElem_mem hi
    rw [decide_eq_true hm] at h
    show Q (decide ((0 : Int) ≤ (i : Int)))
    rw [decide_eq_true (show (0 : Int) ≤ (i : Int) by omega)]
    exact h
  · have hm : v ∉ s := fun hm => by
      obtain ⟨j, hj, hju⟩ := List.mem_iff_getElem.1 hm
      exact hI j hj (by rw [at_el hj]; exact hju.symm)
    rw [decide_eq_false hm] at h
    show Q (decide ((0 : Int) ≤ -1))
    rw [decide_eq_false (show ¬ (0 : Int) ≤ -1 by omega)]
    exact h
/-- What the program keeps at one more order: whether there was one, and the best. -/
def keepB (d : GDiagram) (y : Bool × GDiagram) (o : List Int) : Bool × GDiagram := if y.1 = false ∨ keyD (reoD d o) < keyD y.2 then (true, reoD d o) else y
def foldB (d : GDiagram) (l : List (List Int)) (y : Bool × GDiagram) : Bool × GDiagram := l.foldl (keepB d) y
theorem foldB_app {l m : List (List Int)} {y : Bool × GDiagram} : foldB d (l ++ m) y = foldB d m (foldB d l y) := by simp [foldB]
theorem foldB_true : ∀ (l : List (List Int)) (x : GDiagram), foldB d l (true, x) = (true, bestF keyD (l.map (reoD d)) x)
  | [], _ => rfl
  | o :: l, x => by
    have e : foldB d (o :: l) (true, x) = foldB d l (keepB d (true, x) o) := rfl
    rw [e, List.map_cons]
    unfold keepB
    have e2 : bestF keyD (reoD d o :: l.map (reoD d)) x = bestF keyD (l.map (reoD d)) (if keyD (reoD d o) < keyD x then reoD d o else x) := rfl
    rw [e2]
    by_cases hc : keyD (reoD d o) < keyD x
    · rw [if_pos (.inr hc), if_pos hc, foldB_true l]
    · rw [if_neg (by simp [hc]), if_neg hc, foldB_true l]
theorem extO_upto {k : Nat} {part : List Int} : ((List.range (k + 1)).filter fun v : Nat => decide ((v : Int) ∉ part)).map (fun v : Nat => part ++ [(v : Int)]) = ((List.range k).filter fun v : Nat => decide ((v : Int) ∉ part)).map (fun v : Nat => part ++ [(v : Int)]) ++ if (k : Int) ∈ part then [] else [part ++ [(k : Int)]] := by
  rw [List.range_succ, List.filter_append, List.map_append]
  congr 1
  by_cases h : (k : Int) ∈ part <;> simp [h]
theorem leaf_s {o : List Int} {y : Bool × GDiagram} {Q : Bool → GDiagram → Prop} (h : VD d) (h12 : d.Order.length ≤ 12) (ho : Or14 o) (hl : o.length = d.Order.length) (hQ : Q (keepB d y o).1 (keepB d y o).2) : sifting_Best_1__e_W o d y.1 y.2 Q := by
  refine reorder_s h ho hl (by omega) ⟨fun b => b = decide (y.1 = false ∨ keyD (reoD d o) < keyD y.2), condB (fun _ => condB (fun hf => ?_) (fun hf => ?_)) (fun hc => by cases hc), fun b hb => ?_⟩
  · exact (decide_eq_true (.inl (by simpa using hf))).symm
  · have : y.1 ≠ false := by simpa using hf
    rw [keyI]
    exact decide_eq_decide.2 ⟨fun h => .inr h, fun h => h.resolve_left this⟩
  · subst hb
    unfold keepB at hQ
    refine condT (fun hc => ?_) (fun hc => ?_)
    · rw [if_pos hc] at hQ; exact hQ
    · rw [if_neg hc] at hQ; exact hQ
theorem orders_s {n : Nat} (h : VD d) (hn : n = d.Order.length) (h12 : n ≤ 12) : ∀ (m fu : Nat) (part : List Int) (y : Bool × GDiagram) (Q : Bool → GDiagram → Prop), m < fu → part.length + m = n → PartO n part.length part →
    Q (foldB d (permO n m part) y).1 (foldB d (permO n m part) y).2 → sifting_orders__e_W fu part n d y.1 y.2 Q := by
  intro m
  induction m with
  | zero =>
    intro fu part y Q hfu hl hp hQ
    obtain ⟨fu, rfl⟩ : ∃ k, fu = k + 1 := ⟨fu - 1, by omega⟩
    have hpn : part.length = n := by omega
    rw [hpn] at hp
    have ho := (or14_part (by omega)).1 hp
    rw [sifting_orders__e_W]
    exact condE (fun _ => leaf_s h (by omega) ho.1 (by omega) hQ) (fun hc => absurd (by omega) hc)
  | succ m ih =>
    intro fu part y Q hfu hl hp hQ
    obtain ⟨fu, rfl⟩ : ∃ k, fu = k + 1 := ⟨fu - 1, by omega⟩
    rw [sifting_orders__e_W]
    refine condE (fun hc => by omega) (fun _ => ?_)
    refine loopUp (n := n) (fun k => ((k : Int), foldB d ((((List.range k).filter fun v : Nat => decide ((v : Int) ∉ part)).map (fun v : Nat => part ++ [(v : Int)])).flatMap (permO n m)) y)) (fun x => x.1) 0 (fun k => by dsimp only; omega) rfl (fun k next hk hn1 => ?_) (fun next => ?_)
    · refine condT (fun _ => contains_s (by omega) (condB (fun hb => ?_) (fun hb => ?_))) (fun hc => absurd (show (k : Int) < n by omega) hc)
      · have hnot : (k : Int) ∉ part := by simpa using hb
        rw [extO_upto, if_neg hnot, List.flatMap_append, foldB_app] at hn1
        have e1 : List.flatMap (permO n m) [part ++ [(k : Int)]] = permO n m (part ++ [(k : Int)]) := by simp
        rw [e1] at hn1
        refine clone_s (by omega) ⟨by rw [List.length_append, List.length_singleton]; omega, ih fu (part ++ [(k : Int)]) _ _ (by omega) (by rw [List.length_append, List.length_singleton]; omega) ?_ ⟨by unfold rng; omega, hn1⟩⟩
        refine ⟨rfl, ?_, fun w hw => ?_⟩
        · rw [List.nodup_append]
          refine ⟨hp.nd, by simp, fun a ha b hb' => ?_⟩
          rw [List.mem_singleton.1 hb']
          rintro rfl
          exact hnot ha
        · rcases List.mem_append.1 hw with hw | hw
          · exact hp.rg w hw
          · rw [List.mem_singleton.1 hw]; omega
      · have hin : (k : Int) ∈ part := by simpa using hb
        rw [extO_upto, if_pos hin, List.append_nil] at hn1
        exact ⟨by unfold rng; omega, hn1⟩
    · refine condT (fun hc => absurd hc (by omega)) (fun _ => ?_)
      exact hQ
/-- The best order's diagram. -/
def bestD (d : GDiagram) : GDiagram := match levsO d.Order.length d.Order.length with
  | [] => d
  | o :: l => bestF keyD (l.map (reoD d)) (reoD d o)
theorem levs_ne {n : Nat} (h24 : n ≤ 24) {o : List Int} (ho : Or14 o) (hl : o.length = n) : ∃ o l, levsO n n = o :: l := by
  have := (mem_levs n o).2 ((or14_part h24).2 ⟨ho, hl⟩)
  cases h : levsO n n with
  | nil => rw [h] at this; simp at this
  | cons a b => exact ⟨a, b, rfl⟩
theorem Best_s {Q : GDiagram → Option Int → Prop} (h0 : dgE d ≠ 0 → Q noD (some (dgE d))) (h4 : dgE d = 0 → 6 < d.Order.length → Q noD (some 4)) (h1 : dgE d = 0 → d.Order.length ≤ 6 → Q (bestD d) none) : sifting_Best_W d Q := by
  refine diagram_Check_s (err_W (fun hc => by rw [errO_ne' hc]; exact h0 hc) (fun hz => condT (fun hc => h4 hz (by omega)) (fun hc => ?_)))
  have h := dgE_zero.1 hz
  have hQ := h1 hz (by omega)
  refine ⟨d.Order.length + 1, orders_s (n := d.Order.length) h rfl (by omega) d.Order.length _ [] (false, noD) _ (by omega) (by simp) ⟨rfl, List.nodup_nil, fun v hv => by simp at hv⟩ ?_⟩
  rw [permO_levs]
  obtain ⟨o, l, hl⟩ := levs_ne (n := d.Order.length) (by omega) h.ord rfl
  unfold bestD at hQ
  rw [hl] at hQ ⊢
  have e : foldB d (o :: l) (false, noD) = foldB d l (true, reoD d o) := rfl
  rw [e, foldB_true]
  exact hQ
end
end Go.Gg
/- Chapter 15: Build, the program's and the reference's. Conditions: none. -/
namespace Go.Gg
theorem ref15_Formula_s {f : GFormula} {Q : List Bool → Prop} (g : FG f) (hQ : Q (tabF f.Vars.toNat (fF f))) : ref15_Formula_W f Q := by
  have v0 := g.v0; have v24 := g.v24
  obtain ⟨n, hn⟩ : ∃ n : Nat, f.Vars = n := ⟨f.Vars.toNat, by omega⟩
  rw [hn, Int.toNat_natCast] at hQ
  have hp := dpow24 (n := n) (by omega)
  unfold ref15_Formula_W
  rw [hn]
  refine loopUp (n := 2 ^ n) (fun i => ((i : Int), (List.range i).map fun s => fF f (stA s))) (fun y => y.1) 0 (fun i => by dsimp only; omega) rfl (fun i next hi hn' => ?_) (fun next => ?_)
  · refine ⟨shl_ok (by omega), ?_⟩
    rw [shl_pow]
    refine condT (fun _ => ref08_Value_s g (by omega) ⟨by simp; omega, by unfold rng; omega, ?_⟩) (fun hc => absurd (show (i : Int) < ((2 ^ n : Nat) : Int) by omega) hc)
    rw [tabF_take, fF_st (by rw [hn]; exact hi)] at hn'
    exact hn'
  · refine ⟨shl_ok (by omega), ?_⟩
    rw [shl_pow]
    exact condT (fun hc => absurd hc (by omega)) (fun _ => hQ)
theorem ref15_Build_s {f : GFormula} {o : List Int} {Q : GDiagram → Prop} (hz : buildE f o = 0) (hQ : Q (canD o (fF f))) : ref15_Build_W f o Q := by
  obtain ⟨g, hO, hl⟩ := buildE_zero.1 hz
  refine ref15_Formula_s g ?_
  rw [show f.Vars.toNat = o.length by omega]
  exact ref15_Of_s hO (fF_dep hO hl) hQ
end Go.Gg
/- Chapter 17: the example; the laws' own functions; Swap and Move. Conditions: few events. -/
namespace Go.Gg
def ex17 : GFormula := ⟨4, [(⟨2, 0, [0, 1]⟩ : GNode), (⟨2, 0, [2, 3]⟩ : GNode), (⟨3, 0, [4, 5]⟩ : GNode)], 6⟩
def lit17 : GDiagram := ⟨[0, 2, 1, 3], [⟨3, 0, 1⟩, ⟨2, 0, 2⟩, ⟨1, 0, 1⟩, ⟨1, 2, 1⟩, ⟨2, 4, 5⟩, ⟨0, 3, 6⟩], 7⟩
def lit17b : GDiagram := ⟨[1, 0, 2, 3], [⟨3, 0, 1⟩, ⟨2, 0, 2⟩, ⟨0, 3, 1⟩, ⟨1, 3, 4⟩], 5⟩
def lit17c : GDiagram := ⟨[0, 1, 2, 3], [⟨3, 0, 1⟩, ⟨2, 0, 2⟩, ⟨1, 3, 1⟩, ⟨0, 3, 4⟩], 5⟩
def lit17d : GDiagram := ⟨[0, 1, 3, 2], [⟨2, 0, 1⟩, ⟨3, 0, 2⟩, ⟨1, 3, 1⟩, ⟨0, 3, 4⟩], 5⟩
theorem lit17_can : canD [0, 2, 1, 3] (fF ex17) = lit17 := by decide +kernel
theorem lit17_seq : seqV lit17.Order.length (mnyL lit17.Order.length lit17.Nodes) = [1, 2, 0, 3] := by decide +kernel
theorem lit17_1 : stepD lit17 1 = lit17b := by decide +kernel
theorem lit17_2 : stepD lit17b 2 = lit17b := by decide +kernel
theorem lit17_3 : stepD lit17b 0 = lit17c := by decide +kernel
theorem lit17_4 : stepD lit17c 3 = lit17d := by decide +kernel
theorem lit17_sift : siftD lit17 = lit17d := by
  unfold siftD
  rw [lit17_seq]
  show stepD (stepD (stepD (stepD lit17 1) 2) 0) 3 = lit17d
  rw [lit17_1, lit17_2, lit17_3, lit17_4]
theorem lit17_best : bestD lit17 = lit17c := by decide +kernel
theorem law17_awake_s {Q : Bool → Prop} (h : Q true) : law17_awake_W Q := by
  have hb : buildE ex17 [0, 2, 1, 3] = 0 := by decide
  have hO := (buildE_zero.1 hb).2.1
  have hd : Dep (fF ex17) (natO [0, 2, 1, 3]) := fF_dep hO rfl
  have hv := VD_can hO (by decide) hd
  rw [lit17_can] at hv
  have hz := dgE_zero.2 hv
  unfold law17_awake_W law17_example_W
  refine ref15_Build_s (f := ex17) hb ?_
  rw [lit17_can]
  refine Sift_s (fun hc => absurd hz hc) (fun _ => by decide) (fun _ => Best_s (fun hc => absurd hz hc) (fun _ hc => absurd hc (by decide)) (fun _ _ => ?_))
  rw [lit17_sift, lit17_best]
  exact condB (fun _ => condB (fun _ => condE (fun _ => condE (fun _ => condE (fun _ => base_Ints_s (by decide) h) (fun hc => absurd rfl hc)) (fun hc => absurd rfl hc)) (fun hc => absurd rfl hc)) (fun hc => by cases hc)) (fun hc => by cases hc)
/-! ### Swap and Move -/
section
variable {d : GDiagram}
end
end Go.Gg
