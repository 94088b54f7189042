/- RationalSimplestTurns returns true for every input and leaves the input as it was. No condition. -/
import Derived.Test.YtnabpemjcidhdaaK4
/- Plain laws of rationals: what the functions return stays in bounds. No program. -/
set_option linter.unusedVariables false
namespace Go.VL
section
variable {x y p q r s : Int}
theorem rdS_in (h : inB x = true) : inB (rdS x y) = true := by
  unfold rdS; split
  · exact (in_neg x).trans h
  · exact h
theorem rdN_in (hx : inB x = true) : inB (rdN x y) = true := by
  unfold rdN
  by_cases h : rdG x y = 0
  · rw [h, Int.fdiv_zero]; exact in_zero
  · exact fdiv_in (rdS_in hx) h
theorem rdD_in (hy : inB y = true) : inB (rdD x y) = true := by
  unfold rdD
  by_cases h : rdG x y = 0
  · rw [h, Int.fdiv_zero]; exact in_zero
  · exact fdiv_in (rdS_in hy) h
theorem mkN_in (hx : inB x = true) : inB (mkN x y) = true := by
  unfold mkN; split
  · exact in_zero
  · exact rdN_in hx
theorem mkD_in (hy : inB y = true) : inB (mkD x y) = true := by
  unfold mkD; split
  · exact in_zero
  · exact rdD_in hy
theorem sh_nil (z : Int) : shZ z 0 = z := by simp [shZ]
theorem fl_nil {k : Int} (h : ¬ k > 0) (h1 : k ≥ 0) (hi : inB (p.fdiv q) = true) : zR (flZ p q k) = oneB [iB (p.fdiv q), numB .i64 0] := by
  have : k = 0 := by omega
  subst this
  rw [flZ, if_pos (Int.le_refl 0), sh_nil, zR, zE_in.2 hi]; rfl
theorem fl_ins (z : Int) : ∃ w e : Int, inB w = true ∧ zR z = .tup [iB w, numB .i64 e] := by
  cases h : inB z with
  | true => exact ⟨z, zE z, h, rfl⟩
  | false => exact ⟨0, zE z, in_zero, by rw [zR, zB_zero, ← iB_out (z := z) (fun hc => by rw [zE_in.1 hc] at h; cases h)]⟩
theorem sq_ins (hp : inB p = true) (hq : inB q = true) : inB (sqQn p q) = true ∧ inB (sqQd p q) = true := by
  have hs : ∀ z : Int, inB z = true → inB (isq z) = true := fun z hz => by
    by_cases h : 0 ≤ z
    · exact (sq_in h hz).1
    · have : isq z = 0 := by unfold isq; rw [show z.toNat = 0 by omega]; rfl
      rw [this]; exact in_zero
  unfold sqQn sqQd
  split
  · exact ⟨hs _ hp, hs _ hq⟩
  · exact ⟨in_zero, in_zero⟩
end
end Go.VL

/- Plain laws of rationals: the simplest fraction stays in bounds. No program. -/
set_option linter.unusedVariables false
namespace Go.VL
theorem cfP_last (k : Nat) : ∀ (n d m f : Int) (L : List Int), cfP k n d m f = some L → L ≠ [] ∧ inB (L.getD (L.length - 1) 0) = true := by
  induction k with
  | zero => intro n d m f L h; rw [cfP] at h; exact absurd h (by simp)
  | succ k ih =>
    intro n d m f L h
    rw [cfP] at h
    by_cases h1 : inB (n.fdiv d + 1) = false
    · rw [if_pos h1] at h; exact absurd h (by simp)
    · rw [if_neg h1] at h
      rw [Bool.not_eq_false] at h1
      by_cases h2 : f = 0 ∨ (n.fdiv d + 1) * f < m
      · rw [if_pos h2] at h
        injection h with h
        rw [← h]
        exact ⟨List.cons_ne_nil _ _, h1⟩
      · rw [if_neg h2] at h
        cases e : cfP k f (m - n.fdiv d * f) d (n.fmod d) with
        | none => rw [e] at h; exact absurd h (by simp)
        | some L' =>
          rw [e, Option.map_some] at h
          obtain ⟨h3, h4⟩ := ih _ _ _ _ L' e
          injection h with h
          rw [← h]
          refine ⟨List.cons_ne_nil _ _, ?_⟩
          have hl : 0 < L'.length := List.length_pos_iff.2 h3
          rw [List.length_cons, show L'.length + 1 - 1 = (L'.length - 1) + 1 by omega, List.getD_cons_succ]
          exact h4
theorem cfF_in (L : List Int) : ∀ (a b : Int) (x : Int × Int), inB a = true → inB b = true → cfF a b L = some x → inB x.1 = true ∧ inB x.2 = true := by
  induction L with
  | nil => intro a b x ha hb h; rw [cfF] at h; injection h with h; rw [← h]; exact ⟨ha, hb⟩
  | cons y L ih =>
    intro a b x ha hb h
    rw [cfF] at h
    by_cases h1 : inB (y * a) = false
    · rw [if_pos h1] at h; exact absurd h (by simp)
    · rw [if_neg h1] at h
      by_cases h2 : inB (y * a + b) = false
      · rw [if_pos h2] at h; exact absurd h (by simp)
      · rw [if_neg h2] at h
        exact ih _ _ x (by rwa [Bool.not_eq_false] at h2) ha h
section
variable {p q r s : Int}
theorem cfQ_in (x : Int × Int) (h : cfQ p q r s = some x) : inB x.1 = true ∧ inB x.2 = true := by
  unfold cfQ cfL at h
  cases e : cfP ((q + s).toNat + 1) p q r s with
  | none => rw [e, Option.bind_none] at h; exact absurd h (by simp)
  | some L =>
    rw [e, Option.bind_some] at h
    obtain ⟨_, h1⟩ := cfP_last _ _ _ _ _ L e
    exact cfF_in _ _ _ x h1 in_one h
theorem po_ins : inB (poN (cfQ p q r s)) = true ∧ inB (poD (cfQ p q r s)) = true := by
  cases e : cfQ p q r s with
  | none => exact ⟨in_zero, in_zero⟩
  | some x => exact cfQ_in x e
theorem si_mid' (h : p * s < r * q) (h1 : p < 0) (h2 : 0 < r) : siR p q r s = oneB [qB 0 1, numB .i64 0] := by
  rw [siR, if_pos h, siQ, if_pos ⟨h1, h2⟩]; rfl
theorem siQ_in (x : Int × Int) (h : siQ p q r s = some x) : inB x.1 = true ∧ inB x.2 = true := by
  unfold siQ at h
  by_cases h1 : p < 0 ∧ 0 < r
  · rw [if_pos h1] at h; injection h with h; rw [← h]; exact ⟨in_zero, in_one⟩
  · rw [if_neg h1] at h
    by_cases h2 : p < 0
    · rw [if_pos h2] at h
      cases e : cfQ (-r) s (-p) q with
      | none => rw [e] at h; exact absurd h (by simp)
      | some y =>
        rw [e, Option.map_some] at h
        injection h with h; rw [← h]
        exact ⟨(in_neg y.1).trans (cfQ_in y e).1, (cfQ_in y e).2⟩
    · rw [if_neg h2] at h; exact cfQ_in x h
/-- The answer, in its three parts. -/
theorem si_parts : ∃ x y e : Int, inB x = true ∧ inB y = true ∧ siR p q r s = rR x y e := by
  unfold siR
  by_cases h : p * s < r * q
  · rw [if_pos h]
    refine ⟨_, _, _, ?_, ?_, rfl⟩
    · cases e : siQ p q r s with
      | none => exact in_zero
      | some x => exact (siQ_in x e).1
    · cases e : siQ p q r s with
      | none => exact in_zero
      | some x => exact (siQ_in x e).2
  · rw [if_neg h]; exact ⟨0, 0, 1, in_zero, in_zero, rfl⟩
end
end Go.VL

/- Plain laws of rationals: what the simplest fraction is. No program. -/
set_option linter.unusedVariables false
namespace Go.VL
def spS : Nat → Int → Int → Int → Int → Int × Int
  | 0, _, _, _, _ => (0, 0)
  | k + 1, n, d, m, f => if f = 0 ∨ (n.fdiv d + 1) * f < m then (n.fdiv d + 1, 1) else
      (n.fdiv d * (spS k f (m - n.fdiv d * f) d (n.fmod d)).1 + (spS k f (m - n.fdiv d * f) d (n.fmod d)).2, (spS k f (m - n.fdiv d * f) d (n.fmod d)).1)
/-- Between n/d and m/f, and the least. -/
structure SpI (n d m f x y : Int) : Prop where
  x0 : 0 < x
  y0 : 0 < y
  lo : n * y < x * d
  hi : x * f < m * y
  cop : Int.gcd x y = 1
  least : ∀ u v : Int, 0 < v → n * v < u * d → u * f < m * v → x ≤ u ∧ y ≤ v
theorem sp_end {n d m f q r : Int} (hn : n = d * q + r) (hr : 0 ≤ r) (hr1 : r < d) (q0 : 0 ≤ q) (hd : 0 < d) (hf : 0 ≤ f) (h : f = 0 ∨ (q + 1) * f < m) (lt : n * f < m * d) : SpI n d m f (q + 1) 1 := by
  refine ⟨by omega, by decide, ?_, ?_, by simp, ?_⟩
  · subst hn; grind
  · rcases h with h | h
    · subst h
      rw [Int.mul_zero] at lt ⊢
      rw [Int.mul_one]
      exact Int.pos_of_mul_pos_left lt hd
    · omega
  · intro u v hv h1 h2
    refine ⟨?_, by omega⟩
    have h3 : q * v < u := by
      have h4 : (q * v) * d ≤ n * v := by
        subst hn
        have : 0 ≤ r * v := Int.mul_nonneg hr (Int.le_of_lt hv)
        grind
      exact Int.lt_of_mul_lt_mul_right (Int.lt_of_le_of_lt h4 h1) (Int.le_of_lt hd)
    have h5 : q * 1 ≤ q * v := Int.mul_le_mul_of_nonneg_left (by omega) q0
    omega
theorem sp_more {n d m f q r x y : Int} (hn : n = d * q + r) (hr : 0 ≤ r) (hr1 : r < d) (q0 : 0 ≤ q) (hd : 0 < d) (h : SpI f (m - q * f) d r x y) : SpI n d m f (q * x + y) x := by
  obtain ⟨x0, y0, lo, hi, cop, least⟩ := h
  refine ⟨?_, x0, ?_, ?_, ?_, ?_⟩
  · have := Int.mul_nonneg q0 (Int.le_of_lt x0); omega
  · subst hn; grind
  · grind
  · rw [Int.gcd_comm] at cop
    have : Int.gcd (q * x + y) x = Int.gcd y x := by
      rw [Int.add_comm, Int.mul_comm, Int.gcd_comm, Int.gcd_add_mul_left_right, Int.gcd_comm]
    rw [this]; exact cop
  · intro u v hv h1 h2
    have e1 : r * v < (u - q * v) * d := by subst hn; grind
    have e2 : 0 < u - q * v := by
      have : 0 ≤ r * v := Int.mul_nonneg hr (Int.le_of_lt hv)
      exact Int.pos_of_mul_pos_left (by omega) hd
    obtain ⟨k1, k2⟩ := least v (u - q * v) e2 (by grind) (by grind)
    refine ⟨?_, k1⟩
    have : q * x ≤ q * v := Int.mul_le_mul_of_nonneg_left k1 q0
    omega
section
variable {n d m f : Int}
theorem sp_data (pn : 0 ≤ n) (pd : 0 < d) (pf : 0 ≤ f) (lt : n * f < m * d) (h : ¬ (f = 0 ∨ (n.fdiv d + 1) * f < m)) :
    0 ≤ n.fdiv d ∧ n = d * n.fdiv d + n.fmod d ∧ 0 ≤ n.fmod d ∧ n.fmod d < d ∧ 0 < m - n.fdiv d * f ∧ m - n.fdiv d * f ≤ f ∧ f * n.fmod d < d * (m - n.fdiv d * f) := by
  have q0 : 0 ≤ n.fdiv d := Int.fdiv_nonneg pn (Int.le_of_lt pd)
  have e := fm_eq n d
  obtain ⟨r0, r1⟩ := fm_range (n := n) pd
  have h1 : ¬ f = 0 := fun hc => h (.inl hc)
  have h2 : ¬ (n.fdiv d + 1) * f < m := fun hc => h (.inr hc)
  generalize n.fdiv d = q at *
  generalize n.fmod d = r at *
  have h3 : f * r < d * (m - q * f) := by subst e; grind
  have h4 : 0 ≤ f * r := Int.mul_nonneg pf r0
  have h5 : 0 < m - q * f := by
    have : 0 < (m - q * f) * d := by rw [Int.mul_comm]; omega
    exact Int.pos_of_mul_pos_left this pd
  refine ⟨q0, e, r0, r1, h5, ?_, h3⟩
  rw [Int.add_mul, Int.one_mul] at h2
  omega
theorem sp_spec (k : Nat) : ∀ n d m f : Int, 0 ≤ n → 0 < d → 0 ≤ f → n * f < m * d → (d + f).toNat < k → SpI n d m f (spS k n d m f).1 (spS k n d m f).2 := by
  induction k with
  | zero => intro n d m f _ _ _ _ h; omega
  | succ k ih =>
    intro n d m f pn pd pf lt hk
    rw [spS]
    by_cases h : f = 0 ∨ (n.fdiv d + 1) * f < m
    · rw [if_pos h]
      obtain ⟨r0, r1⟩ := fm_range (n := n) pd
      exact sp_end (fm_eq n d) r0 r1 (Int.fdiv_nonneg pn (Int.le_of_lt pd)) pd pf h lt
    · rw [if_neg h]
      obtain ⟨q0, e, r0, r1, h5, h6, h3⟩ := sp_data pn pd pf lt h
      exact sp_more e r0 r1 q0 pd (ih f (m - n.fdiv d * f) d (n.fmod d) pf h5 r0 h3 (by omega))
/-- A step of the fold. -/
def cfS (q : Int) (x : Int × Int) : Option (Int × Int) := if inB (q * x.1) = false then none else if inB (q * x.1 + x.2) = false then none else some (q * x.1 + x.2, x.1)
theorem cfF_app (L : List Int) (q : Int) : ∀ a b : Int, cfF a b (L ++ [q]) = (cfF a b L).bind (cfS q) := by
  induction L with
  | nil =>
    intro a b
    have e0 : cfF a b [] = some (a, b) := by rw [cfF]
    rw [List.nil_append, e0, Option.bind_some]
    by_cases h1 : inB (q * a) = false
    · rw [cfF, cfS, if_pos h1, if_pos h1]
    · by_cases h2 : inB (q * a + b) = false
      · rw [cfF, cfS, if_neg h1, if_neg h1, if_pos h2, if_pos h2]
      · rw [cfF, cfS, if_neg h1, if_neg h1, if_neg h2, if_neg h2, cfF]
  | cons y L ih =>
    intro a b
    rw [List.cons_append, cfF, cfF]
    by_cases h1 : inB (y * a) = false
    · rw [if_pos h1, if_pos h1]; rfl
    · rw [if_neg h1, if_neg h1]
      by_cases h2 : inB (y * a + b) = false
      · rw [if_pos h2, if_pos h2]; rfl
      · rw [if_neg h2, if_neg h2]; exact ih _ _
theorem cfL_cons (q : Int) (L : List Int) (h : L ≠ []) : cfL (some (q :: L)) = (cfL (some L)).bind (cfS q) := by
  have hl : 0 < L.length := List.length_pos_iff.2 h
  unfold cfL
  rw [Option.bind_some, Option.bind_some, List.length_cons, show L.length + 1 - 1 = (L.length - 1) + 1 by omega, List.getD_cons_succ, List.take_succ_cons, List.reverse_cons, cfF_app]
theorem in_of {x y : Int} (h : inB y = true) (h0 : 0 ≤ x) (h1 : x ≤ y) : inB x = true := inb_le h0 h1 h
theorem sp_run (k : Nat) : ∀ n d m f : Int, 0 ≤ n → 0 < d → 0 ≤ f → n * f < m * d → (d + f).toNat < k → inB (spS k n d m f).1 = true → inB (spS k n d m f).2 = true →
    ∃ L, cfP k n d m f = some L ∧ cfL (some L) = some (spS k n d m f) := by
  induction k with
  | zero => intro n d m f _ _ _ _ h; omega
  | succ k ih =>
    intro n d m f pn pd pf lt hk
    have q0 : 0 ≤ n.fdiv d := Int.fdiv_nonneg pn (Int.le_of_lt pd)
    rw [spS, cfP]
    by_cases h : f = 0 ∨ (n.fdiv d + 1) * f < m
    · rw [if_pos h, if_pos h]
      intro h1 h2
      rw [if_neg (by rw [show inB (n.fdiv d + 1) = true from h1]; decide)]
      exact ⟨_, rfl, rfl⟩
    · rw [if_neg h, if_neg h]
      intro h1 h2
      obtain ⟨_, e, r0, r1, h5, h6, h3⟩ := sp_data pn pd pf lt h
      obtain ⟨x0, y0, _⟩ := sp_spec k f (m - n.fdiv d * f) d (n.fmod d) pf h5 r0 h3 (by omega)
      have I := ih f (m - n.fdiv d * f) d (n.fmod d) pf h5 r0 h3 (by omega)
      generalize spS k f (m - n.fdiv d * f) d (n.fmod d) = z at *
      generalize n.fdiv d = q at *
      have a1 : 0 ≤ q * z.1 := Int.mul_nonneg q0 (Int.le_of_lt x0)
      have a2 : q * 1 ≤ q * z.1 := Int.mul_le_mul_of_nonneg_left (by omega) q0
      have b1 : inB (q + 1) = true := in_of h1 (by omega) (by show _ ≤ q * z.1 + z.2; omega)
      obtain ⟨L, e1, e2⟩ := I h2 (in_of h1 (by omega) (by show _ ≤ q * z.1 + z.2; omega))
      have hne : L ≠ [] := (cfP_last _ _ _ _ _ _ e1).1
      rw [if_neg (by rw [b1]; decide), e1, Option.map_some]
      refine ⟨_, rfl, ?_⟩
      rw [cfL_cons _ _ hne, e2, Option.bind_some, cfS, if_neg (by rw [in_of h1 a1 (by show _ ≤ q * z.1 + z.2; omega)]; decide), if_neg (by rw [show inB (q * z.1 + z.2) = true from h1]; decide)]
/-- The simplest fraction: it is found if the bounds hold for the mean one. -/
theorem cf_spec (pn : 0 ≤ n) (pd : 0 < d) (pf : 0 ≤ f) (lt : n * f < m * d) (hb : inB (n + m) = true) (hb2 : inB (d + f) = true) : ∃ x y, cfQ n d m f = some (x, y) ∧ SpI n d m f x y ∧ x ≤ n + m ∧ y ≤ d + f := by
  have S := sp_spec ((d + f).toNat + 1) n d m f pn pd pf lt (by omega)
  have hm : 0 < m := by
    have : 0 < m * d := by have := Int.mul_nonneg pn pf; omega
    exact Int.pos_of_mul_pos_left this pd
  obtain ⟨k1, k2⟩ := S.least (n + m) (d + f) (by omega) (by grind) (by grind)
  have R := sp_run ((d + f).toNat + 1) n d m f pn pd pf lt (by omega) (in_of hb (Int.le_of_lt S.x0) k1) (in_of hb2 (Int.le_of_lt S.y0) k2)
  obtain ⟨L, e1, e2⟩ := R
  refine ⟨_, _, ?_, S, k1, k2⟩
  unfold cfQ
  rw [e1, e2]
end
structure SimI (p q r s x y : Int) : Prop where
  y0 : 0 < y
  lo : p * y < x * q
  hi : x * s < r * y
  cop : Int.gcd x y = 1
  bx : x.natAbs ≤ p.natAbs + r.natAbs
  bY : y ≤ q + s
  least : ∀ u v : Int, 0 < v → p * v < u * q → u * s < r * v → x.natAbs ≤ u.natAbs ∧ y ≤ v
theorem si_spec {p q r s : Int} (q0 : 0 < q) (s0 : 0 < s) (lt : p * s < r * q) (hb : inB ((p.natAbs : Int) + (r.natAbs : Int)) = true) (hb2 : inB (q + s) = true) : ∃ x y, siQ p q r s = some (x, y) ∧ SimI p q r s x y := by
  unfold siQ
  by_cases h1 : p < 0 ∧ 0 < r
  · rw [if_pos h1]
    exact ⟨0, 1, rfl, by decide, by rw [Int.mul_one, Int.zero_mul]; exact h1.1, by rw [Int.zero_mul, Int.mul_one]; exact h1.2, by decide, by simp, by omega, fun u v hv _ _ => ⟨by simp, by omega⟩⟩
  · rw [if_neg h1]
    by_cases h2 : p < 0
    · rw [if_pos h2]
      have hr : 0 ≤ -r := by omega
      have e1 : ((p.natAbs : Int) + (r.natAbs : Int)) = -r + -p := by omega
      rw [e1] at hb
      obtain ⟨x, y, e, S, kx, ky⟩ := cf_spec (n := -r) (d := s) (m := -p) (f := q) hr s0 (Int.le_of_lt q0) (turn_lt lt) hb (by rw [Int.add_comm]; exact hb2)
      rw [e, Option.map_some]
      have sx := S.x0
      refine ⟨-x, y, rfl, S.y0, ?_, ?_, ?_, by omega, by omega, ?_⟩
      · have := S.hi; grind
      · have := S.lo; grind
      · rw [Int.neg_gcd]; exact S.cop
      · intro u v hv a1 a2
        obtain ⟨b1, b2⟩ := S.least (-u) v hv (by grind) (by grind)
        exact ⟨by omega, b2⟩
    · rw [if_neg h2]
      have h3 : 0 ≤ p := by omega
      have h4 : 0 < r := by
        have : 0 ≤ p * s := Int.mul_nonneg h3 (Int.le_of_lt s0)
        have : 0 < r * q := by omega
        exact Int.pos_of_mul_pos_left this q0
      have e1 : ((p.natAbs : Int) + (r.natAbs : Int)) = p + r := by omega
      rw [e1] at hb
      obtain ⟨x, y, e, S, kx, ky⟩ := cf_spec (n := p) (d := q) (m := r) (f := s) h3 q0 (Int.le_of_lt s0) lt hb hb2
      have sx := S.x0
      rw [e]
      refine ⟨x, y, rfl, S.y0, S.lo, S.hi, S.cop, by omega, by omega, ?_⟩
      intro u v hv a1 a2
      obtain ⟨b1, b2⟩ := S.least u v hv a1 a2
      exact ⟨by omega, b2⟩
/-- The other way round. -/
theorem si_turn {p q r s : Int} (lt : p * s < r * q) (q0 : 0 < q) (s0 : 0 < s) : siQ (-r) s (-p) q = (siQ p q r s).map fun x => (-x.1, x.2) := by
  unfold siQ
  by_cases h1 : p < 0 ∧ 0 < r
  · rw [if_pos h1, if_pos (by omega)]; rfl
  · rw [if_neg h1, if_neg (by omega)]
    by_cases h2 : p < 0
    · rw [if_pos h2, if_neg (by omega)]
      generalize cfQ (-r) s (-p) q = R
      cases R with
      | none => rfl
      | some x => simp
    · have h3 : 0 ≤ p := by omega
      have h4 : 0 < r := by
        have : 0 ≤ p * s := Int.mul_nonneg h3 (Int.le_of_lt s0)
        have : 0 < r * q := by omega
        exact Int.pos_of_mul_pos_left this q0
      rw [if_neg h2, if_pos (by omega), Int.neg_neg, Int.neg_neg]
end Go.VL

/- Plain laws of rationals: the simplest number between two. No program. -/
set_option linter.unusedVariables false
set_option exponentiation.threshold 5000
namespace Go.VL
section
variable {a b : Rat}
theorem neg_nu (x : Rat) : nu (-x) = -nu x := rfl
theorem neg_de (x : Rat) : de (-x) = de x := rfl
theorem lt_nd {x y : Rat} : x < y ↔ nu x * de y < nu y * de x := Rat.lt_iff x y
theorem sum_bd {k : Nat} {z w : Int} (h1 : bdZ k z) (h2 : bdZ k w) : bdZ (k + 1) ((z.natAbs : Int) + (w.natAbs : Int)) := by
  unfold bdZ at *
  rw [Nat.pow_succ]; omega
theorem sim_rat {k : Nat} (ba : bdR k a) (bb : bdR k b) (lt : a < b) (hk : k + 1 ≤ 4096) : ∃ t : Rat, bdR (k + 1) t ∧ a < t ∧ t < b ∧ (∀ h : Rat, a < h → h < b → de t ≤ de h) ∧
    siR (nu a) (de a) (nu b) (de b) = .tup [qR t, numB .i64 0] ∧ siR (nu (-b)) (de (-b)) (nu (-a)) (de (-a)) = .tup [qR (-t), numB .i64 0] := by
  have q0 := de_pos a
  have s0 := de_pos b
  have l0 := lt_nd.1 lt
  have c1 := sum_bd ba.1 bb.1
  have c2 : bdZ (k + 1) (de a + de b) := bdZ_add ba.2 bb.2
  obtain ⟨x, y, e, S⟩ := si_spec q0 s0 l0 (bdZ_in c1 hk) (bdZ_in c2 hk)
  have dx : bdZ (k + 1) x := by
    have := S.bx
    unfold bdZ at *
    omega
  have dy : bdZ (k + 1) y := by
    have h1 := S.bY
    have h2 := S.y0
    unfold bdZ at *
    omega
  obtain ⟨t, e1, e2⟩ := as_rat (p := x) (q := y) ⟨S.y0, S.cop, bdZ_in dx hk, bdZ_in dy hk⟩
  subst e1; subst e2
  refine ⟨t, ⟨dx, dy⟩, lt_nd.2 S.lo, lt_nd.2 S.hi, fun h h1 h2 => (S.least (nu h) (de h) (de_pos h) (lt_nd.1 h1) (lt_nd.1 h2)).2, ?_, ?_⟩
  · rw [siR, if_pos l0, e]; rfl
  · rw [neg_nu, neg_nu, neg_de, neg_de, siR, if_pos (turn_lt l0), si_turn l0 q0 s0, e]; rfl
theorem half_lt (lt : a < b) : a < (a + b) / (2 : Rat) ∧ (a + b) / (2 : Rat) < b := by
  constructor <;> grind
end
end Go.VL

/- Walks over the Go functions, printed by a program of this session over the kit's print, and by hand. -/
set_option linter.unusedVariables false
set_option linter.unusedSimpArgs false
set_option maxRecDepth 100000
namespace Go.VL
open Go.Proofs
theorem g69 {z : Int} (hz : inB z = true) : VF Try.prog 69 [.agg [boolB (zN (z)), u32S (zL (z))]] (iB (-z)) := by
  refine VF_of P_mixed Try.func69 rfl rfl (by kernel_rfl) <| Sq <| Rg <| Vs (Bx 0 rfl) <| Vs (Al 1 TZ24 rfl) <| Nx <| Sq <| Sq <| Rg <| Vs (LdS TA24 TS24 rfl) <| Vs (Cf rfl rfl (g55 (z := z) inT) rfl) <| Nx <| Cd rfl (fun hc1 => ?_) (fun hc1 => ?_)
  · replace hc1 := of_decide_eq_true hc1
    exact Sq <| Rg <| Vs (LdS TA24 TS24 rfl) <| Vs (StS TS24 rfl) <| Nx <| Re <| Tr <| Fi (l := [.agg [boolB (zN (z)), u32S (zL (z))]]) (Rc (resVar_cell rfl rfl TA24 TS24 (Nat.le_of_ble_eq_true rfl) rfl) Rn) (retZ (by omega))
  · replace hc1 := of_decide_eq_false hc1
    exact Ks <| Tg <| Sq <| Rg <| Vs (Fa TF24_0 rfl) <| Vs (Ld TA4 rfl) <| Vs (Un rfl) <| Vs (Fa TF24_1 rfl) <| Vs (Ld TA22 rfl) <| Vs (Bd TQ24 rfl) <| Vs (StS TS24 rfl) <| Nx <| Re <| Fi (l := [.agg [boolB ((!zN (z))), u32S (zL (z))]]) (Rc (resVar_cell rfl rfl TA24 TS24 (Nat.le_of_ble_eq_true rfl) rfl) Rn) (negR (mt (by have := zL_nil hz; omega) hc1))
theorem g56 {x y : Int} (hx : inB x = true) (hy : inB y = true) (h0 : y ≠ 0) : VF Try.prog 56 [.agg [boolB (zN (x)), u32S (zL (x))], .agg [boolB (zN (y)), u32S (zL (y))]] (qB (rdN x y) (rdD x y)) := by
  have nx : inB (-x) = true := (in_neg x).trans hx
  have ny : inB (-y) = true := (in_neg y).trans hy
  have gi := rdG_in hx hy
  have gn := rdG_ne x h0
  refine VF_of P_mixed Try.func56 rfl rfl (by kernel_rfl) <| Sq <| Rg <| Vs (Bx 0 rfl) <| Vs (Bx 1 rfl) <| Vs (Al 2 TZ27 rfl) <| Nx <| Sq <| Rg <| Vs (LdS TA24 TS24 rfl) <| Vs (LdS TA24 TS24 rfl) <| Vs (C0 rfl rfl (d32 (x := x) (y := y) inT inT)) <| Vs (Mv rfl) <| Vs (Xt rfl) <| Vs (Xt rfl) <| Vs (Al 9 TZ24 rfl) <| Vs (StS TS24 rfl) <| Vs (As rfl) <| Nx <| Sq <| Sq <| Rg <| Vs (Fa TF24_0 rfl) <| Vs (Ld TA4 rfl) <| Nx <| Cd rfl (fun hc1 => ?_) (fun hc1 => ?_)
  · (try simp at hc1)
    have hy0 : y < 0 := zN_lt hc1
    exact Sq <| Rg <| Vs (LdS TA24 TS24 rfl) <| Vs (C0 rfl rfl (g69 (z := x) inT)) <| Vs (StS TS24 rfl) <| Nx <| Rg <| Vs (LdS TA24 TS24 rfl) <| Vs (C0 rfl rfl (g69 (z := y) inT)) <| Vs (StS TS24 rfl) <| Nx <| Sq <| Rg <| Vs (LdS TA24 TS24 rfl) <| Vs (LdS TA24 TS24 rfl) <| Vs (C0 rfl rfl (d19 (x := -(x)) (y := rdG (x) (y)) inT inT (by first | with_reducible assumption | omega))) <| Vs (Mv rfl) <| Vs (Xt rfl) <| Vs (Xt rfl) <| Vs (Xt rfl) <| Vs (Al 27 TZ24 rfl) <| Vs (Al 28 TZ24 rfl) <| Vs (StS TS24 rfl) <| Vs (StS TS24 rfl) <| Vs (As rfl) <| Nx <| Sq <| Rg <| Vs (LdS TA24 TS24 rfl) <| Vs (LdS TA24 TS24 rfl) <| Vs (C0 rfl rfl (d19 (x := -(y)) (y := rdG (x) (y)) inT inT (by first | with_reducible assumption | omega))) <| Vs (Mv rfl) <| Vs (Xt rfl) <| Vs (Xt rfl) <| Vs (Xt rfl) <| Vs (Al 39 TZ24 rfl) <| Vs (Al 40 TZ24 rfl) <| Vs (StS TS24 rfl) <| Vs (StS TS24 rfl) <| Vs (As rfl) <| Nx <| Sq <| Rg <| Vs (LdS TA24 TS24 rfl) <| Vs (LdS TA24 TS24 rfl) <| Vs (Bd TQ27 rfl) <| Vs (StS TS27 rfl) <| Nx <| Re <| Fi (l := [.agg [boolB (zN ((-(x)).fdiv (rdG (x) (y)))), u32S (zL ((-(x)).fdiv (rdG (x) (y)))), boolB (zN ((-(y)).fdiv (rdG (x) (y)))), u32S (zL ((-(y)).fdiv (rdG (x) (y))))]]) (Rc (resVar_cell rfl rfl TA27 TS27 (Nat.le_of_ble_eq_true rfl) rfl) Rn) (rdR1 hy0)
  · (try simp at hc1)
    have hy0 : ¬ y < 0 := zN_ge hy hc1
    exact Ks <| Tg <| Sq <| Rg <| Vs (LdS TA24 TS24 rfl) <| Vs (LdS TA24 TS24 rfl) <| Vs (C0 rfl rfl (d19 (x := x) (y := rdG (x) (y)) inT inT (by first | with_reducible assumption | omega))) <| Vs (Mv rfl) <| Vs (Xt rfl) <| Vs (Xt rfl) <| Vs (Xt rfl) <| Vs (Al 21 TZ24 rfl) <| Vs (Al 22 TZ24 rfl) <| Vs (StS TS24 rfl) <| Vs (StS TS24 rfl) <| Vs (As rfl) <| Nx <| Sq <| Rg <| Vs (LdS TA24 TS24 rfl) <| Vs (LdS TA24 TS24 rfl) <| Vs (C0 rfl rfl (d19 (x := y) (y := rdG (x) (y)) inT inT (by first | with_reducible assumption | omega))) <| Vs (Mv rfl) <| Vs (Xt rfl) <| Vs (Xt rfl) <| Vs (Xt rfl) <| Vs (Al 33 TZ24 rfl) <| Vs (Al 34 TZ24 rfl) <| Vs (StS TS24 rfl) <| Vs (StS TS24 rfl) <| Vs (As rfl) <| Nx <| Sq <| Rg <| Vs (LdS TA24 TS24 rfl) <| Vs (LdS TA24 TS24 rfl) <| Vs (Bd TQ27 rfl) <| Vs (StS TS27 rfl) <| Nx <| Re <| Fi (l := [.agg [boolB (zN ((x).fdiv (rdG (x) (y)))), u32S (zL ((x).fdiv (rdG (x) (y)))), boolB (zN ((y).fdiv (rdG (x) (y)))), u32S (zL ((y).fdiv (rdG (x) (y))))]]) (Rc (resVar_cell rfl rfl TA27 TS27 (Nat.le_of_ble_eq_true rfl) rfl) Rn) (rdR3 hy0)
theorem g17i (n : Bool) (A : List Int) (m : Bool) (D : List Int) (hA : A.length ≤ 9223372036854775807) (hD : D.length ≤ 9223372036854775807) (h : (validB n A && validB m D) = false) : VF Try.prog 17 [.agg [boolB (n), u32S (A)], .agg [boolB (m), u32S (D)]] (rR 0 0 1) := by
  refine VF_of P_mixed Try.func17 rfl rfl (by kernel_rfl) <| Sq <| Rg <| Vs (Bx 0 rfl) <| Vs (Bx 1 rfl) <| Vs (Al 2 TZ27 rfl) <| Vs (As rfl) <| Nx <| Sq <| Rg <| Vs (LdS TA24 TS24 rfl) <| Vs (Cf rfl rfl (f26 n A hA) rfl) <| Vs (As rfl) <| Nx <| Sq <| Rg <| Vs (LdS TA24 TS24 rfl) <| Vs (Cf rfl rfl (f26 m D hD) rfl) <| Vs (As rfl) <| Nx <| Sq <| Sq <| Rg <| Vs (Mv rfl) <| Vs (Un rfl) <| Vs (Mv rfl) <| Sp 14 rfl (fun hc1 => ?_) (fun hc1 => ?_)
  · replace hc1 := (bnot_t hc1)
    exact Sk rfl <| Sk rfl <| Vs (Pk rfl) <| Nx <| Cy rfl <| Sq <| Rg <| Vs (Bd TQ27 rfl) <| Vs (StS TS27 rfl) <| Vs (As rfl) <| Nx <| Re <| Tr <| Fi (l := [.agg [boolB (false), u32S ([]), boolB (false), u32S ([])], numB .i64 (1)]) (Rc (resVar_cell rfl rfl TA27 TS27 (Nat.le_of_ble_eq_true rfl) rfl) (Rc (resVar_tmp rfl rfl) Rn)) (by rw [rR, qB_zero]; rfl)
  · replace hc1 := (bnot_f hc1)
    refine Vs (Mv rfl) <| Vs (Un rfl) <| Vs (Pk rfl) <| Nx <| Cd rfl (fun hc2 => ?_) (fun hc2 => ?_)
    · replace hc2 := (bnot_t hc2)
      exact Sq <| Rg <| Vs (Bd TQ27 rfl) <| Vs (StS TS27 rfl) <| Vs (As rfl) <| Nx <| Re <| Tr <| Fi (l := [.agg [boolB (false), u32S ([]), boolB (false), u32S ([])], numB .i64 (1)]) (Rc (resVar_cell rfl rfl TA27 TS27 (Nat.le_of_ble_eq_true rfl) rfl) (Rc (resVar_tmp rfl rfl) Rn)) (by rw [rR, qB_zero]; rfl)
    · replace hc2 := (bnot_f hc2)
      simp [hc1, hc2] at h
theorem g17 {x y : Int} (hx : inB x = true) (hy : inB y = true) : VF Try.prog 17 [.agg [boolB (zN (x)), u32S (zL (x))], .agg [boolB (zN (y)), u32S (zL (y))]] (rR (mkN x y) (mkD x y) (mkE y)) := by
  refine VF_of P_mixed Try.func17 rfl rfl (by kernel_rfl) <| Sq <| Rg <| Vs (Bx 0 rfl) <| Vs (Bx 1 rfl) <| Vs (Al 2 TZ27 rfl) <| Vs (As rfl) <| Nx <| Sq <| Rg <| Vs (LdS TA24 TS24 rfl) <| Vs (Cf rfl rfl (d26 (x)) rfl) <| Vs (As rfl) <| Nx <| Sq <| Rg <| Vs (LdS TA24 TS24 rfl) <| Vs (Cf rfl rfl (d26 (y)) rfl) <| Vs (As rfl) <| Nx <| Sq <| Sq <| Rg <| Vs (Mv rfl) <| Vs (Un rfl) <| Vs (Mv rfl) <| Vs (Mv rfl) <| Vs (Un rfl) <| Vs (Pk rfl) <| Nx <| Cz rfl <| Ks <| Tg <| Sq <| Sq <| Rg <| Vs (LdS TA24 TS24 rfl) <| Vs (Cf rfl rfl (g55 (z := y) inT) rfl) <| Nx <| Cd rfl (fun hc1 => ?_) (fun hc1 => ?_)
  · replace hc1 := of_decide_eq_true hc1
    exact Sq <| Rg <| Vs (Bd TQ27 rfl) <| Vs (StS TS27 rfl) <| Vs (As rfl) <| Nx <| Re <| Tr <| Fi (l := [.agg [boolB (false), u32S ([]), boolB (false), u32S ([])], numB .i64 (4)]) (Rc (resVar_cell rfl rfl TA27 TS27 (Nat.le_of_ble_eq_true rfl) rfl) (Rc (resVar_tmp rfl rfl) Rn)) (mkR0 hc1)
  · replace hc1 := of_decide_eq_false hc1
    exact Ks <| Tg <| Sq <| Rg <| Vs (LdS TA24 TS24 rfl) <| Vs (LdS TA24 TS24 rfl) <| Vs (C0 rfl rfl (g56 (x := x) (y := y) inT inT (by first | with_reducible assumption | omega))) <| Vs (StS TS27 rfl) <| Vs (As rfl) <| Nx <| Re <| Fi (l := [.agg [boolB (zN (rdN (x) (y))), u32S (zL (rdN (x) (y))), boolB (zN (rdD (x) (y))), u32S (zL (rdD (x) (y)))], numB .i64 (0)]) (Rc (resVar_cell rfl rfl TA27 TS27 (Nat.le_of_ble_eq_true rfl) rfl) (Rc (resVar_tmp rfl rfl) Rn)) (mkR1 hc1)
theorem g19 {k d : Int} (k0 : -9223372036854775808 ≤ k) (k1 : k ≤ 9223372036854775807) (d0 : -9223372036854775808 ≤ d) (d1 : d ≤ 9223372036854775807) : VF Try.prog 19 [numB .i64 (k), numB .i64 (d)] (rR (mkN k d) (mkD k d) (mkE d)) := by
  have i1 := in_i64 k0 k1
  have i2 := in_i64 d0 d1
  exact VF_of P_mixed Try.func19 rfl rfl (by kernel_rfl) <| Sq <| Rg <| Vs (Al 0 TZ27 rfl) <| Vs (As rfl) <| Nx <| Sq <| Rg <| Vs (Mv rfl) <| Vs (C0 rfl rfl (d37 (n := k) (by first | omega | assumption | (simp; done) | (simp; omega)) (by first | omega | assumption | (simp; done) | (simp; omega)))) <| Vs (Mv rfl) <| Vs (C0 rfl rfl (d37 (n := d) (by first | omega | assumption | (simp; done) | (simp; omega)) (by first | omega | assumption | (simp; done) | (simp; omega)))) <| Vs (C0 rfl rfl (g17 (x := k) (y := d) inT inT)) <| Vs (Xt rfl) <| Vs (Xt rfl) <| Vs (StS TS27 rfl) <| Vs (As rfl) <| Nx <| Re <| Fi (l := [.agg [boolB (zN (mkN (k) (d))), u32S (zL (mkN (k) (d))), boolB (zN (mkD (k) (d))), u32S (zL (mkD (k) (d)))], numB .i64 (mkE (d))]) (Rc (resVar_cell rfl rfl TA27 TS27 (Nat.le_of_ble_eq_true rfl) rfl) (Rc (resVar_tmp rfl rfl) Rn)) rfl
end Go.VL

/- Walks over the Go functions, printed by a program of this session over the kit's print, and by hand. -/
set_option linter.unusedVariables false
set_option linter.unusedSimpArgs false
set_option maxRecDepth 100000
namespace Go.VL
open Go.Proofs
theorem g37i (n : Bool) (A : List Int) (m : Bool) (D : List Int) (hA : A.length ≤ 9223372036854775807) (hD : D.length ≤ 9223372036854775807) (oA : ok32 A) (oD : ok32 D) (h : vR n A m D = false) : VF Try.prog 37 [.agg [boolB (n), u32S (A), boolB (m), u32S (D)]] (numB .i64 0) := by
  exact VF_of P_mixed Try.func37 rfl rfl (by kernel_rfl) <| Sq <| Rg <| Vs (Bx 0 rfl) <| Vs (As rfl) <| Nx <| Sq <| Rg <| Vs (LdS TA27 TS27 rfl) <| Vs (Kb (show vR n A m D = false from h) (Cf rfl rfl (g21 n A m D hA hD oA oD) rfl)) <| Vs (As rfl) <| Nx <| Sq <| Sq <| Rg <| Vs (Mv rfl) <| Vs (Un rfl) <| Vs (Mv rfl) <| Sk rfl <| Sk rfl <| Sk rfl <| Vs (Pk rfl) <| Nx <| Cy rfl <| Sq <| Rg <| Vs (As rfl) <| Nx <| Re <| Tr <| Fi (l := [numB .i64 (0)]) (Rc (resVar_tmp rfl rfl) Rn) rfl
theorem g37 {p q : Int} (ha : okR p q) : VF Try.prog 37 [.agg [boolB (zN (p)), u32S (zL (p)), boolB (zN (q)), u32S (zL (q))]] (numB .i64 (cmp3 p 0)) := by
  obtain ⟨q0, g0, hp, hq⟩ := ha
  refine VF_of P_mixed Try.func37 rfl rfl (by kernel_rfl) <| Sq <| Rg <| Vs (Bx 0 rfl) <| Vs (As rfl) <| Nx <| Sq <| Rg <| Vs (LdS TA27 TS27 rfl) <| Vs (Cf rfl rfl (g21q ⟨q0, g0, hp, hq⟩) rfl) <| Vs (As rfl) <| Nx <| Sq <| Sq <| Rg <| Vs (Mv rfl) <| Vs (Un rfl) <| Vs (Mv rfl) <| Vs (Fa TF27_0 rfl) <| Vs (LdS TA24 TS24 rfl) <| Vs (Cf rfl rfl (g55 (z := p) inT) rfl) <| Vs (Pk rfl) <| Nx <| Cd rfl (fun hc1 => ?_) (fun hc1 => ?_)
  · replace hc1 := of_decide_eq_true hc1
    exact Sq <| Rg <| Vs (As rfl) <| Nx <| Re <| Tr <| Fi (l := [numB .i64 (0)]) (Rc (resVar_tmp rfl rfl) Rn) (sgn_zero hc1)
  · replace hc1 := of_decide_eq_false hc1
    refine Ks <| Tg <| Sq <| Sq <| Rg <| Vs (Fa TF27_0 rfl) <| Vs (Fa TF24_0 rfl) <| Vs (Ld TA4 rfl) <| Nx <| Cd rfl (fun hc2 => ?_) (fun hc2 => ?_)
    · replace hc2 := hc2
      exact Sq <| Rg <| Vs (As rfl) <| Nx <| Re <| Tr <| Fi (l := [numB .i64 ((-1))]) (Rc (resVar_tmp rfl rfl) Rn) (sgn_neg hc2)
    · replace hc2 := hc2
      exact Ks <| Tg <| Sq <| Rg <| Vs (As rfl) <| Nx <| Re <| Fi (l := [numB .i64 (1)]) (Rc (resVar_tmp rfl rfl) Rn) (sgn_pos hp hc1 hc2)
theorem g67 {p q r s : Int} (hp : inB p = true) (hq : inB q = true) (hr : inB r = true) (hs : inB s = true) (q0 : 0 < q) (s0 : 0 < s) : VF Try.prog 67 [.agg [boolB (zN (p)), u32S (zL (p))], .agg [boolB (zN (q)), u32S (zL (q))], .agg [boolB (zN (r)), u32S (zL (r))], .agg [boolB (zN (s)), u32S (zL (s))]] (numB .i64 (cmp3 (p * s) (r * q))) := by
  refine VF_of P_mixed Try.func67 rfl rfl (by kernel_rfl) <| Sq <| Rg <| Vs (Bx 0 rfl) <| Vs (Bx 1 rfl) <| Vs (Bx 2 rfl) <| Vs (Bx 3 rfl) <| Vs (As rfl) <| Nx <| Bk <| VCode.loop (α := (Int) × (Int) × (Int) × (Int)) (fun x_ => match x_ with | (n, d, m, f) => (4, sl [(4, .ptr 0 (0)), (5, .ptr 1 (0)), (6, .ptr 2 (0)), (7, .ptr 3 (0))], en [(0, ⟨2, [vB (zN (n)), vS (zL (n))], true⟩), (1, ⟨2, [vB (zN (d)), vS (zL (d))], true⟩), (2, ⟨2, [vB (zN (m)), vS (zL (m))], true⟩), (3, ⟨2, [vB (zN (f)), vS (zL (f))], true⟩)])) (fun x_ => match x_ with | (n, d, m, f) => CmpI (cmp3 (p * s) (r * q)) n d m f 1) (fun x_ => match x_ with | (n, d, m, f) => (d + f).toNat) (p, q, r, s) (CmpI.start q0 s0 hp hq hr hs rfl) Wk ?_
  rintro ⟨n, d, m, f⟩ hok
  obtain ⟨in1, in2, in3, in4⟩ := hok.i
  have m1 := fmod_in' in1 in2 hok.pd
  have m2 := fmod_in' in3 in4 hok.pf
  have k1 := fdiv_in in1 (Int.ne_of_gt hok.pd)
  have k2 := fdiv_in in3 (Int.ne_of_gt hok.pf)
  have z1 := hok.pd
  have z2 := hok.pf
  have z3 := (fm_range (n := n) hok.pd).2
  have z4 := (fm_range (n := n) hok.pd).1
  have z6 := (fm_range (n := m) hok.pf).2
  have z7 := (fm_range (n := m) hok.pf).1
  change VCode _ _ _ 4 (sl _) (en _) _
  refine Bk <| Sq <| Rg <| Vs (LdS TA24 TS24 rfl) <| Vs (LdS TA24 TS24 rfl) <| Vs (C0 rfl rfl (d19 (x := n) (y := d) inT inT (by first | with_reducible assumption | omega))) <| Vs (Mv rfl) <| Vs (Xt rfl) <| Vs (Xt rfl) <| Vs (Xt rfl) <| Vs (Al 11 TZ24 rfl) <| Vs (Al 12 TZ24 rfl) <| Vs (StS TS24 rfl) <| Vs (StS TS24 rfl) <| Vs (As rfl) <| Nx <| Sq <| Rg <| Vs (LdS TA24 TS24 rfl) <| Vs (LdS TA24 TS24 rfl) <| Vs (C0 rfl rfl (d19 (x := m) (y := f) inT inT (by first | with_reducible assumption | omega))) <| Vs (Mv rfl) <| Vs (Xt rfl) <| Vs (Xt rfl) <| Vs (Xt rfl) <| Vs (Al 23 TZ24 rfl) <| Vs (Al 24 TZ24 rfl) <| Vs (StS TS24 rfl) <| Vs (StS TS24 rfl) <| Vs (As rfl) <| Nx <| Sq <| Rg <| Vs (LdS TA24 TS24 rfl) <| Vs (LdS TA24 TS24 rfl) <| Vs (C0 rfl rfl (d34 (x := (n).fdiv (d)) (y := (m).fdiv (f)) inT inT)) <| Vs (Mv rfl) <| Vs (Xt rfl) <| Vs (Xt rfl) <| Vs (As rfl) <| Vs (As rfl) <| Nx <| Sq <| Sq <| Rg <| Vs (Mv rfl) <| Vs (Bi rfl) <| Nx <| Cd rfl (fun hc1 => ?_) (fun hc1 => ?_)
  · replace hc1 := bne_iff_ne.1 hc1
    exact Sq <| Rg <| Vs (Mv rfl) <| Vs (As rfl) <| Nx <| Re <| Tr <| Iq <| Or <| Iq <| Fi (l := [numB .i64 (cmp3 ((n).fdiv (d)) ((m).fdiv (f)))]) (Rc (resVar_tmp rfl rfl) Rn) (by rw [← hok.part hc1, Int.one_mul]; rfl)
  · replace hc1 := bne_eq_false_iff_eq.1 hc1
    refine Ks <| Tg <| Sq <| Sq <| Rg <| Vs (LdS TA24 TS24 rfl) <| Vs (Cf rfl rfl (g55 (z := (n).fmod (d)) inT) rfl) <| Vs (Mv rfl) <| Sp 42 rfl (fun hc2 => ?_) (fun hc2 => ?_)
    · replace hc2 := of_decide_eq_true hc2
      refine Vs (LdS TA24 TS24 rfl) <| Vs (Cf rfl rfl (g55 (z := (m).fmod (f)) inT) rfl) <| Vs (Pk rfl) <| Nx <| Cd rfl (fun hc3 => ?_) (fun hc3 => ?_)
      · replace hc3 := of_decide_eq_true hc3
        exact Sq <| Rg <| Vs (As rfl) <| Nx <| Re <| Tr <| Iq <| Or <| Iq <| Fi (l := [numB .i64 (0)]) (Rc (resVar_tmp rfl rfl) Rn) (congrArg (numB .i64) (hok.both hc1 hc2 hc3).symm)
      · replace hc3 := of_decide_eq_false hc3
        refine Ks <| Tg <| Sq <| Sq <| Rg <| Vs (LdS TA24 TS24 rfl) <| Vs (Cf rfl rfl (g55 (z := (n).fmod (d)) inT) rfl) <| Nx <| Cd rfl (fun hc4 => ?_) (fun hc4 => ?_)
        · replace hc4 := of_decide_eq_true hc4
          exact Sq <| Rg <| Vs (As rfl) <| Nx <| Re <| Tr <| Iq <| Or <| Iq <| Fi (l := [numB .i64 ((-1))]) (Rc (resVar_tmp rfl rfl) Rn) (congrArg (numB .i64) (hok.left hc1 hc2 hc3).symm)
        · replace hc4 := of_decide_eq_false hc4
          exact absurd hc2 hc4
    · replace hc2 := of_decide_eq_false hc2
      refine Sk rfl <| Sk rfl <| Vs (Pk rfl) <| Nx <| Cz rfl <| Ks <| Tg <| Sq <| Sq <| Rg <| Vs (LdS TA24 TS24 rfl) <| Vs (Cf rfl rfl (g55 (z := (n).fmod (d)) inT) rfl) <| Nx <| Cd rfl (fun hc5 => ?_) (fun hc5 => ?_)
      · replace hc5 := of_decide_eq_true hc5
        exact absurd hc5 hc2
      · replace hc5 := of_decide_eq_false hc5
        refine Ks <| Tg <| Sq <| Sq <| Rg <| Vs (LdS TA24 TS24 rfl) <| Vs (Cf rfl rfl (g55 (z := (m).fmod (f)) inT) rfl) <| Nx <| Cd rfl (fun hc6 => ?_) (fun hc6 => ?_)
        · replace hc6 := of_decide_eq_true hc6
          exact Sq <| Rg <| Vs (As rfl) <| Nx <| Re <| Tr <| Iq <| Or <| Iq <| Fi (l := [numB .i64 (1)]) (Rc (resVar_tmp rfl rfl) Rn) (congrArg (numB .i64) (hok.right hc1 hc2 hc6).symm)
        · replace hc6 := of_decide_eq_false hc6
          refine Ks <| Tg <| Rd (by kernel_rfl) <| Vl (LdS TA24 TS24 rfl) <| Vl (LdS TA24 TS24 rfl) <| Vl (LdS TA24 TS24 rfl) <| Vl (LdS TA24 TS24 rfl) <| Vl (StS TS24 rfl) <| Vl (StS TS24 rfl) <| Vl (StS TS24 rfl) <| Vl (StS TS24 rfl) <| ?_
          refine VLog.nil ⟨by kernel_rfl, ?_⟩
          exact Ig <| Go (f, m.fmod f, d, n.fmod d) (hok.swap hc1 hc2 hc6) Wk
theorem g66 (n : Bool) (A : List Int) (m : Bool) (D : List Int) (n2 : Bool) (A2 : List Int) (m2 : Bool) (D2 : List Int) (hA : A.length ≤ 9223372036854775807) (hD : D.length ≤ 9223372036854775807) (hA2 : A2.length ≤ 9223372036854775807) (hD2 : D2.length ≤ 9223372036854775807) (oA : ok32 A) (oD : ok32 D) (oA2 : ok32 A2) (oD2 : ok32 D2) : VF Try.prog 66 [.agg [boolB (n), u32S (A), boolB (m), u32S (D)], .agg [boolB (n2), u32S (A2), boolB (m2), u32S (D2)]] (boolB (vR n A m D && vR n2 A2 m2 D2)) := by
  refine VF_of P_mixed Try.func66 rfl rfl (by kernel_rfl) <| Sq <| Rg <| Vs (Bx 0 rfl) <| Vs (Bx 1 rfl) <| Vs (As rfl) <| Nx <| Sq <| Rg <| Vs (LdS TA27 TS27 rfl) <| Vs (Cf rfl rfl (g21 n A m D hA hD oA oD) rfl) <| Vs (As rfl) <| Nx <| Sq <| Rg <| Vs (LdS TA27 TS27 rfl) <| Vs (Cf rfl rfl (g21 n2 A2 m2 D2 hA2 hD2 oA2 oD2) rfl) <| Vs (As rfl) <| Nx <| Sq <| Rg <| Vs (Mv rfl) <| Vs (Mv rfl) <| Sp 12 rfl (fun hc1 => ?_) (fun hc1 => ?_)
  · replace hc1 := hc1
    exact Vs (Mv rfl) <| Vs (Pk rfl) <| Vs (As rfl) <| Nx <| Re <| Fi (l := [boolB (vR n2 A2 m2 D2)]) (Rc (resVar_tmp rfl rfl) Rn) (by rw [hc1]; rfl)
  · replace hc1 := hc1
    exact Sk rfl <| Vs (Pk rfl) <| Vs (As rfl) <| Nx <| Re <| Fi (l := [boolB (false)]) (Rc (resVar_tmp rfl rfl) Rn) (by rw [hc1]; rfl)
theorem g66q {p q r s : Int} (ha : okR p q) (hb : okR r s) : VF Try.prog 66 [qB p q, qB r s] (boolB true) := by
  have := g66 (zN p) (zL p) (zN q) (zL q) (zN r) (zL r) (zN s) (zL s) (len_zL' _) (len_zL' _) (len_zL' _) (len_zL' _) (ok32_zL _) (ok32_zL _) (ok32_zL _) (ok32_zL _)
  rw [vR_ok ha, vR_ok hb] at this
  exact this
theorem g31i (n : Bool) (A : List Int) (m : Bool) (D : List Int) (n2 : Bool) (A2 : List Int) (m2 : Bool) (D2 : List Int) (hA : A.length ≤ 9223372036854775807) (hD : D.length ≤ 9223372036854775807) (hA2 : A2.length ≤ 9223372036854775807) (hD2 : D2.length ≤ 9223372036854775807) (oA : ok32 A) (oD : ok32 D) (oA2 : ok32 A2) (oD2 : ok32 D2) (h : (vR n A m D && vR n2 A2 m2 D2) = false) : VF Try.prog 31 [.agg [boolB (n), u32S (A), boolB (m), u32S (D)], .agg [boolB (n2), u32S (A2), boolB (m2), u32S (D2)]] (.tup [numB .i64 0, numB .i64 1]) := by
  exact VF_of P_mixed Try.func31 rfl rfl (by kernel_rfl) <| Sq <| Rg <| Vs (Bx 0 rfl) <| Vs (Bx 1 rfl) <| Vs (As rfl) <| Vs (As rfl) <| Nx <| Sq <| Sq <| Rg <| Vs (LdS TA27 TS27 rfl) <| Vs (LdS TA27 TS27 rfl) <| Vs (Kb (show (vR n A m D && vR n2 A2 m2 D2) = false from h) (Cf rfl rfl (g66 n A m D n2 A2 m2 D2 hA hD hA2 hD2 oA oD oA2 oD2) rfl)) <| Vs (Un rfl) <| Nx <| Cy rfl <| Sq <| Rg <| Vs (As rfl) <| Vs (As rfl) <| Nx <| Re <| Tr <| Fi (l := [numB .i64 (0), numB .i64 (1)]) (Rc (resVar_tmp rfl rfl) (Rc (resVar_tmp rfl rfl) Rn)) rfl
theorem g31 {p q r s : Int} (ha : okR p q) (hb : okR r s) : VF Try.prog 31 [.agg [boolB (zN (p)), u32S (zL (p)), boolB (zN (q)), u32S (zL (q))], .agg [boolB (zN (r)), u32S (zL (r)), boolB (zN (s)), u32S (zL (s))]] (.tup [numB .i64 (cmp3 (p * s) (r * q)), numB .i64 0]) := by
  obtain ⟨q0, g0, hp, hq⟩ := ha
  obtain ⟨s0, g1, hr, hs⟩ := hb
  exact VF_of P_mixed Try.func31 rfl rfl (by kernel_rfl) <| Sq <| Rg <| Vs (Bx 0 rfl) <| Vs (Bx 1 rfl) <| Vs (As rfl) <| Vs (As rfl) <| Nx <| Sq <| Sq <| Rg <| Vs (LdS TA27 TS27 rfl) <| Vs (LdS TA27 TS27 rfl) <| Vs (Cf rfl rfl (g66q ⟨q0, g0, hp, hq⟩ ⟨s0, g1, hr, hs⟩) rfl) <| Vs (Un rfl) <| Nx <| Cz rfl <| Ks <| Tg <| Sq <| Rg <| Vs (Fa TF27_0 rfl) <| Vs (LdS TA24 TS24 rfl) <| Vs (Fa TF27_1 rfl) <| Vs (LdS TA24 TS24 rfl) <| Vs (Fa TF27_0 rfl) <| Vs (LdS TA24 TS24 rfl) <| Vs (Fa TF27_1 rfl) <| Vs (LdS TA24 TS24 rfl) <| Vs (Cf rfl rfl (g67 (p := p) (q := q) (r := r) (s := s) inT inT inT inT (by first | omega | assumption | (simp; done) | (simp; omega)) (by first | omega | assumption | (simp; done) | (simp; omega))) rfl) <| Vs (As rfl) <| Vs (As rfl) <| Nx <| Re <| Fi (l := [numB .i64 (cmp3 ((p) * (s)) ((r) * (q))), numB .i64 (0)]) (Rc (resVar_tmp rfl rfl) (Rc (resVar_tmp rfl rfl) Rn)) rfl
theorem g33i (n : Bool) (A : List Int) (m : Bool) (D : List Int) (hA : A.length ≤ 9223372036854775807) (hD : D.length ≤ 9223372036854775807) (oA : ok32 A) (oD : ok32 D) (k : Int) (h : vR n A m D = false) : VF Try.prog 33 [.agg [boolB (n), u32S (A), boolB (m), u32S (D)], numB .i64 (k)] (.tup [intB false [], numB .i64 1]) := by
  exact VF_of P_mixed Try.func33 rfl rfl (by kernel_rfl) <| Sq <| Rg <| Vs (Bx 0 rfl) <| Vs (Al 1 TZ24 rfl) <| Vs (As rfl) <| Nx <| Sq <| Rg <| Vs (LdS TA27 TS27 rfl) <| Vs (Kb (show vR n A m D = false from h) (Cf rfl rfl (g21 n A m D hA hD oA oD) rfl)) <| Vs (As rfl) <| Nx <| Sq <| Sq <| Rg <| Vs (Mv rfl) <| Vs (Un rfl) <| Nx <| Cy rfl <| Sq <| Rg <| Vs (Bd TQ24 rfl) <| Vs (StS TS24 rfl) <| Vs (As rfl) <| Nx <| Re <| Tr <| Fi (l := [.agg [boolB (false), u32S ([])], numB .i64 (1)]) (Rc (resVar_cell rfl rfl TA24 TS24 (Nat.le_of_ble_eq_true rfl) rfl) (Rc (resVar_tmp rfl rfl) Rn)) rfl
theorem g33 {p q : Int} (ha : okR p q) {k : Int} (k0 : -9223372036854775808 ≤ k) (k1 : k ≤ 9223372036854775807) : VF Try.prog 33 [.agg [boolB (zN (p)), u32S (zL (p)), boolB (zN (q)), u32S (zL (q))], numB .i64 (k)] (zR (flZ p q k)) := by
  obtain ⟨q0, g0, hp, hq⟩ := ha
  have q1 : q ≠ 0 := Int.ne_of_gt q0
  have k2 := fdiv_in hp q1
  refine VF_of P_mixed Try.func33 rfl rfl (by kernel_rfl) <| Sq <| Rg <| Vs (Bx 0 rfl) <| Vs (Al 1 TZ24 rfl) <| Vs (As rfl) <| Nx <| Sq <| Rg <| Vs (LdS TA27 TS27 rfl) <| Vs (Cf rfl rfl (g21q ⟨q0, g0, hp, hq⟩) rfl) <| Vs (As rfl) <| Nx <| Sq <| Sq <| Rg <| Vs (Mv rfl) <| Vs (Un rfl) <| Nx <| Cz rfl <| Ks <| Tg <| Sq <| Rg <| Vs (Fa TF27_0 rfl) <| Vs (LdS TA24 TS24 rfl) <| Vs (Al 10 TZ24 rfl) <| Vs (StS TS24 rfl) <| Nx <| Sq <| Sq <| Rg <| Vs (Mv rfl) <| Vs (Bi rfl) <| Nx <| Cd rfl (fun hc1 => ?_) (fun hc1 => ?_)
  · replace hc1 := of_decide_eq_true hc1
    refine Sq <| Rg <| Vs (LdS TA24 TS24 rfl) <| Vs (Mv rfl) <| Vs (C0 rfl rfl (d46 (x := p) (y := k) inT (by first | omega | assumption | (simp; done) | (simp; omega)) (by first | omega | assumption | (simp; done) | (simp; omega)))) <| Vs (Mv rfl) <| Vs (Xt rfl) <| Vs (Xt rfl) <| Vs (Al 20 TZ24 rfl) <| Vs (StS TS24 rfl) <| Vs (As rfl) <| Nx <| Sq <| Sq <| Rg <| Vs (Mv rfl) <| Vs (Bi rfl) <| Nx <| Cd rfl (fun hc2 => ?_) (fun hc2 => ?_)
    · replace hc2 := bne_iff_ne.1 hc2
      exact Sq <| Rg <| Vs (Bd TQ24 rfl) <| Vs (Mv rfl) <| Vs (StS TS24 rfl) <| Vs (As rfl) <| Nx <| Re <| Tr <| Tr <| Fi (l := [.agg [boolB (false), u32S ([])], numB .i64 (zE (shZ (p) (k)))]) (Rc (resVar_cell rfl rfl TA24 TS24 (Nat.le_of_ble_eq_true rfl) rfl) (Rc (resVar_tmp rfl rfl) Rn)) (fl_out (by omega) hc2)
    · replace hc2 := bne_eq_false_iff_eq.1 hc2
      refine Ks <| Tg <| Rg <| Vs (LdS TA24 TS24 rfl) <| Vs (StS TS24 rfl) <| Nx <| Sq <| Rg <| Vs (LdS TA24 TS24 rfl) <| Vs (Fa TF27_1 rfl) <| Vs (LdS TA24 TS24 rfl) <| Vs (C0 rfl rfl (d19 (x := shZ (p) (k)) (y := q) (by first | with_reducible exact hp | with_reducible exact zE_in.1 hc2) inT (by first | with_reducible assumption | omega))) <| Vs (Mv rfl) <| Vs (Xt rfl) <| Vs (Xt rfl) <| Vs (Xt rfl) <| Vs (Al 35 TZ24 rfl) <| Vs (Al 36 TZ24 rfl) <| Vs (StS TS24 rfl) <| Vs (StS TS24 rfl) <| Vs (As rfl) <| Nx <| Sq <| Sq <| Rg <| Vs (Mv rfl) <| Vs (Bi rfl) <| Nx <| Cd rfl (fun hc3 => ?_) (fun hc3 => ?_)
      · replace hc3 := of_decide_eq_true hc3
        exact Sq <| Rg <| Vs (LdS TA24 TS24 rfl) <| Vs (StS TS24 rfl) <| Vs (As rfl) <| Nx <| Re <| Tr <| Fi (l := [.agg [boolB (zN ((shZ (p) (k)).fdiv (q))), u32S (zL ((shZ (p) (k)).fdiv (q)))], numB .i64 (0)]) (Rc (resVar_cell rfl rfl TA24 TS24 (Nat.le_of_ble_eq_true rfl) rfl) (Rc (resVar_tmp rfl rfl) Rn)) (fl_in (by omega) hc2 q1)
      · replace hc3 := of_decide_eq_false hc3
        omega
  · replace hc1 := of_decide_eq_false hc1
    refine Ks <| Tg <| Sq <| Rg <| Vs (LdS TA24 TS24 rfl) <| Vs (Fa TF27_1 rfl) <| Vs (LdS TA24 TS24 rfl) <| Vs (C0 rfl rfl (d19 (x := p) (y := q) (by first | with_reducible exact hp | with_reducible exact zE_in.1 hc2) inT (by first | with_reducible assumption | omega))) <| Vs (Mv rfl) <| Vs (Xt rfl) <| Vs (Xt rfl) <| Vs (Xt rfl) <| Vs (Al 22 TZ24 rfl) <| Vs (Al 23 TZ24 rfl) <| Vs (StS TS24 rfl) <| Vs (StS TS24 rfl) <| Vs (As rfl) <| Nx <| Sq <| Sq <| Rg <| Vs (Mv rfl) <| Vs (Bi rfl) <| Nx <| Cd rfl (fun hc4 => ?_) (fun hc4 => ?_)
    · replace hc4 := of_decide_eq_true hc4
      exact Sq <| Rg <| Vs (LdS TA24 TS24 rfl) <| Vs (StS TS24 rfl) <| Vs (As rfl) <| Nx <| Re <| Tr <| Fi (l := [.agg [boolB (zN ((p).fdiv (q))), u32S (zL ((p).fdiv (q)))], numB .i64 (0)]) (Rc (resVar_cell rfl rfl TA24 TS24 (Nat.le_of_ble_eq_true rfl) rfl) (Rc (resVar_tmp rfl rfl) Rn)) (fl_nil hc1 hc4 k2)
    · replace hc4 := of_decide_eq_false hc4
      exact Ks <| Tg <| Sq <| Rg <| Vs (LdS TA24 TS24 rfl) <| Vs (Mv rfl) <| Vs (C0 rfl rfl (d46 (x := (p).fdiv (q)) (y := k) inT (by first | omega | assumption | (simp; done) | (simp; omega)) (by first | omega | assumption | (simp; done) | (simp; omega)))) <| Vs (Xt rfl) <| Vs (Xt rfl) <| Vs (StS TS24 rfl) <| Vs (As rfl) <| Nx <| Re <| Fi (l := [.agg [boolB (zN (shZ ((p).fdiv (q)) (k))), u32S (zL (shZ ((p).fdiv (q)) (k)))], numB .i64 (zE (shZ ((p).fdiv (q)) (k)))]) (Rc (resVar_cell rfl rfl TA24 TS24 (Nat.le_of_ble_eq_true rfl) rfl) (Rc (resVar_tmp rfl rfl) Rn)) (fl_low (by omega))
theorem g35i (n : Bool) (A : List Int) (m : Bool) (D : List Int) (hA : A.length ≤ 9223372036854775807) (hD : D.length ≤ 9223372036854775807) (oA : ok32 A) (oD : ok32 D) (h : vR n A m D = false) : VF Try.prog 35 [.agg [boolB (n), u32S (A), boolB (m), u32S (D)]] (.tup [qB 0 0, boolB false, numB .i64 1]) := by
  exact VF_of P_mixed Try.func35 rfl rfl (by kernel_rfl) <| Sq <| Rg <| Vs (Bx 0 rfl) <| Vs (Al 1 TZ27 rfl) <| Vs (As rfl) <| Vs (As rfl) <| Nx <| Sq <| Rg <| Vs (LdS TA27 TS27 rfl) <| Vs (Kb (show vR n A m D = false from h) (Cf rfl rfl (g21 n A m D hA hD oA oD) rfl)) <| Vs (As rfl) <| Nx <| Sq <| Sq <| Rg <| Vs (Mv rfl) <| Vs (Un rfl) <| Nx <| Cy rfl <| Sq <| Rg <| Vs (Bd TQ27 rfl) <| Vs (StS TS27 rfl) <| Vs (As rfl) <| Vs (As rfl) <| Nx <| Re <| Tr <| Fi (l := [.agg [boolB (false), u32S ([]), boolB (false), u32S ([])], boolB (false), numB .i64 (1)]) (Rc (resVar_cell rfl rfl TA27 TS27 (Nat.le_of_ble_eq_true rfl) rfl) (Rc (resVar_tmp rfl rfl) (Rc (resVar_tmp rfl rfl) Rn))) (by rw [qB_zero]; rfl)
theorem g35 {p q : Int} (ha : okR p q) : VF Try.prog 35 [.agg [boolB (zN (p)), u32S (zL (p)), boolB (zN (q)), u32S (zL (q))]] (sqRR p q) := by
  obtain ⟨q0, g0, hp, hq⟩ := ha
  refine VF_of P_mixed Try.func35 rfl rfl (by kernel_rfl) <| Sq <| Rg <| Vs (Bx 0 rfl) <| Vs (Al 1 TZ27 rfl) <| Vs (As rfl) <| Vs (As rfl) <| Nx <| Sq <| Rg <| Vs (LdS TA27 TS27 rfl) <| Vs (Cf rfl rfl (g21q ⟨q0, g0, hp, hq⟩) rfl) <| Vs (As rfl) <| Nx <| Sq <| Sq <| Rg <| Vs (Mv rfl) <| Vs (Un rfl) <| Nx <| Cz rfl <| Ks <| Tg <| Sq <| Sq <| Rg <| Vs (Fa TF27_0 rfl) <| Vs (Fa TF24_0 rfl) <| Vs (Ld TA4 rfl) <| Nx <| Cd rfl (fun hc1 => ?_) (fun hc1 => ?_)
  · replace hc1 := hc1
    exact Sq <| Rg <| Vs (Bd TQ27 rfl) <| Vs (StS TS27 rfl) <| Vs (As rfl) <| Vs (As rfl) <| Nx <| Re <| Tr <| Fi (l := [.agg [boolB (false), u32S ([]), boolB (false), u32S ([])], boolB (false), numB .i64 (5)]) (Rc (resVar_cell rfl rfl TA27 TS27 (Nat.le_of_ble_eq_true rfl) rfl) (Rc (resVar_tmp rfl rfl) (Rc (resVar_tmp rfl rfl) Rn))) (sq_neg (by have := zN_lt hc1; omega))
  · replace hc1 := hc1
    refine Ks <| Tg <| Sq <| Rg <| Vs (Fa TF27_0 rfl) <| Vs (LdS TA24 TS24 rfl) <| Vs (C0 rfl rfl (d45 (x := p) inT (zero_le hp hc1))) <| Vs (Mv rfl) <| Vs (Xt rfl) <| Vs (Xt rfl) <| Vs (Xt rfl) <| Vs (Al 19 TZ24 rfl) <| Vs (StS TS24 rfl) <| Vs (As rfl) <| Vs (As rfl) <| Nx <| Sq <| Rg <| Vs (Fa TF27_1 rfl) <| Vs (LdS TA24 TS24 rfl) <| Vs (C0 rfl rfl (d45 (x := q) inT (Int.le_of_lt q0))) <| Vs (Mv rfl) <| Vs (Xt rfl) <| Vs (Xt rfl) <| Vs (Xt rfl) <| Vs (Al 30 TZ24 rfl) <| Vs (StS TS24 rfl) <| Vs (As rfl) <| Vs (As rfl) <| Nx <| Sq <| Sq <| Rg <| Vs (Mv rfl) <| Vs (Un rfl) <| Vs (Mv rfl) <| Sp 37 rfl (fun hc2 => ?_) (fun hc2 => ?_)
    · replace hc2 := of_decide_eq_false (bnot_t hc2)
      exact Sk rfl <| Sk rfl <| Vs (Pk rfl) <| Nx <| Cy rfl <| Sq <| Rg <| Vs (Bd TQ27 rfl) <| Vs (StS TS27 rfl) <| Vs (As rfl) <| Vs (As rfl) <| Nx <| Re <| Tr <| Fi (l := [.agg [boolB (false), u32S ([]), boolB (false), u32S ([])], boolB (false), numB .i64 (0)]) (Rc (resVar_cell rfl rfl TA27 TS27 (Nat.le_of_ble_eq_true rfl) rfl) (Rc (resVar_tmp rfl rfl) (Rc (resVar_tmp rfl rfl) Rn))) (sq_no (zero_le hp hc1) (fun h => hc2 h.1))
    · replace hc2 := of_decide_eq_true (bnot_f hc2)
      refine Vs (Mv rfl) <| Vs (Un rfl) <| Vs (Pk rfl) <| Nx <| Cd rfl (fun hc3 => ?_) (fun hc3 => ?_)
      · replace hc3 := of_decide_eq_false (bnot_t hc3)
        exact Sq <| Rg <| Vs (Bd TQ27 rfl) <| Vs (StS TS27 rfl) <| Vs (As rfl) <| Vs (As rfl) <| Nx <| Re <| Tr <| Fi (l := [.agg [boolB (false), u32S ([]), boolB (false), u32S ([])], boolB (false), numB .i64 (0)]) (Rc (resVar_cell rfl rfl TA27 TS27 (Nat.le_of_ble_eq_true rfl) rfl) (Rc (resVar_tmp rfl rfl) (Rc (resVar_tmp rfl rfl) Rn))) (sq_no (zero_le hp hc1) (fun h => hc3 h.2))
      · replace hc3 := of_decide_eq_true (bnot_f hc3)
        exact Ks <| Tg <| Sq <| Rg <| Vs (LdS TA24 TS24 rfl) <| Vs (LdS TA24 TS24 rfl) <| Vs (Bd TQ27 rfl) <| Vs (StS TS27 rfl) <| Vs (As rfl) <| Vs (As rfl) <| Nx <| Re <| Fi (l := [.agg [boolB (zN (isq (p))), u32S (zL (isq (p))), boolB (zN (isq (q))), u32S (zL (isq (q)))], boolB (true), numB .i64 (0)]) (Rc (resVar_cell rfl rfl TA27 TS27 (Nat.le_of_ble_eq_true rfl) rfl) (Rc (resVar_tmp rfl rfl) (Rc (resVar_tmp rfl rfl) Rn))) (sq_yes (zero_le hp hc1) hc2 hc3)
end Go.VL

/- Walks over the Go functions, printed by a program of this session over the kit's print, and by hand. -/
set_option linter.unusedVariables false
set_option linter.unusedSimpArgs false
set_option maxRecDepth 100000
namespace Go.VL
open Go.Proofs
section
variable {x y : Rat} {j k : Nat}
theorem x31 (hx : bdR j x) (hy : bdR k y) (h1 : j ≤ 4096 := by decide) (h2 : k ≤ 4096 := by decide) : VF Try.prog 31 [qR x, qR y] (.tup [numB .i64 (cmpR x y), numB .i64 0]) := by
  have e := g31 (okR_x hx h1) (okR_x hy h2)
  rw [cmp_rat] at e
  exact e
theorem x23 {a b t : Rat} (ha : bdR j a) (hb : bdR k b) (ht : siR (nu a) (de a) (nu b) (de b) = .tup [qR t, numB .i64 0]) (h1 : j ≤ 4096 := by decide) (h2 : k ≤ 4096 := by decide) : VF Try.prog 23 [qR a, qR b] (.tup [qR t, numB .i64 0]) := by
  have e := g23 (okR_x ha h1) (okR_x hb h2)
  rw [ht] at e
  exact e
end
theorem g13i (n : Bool) (A : List Int) (m : Bool) (D : List Int) (n2 : Bool) (A2 : List Int) (m2 : Bool) (D2 : List Int) (hv : VF Try.prog 29 [ratB n A m D, ratB n2 A2 m2 D2, ratB n2 A2 m2 D2, numB .i64 32] (boolB false)) : VF Try.prog 13 [.agg [boolB (n), u32S (A), boolB (m), u32S (D)], .agg [boolB (n2), u32S (A2), boolB (m2), u32S (D2)]] (boolB true) := by
  exact VF_of P_mixed Try.func13 rfl rfl (by kernel_rfl) <| Sq <| Rg <| Vs (Bx 0 rfl) <| Vs (Bx 1 rfl) <| Vs (As rfl) <| Nx <| Sq <| Rg <| Vs (Cf rfl rfl (g15) rfl) <| Vs (As rfl) <| Nx <| Sq <| Sq <| Rg <| Vs (LdS TA27 TS27 rfl) <| Vs (LdS TA27 TS27 rfl) <| Vs (LdS TA27 TS27 rfl) <| Vs (Cf rfl rfl (hv) rfl) <| Vs (Un rfl) <| Nx <| Cy rfl <| Sq <| Rg <| Vs (Mv rfl) <| Vs (As rfl) <| Nx <| Re <| Tr <| Fi (l := [boolB (true)]) (Rc (resVar_tmp rfl rfl) Rn) rfl
theorem g13v {a b : Rat} (ba : bdR 1024 a) (bb : bdR 1024 b) (hv : VF Try.prog 29 [qR a, qR b, qR b, numB .i64 32] (boolB true)) : VF Try.prog 13 [.agg [boolB (zN (nu (a))), u32S (zL (nu (a))), boolB (zN (de (a))), u32S (zL (de (a)))], .agg [boolB (zN (nu (b))), u32S (zL (nu (b))), boolB (zN (de (b))), u32S (zL (de (b)))]] (boolB true) := by
  refine VF_of P_mixed Try.func13 rfl rfl (by kernel_rfl) <| Sq <| Rg <| Vs (Bx 0 rfl) <| Vs (Bx 1 rfl) <| Vs (As rfl) <| Nx <| Sq <| Rg <| Vs (Cf rfl rfl (g15) rfl) <| Vs (As rfl) <| Nx <| Sq <| Sq <| Rg <| Vs (LdS TA27 TS27 rfl) <| Vs (LdS TA27 TS27 rfl) <| Vs (LdS TA27 TS27 rfl) <| Vs (Cf rfl rfl (hv) rfl) <| Vs (Un rfl) <| Nx <| Cz rfl <| Ks <| Tg <| Sq <| Rg <| Vs (LdS TA27 TS27 rfl) <| Vs (LdS TA27 TS27 rfl) <| Vs (Cf rfl rfl (x31 ba bb) rfl) <| Vs (Mv rfl) <| Vs (Xt rfl) <| Vs (Xt rfl) <| Vs (As rfl) <| Vs (As rfl) <| Nx <| Sq <| Sq <| Rg <| Vs (Mv rfl) <| Vs (Bi rfl) <| Nx <| Cd rfl (fun hc1 => ?_) (fun hc1 => ?_)
  · replace hc1 := of_decide_eq_true hc1
    exact Sq <| Rg <| Vs (Mv rfl) <| Vs (As rfl) <| Nx <| Re <| Tr <| Fi (l := [boolB (true)]) (Rc (resVar_tmp rfl rfl) Rn) rfl
  · replace hc1 := of_decide_eq_false hc1
    have lt : a < b := by have h9 := cmpR_lt (a := a) (b := b); have h8 := cmpR_rng a b; exact h9.1 (by omega)
    obtain ⟨t, bt, l1, l2, le, e1, e2⟩ := sim_rat ba bb lt (by decide)
    have z1 : (0 : Rat) - b = -b := by grind
    have z2 : (0 : Rat) - a = -a := by grind
    have bh := bdR_div (bdR_add ba bb) (bd_lit (x := (2 : Rat)) (by decide +kernel)) (by decide +kernel)
    have hh := half_lt lt
    refine Ks <| Tg <| Sq <| Rg <| Vs (C0 rfl rfl (x45 (0) (1) (z := (0 : Rat)) (by decide +kernel) (by decide) (by decide) (by decide))) <| Vs (Al 21 TZ27 rfl) <| Vs (StS TS27 rfl) <| Nx <| Sq <| Rg <| Vs (LdS TA27 TS27 rfl) <| Vs (LdS TA27 TS27 rfl) <| Vs (C0 rfl rfl (x23 ba bb (e1))) <| Vs (Mv rfl) <| Vs (Xt rfl) <| Vs (Xt rfl) <| Vs (Al 29 TZ27 rfl) <| Vs (StS TS27 rfl) <| Vs (As rfl) <| Nx <| Sq <| Rg <| Vs (LdS TA27 TS27 rfl) <| Vs (LdS TA27 TS27 rfl) <| Vs (C0 rfl rfl (x44 (bd_lit (x := (0 : Rat)) (by decide +kernel)) bb)) <| Vs (Mv rfl) <| Vs (Xt rfl) <| Vs (Xt rfl) <| Vs (Al 38 TZ27 rfl) <| Vs (StS TS27 rfl) <| Vs (As rfl) <| Nx <| Sq <| Rg <| Vs (LdS TA27 TS27 rfl) <| Vs (LdS TA27 TS27 rfl) <| Vs (C0 rfl rfl (x44 (bd_lit (x := (0 : Rat)) (by decide +kernel)) ba)) <| Vs (Mv rfl) <| Vs (Xt rfl) <| Vs (Xt rfl) <| Vs (Al 47 TZ27 rfl) <| Vs (StS TS27 rfl) <| Vs (As rfl) <| Nx <| Sq <| Rg <| Vs (LdS TA27 TS27 rfl) <| Vs (LdS TA27 TS27 rfl) <| Vs (C0 rfl rfl (x23 (bdR_sub (bd_lit (x := (0 : Rat)) (by decide +kernel)) bb) (bdR_sub (bd_lit (x := (0 : Rat)) (by decide +kernel)) ba) (by rw [z1, z2]; exact e2))) <| Vs (Mv rfl) <| Vs (Xt rfl) <| Vs (Xt rfl) <| Vs (Al 56 TZ27 rfl) <| Vs (StS TS27 rfl) <| Vs (As rfl) <| Nx <| Sq <| Rg <| Vs (LdS TA27 TS27 rfl) <| Vs (LdS TA27 TS27 rfl) <| Vs (C0 rfl rfl (x44 (bd_lit (x := (0 : Rat)) (by decide +kernel)) (bdR_neg bt))) <| Vs (Mv rfl) <| Vs (Xt rfl) <| Vs (Xt rfl) <| Vs (Al 65 TZ27 rfl) <| Vs (StS TS27 rfl) <| Vs (As rfl) <| Nx <| Sq <| Rg <| ?_
    refine Vs (LdS TA27 TS27 rfl) <| Vs (LdS TA27 TS27 rfl) <| Vs (C0 rfl rfl (x39 ba bb)) <| Vs (Mv rfl) <| Vs (Xt rfl) <| Vs (Xt rfl) <| Vs (Al 74 TZ27 rfl) <| Vs (StS TS27 rfl) <| Vs (As rfl) <| Nx <| Sq <| Rd (by kernel_rfl) <| Vl (LdS TA27 TS27 rfl) <| Vl (C0 rfl rfl (x45 (2) (1) (z := (2 : Rat)) (by decide +kernel) (by decide) (by decide) (by decide))) <| Vl (C0 rfl rfl (x46 (bdR_add ba bb) (bd_lit (x := (2 : Rat)) (by decide +kernel)) (by first | assumption | decide +kernel))) <| Vl (Mv rfl) <| Vl (Xt rfl) <| Vl (Xt rfl) <| Vl (Al 83 TZ27 rfl) <| Vl (StS TS27 rfl) <| Vl (As rfl) <| ?_
    refine VLog.nil ⟨by kernel_rfl, ?_⟩
    exact Tg <| Sq <| Sq <| Rg <| Vs (Mv rfl) <| Vs (Bi (c := .bool false) rfl) <| Vs (Mv rfl) <| Vs (Mv rfl) <| Vs (Bi (c := .bool false) rfl) <| Vs (Pk rfl) <| Vs (Mv rfl) <| Vs (Mv rfl) <| Vs (Bi (c := .bool false) rfl) <| Vs (Pk rfl) <| Vs (Mv rfl) <| Vs (Mv rfl) <| Vs (Bi (c := .bool false) rfl) <| Vs (Pk rfl) <| Vs (Mv rfl) <| Vs (Mv rfl) <| Vs (Bi (c := .bool false) rfl) <| Vs (Pk rfl) <| Vs (Mv rfl) <| Vs (Mv rfl) <| Vs (Bi (c := .bool false) rfl) <| Vs (Pk rfl) <| Vs (Mv rfl) <| Vs (Mv rfl) <| Vs (Bi (c := .bool false) rfl) <| Vs (Pk rfl) <| Vs (Mv rfl) <| Vs (LdS TA27 TS27 rfl) <| Vs (LdS TA27 TS27 rfl) <| Vs (Cf rfl rfl (x22t bt (bdR_sub (bd_lit (x := (0 : Rat)) (by decide +kernel)) (bdR_neg bt)) (by grind)) rfl) <| Vs (Un rfl) <| Vs (Pk rfl) <| Nx <| Cz rfl <| Ks <| Tg <| Sq <| Rg <| Vs (LdS TA27 TS27 rfl) <| Vs (LdS TA27 TS27 rfl) <| Vs (Cf rfl rfl (x30 ba bt) rfl) <| Vs (Mv rfl) <| Vs (Xt rfl) <| Vs (Xt rfl) <| Vs (As rfl) <| Vs (As rfl) <| Nx <| Sq <| Rg <| Vs (LdS TA27 TS27 rfl) <| Vs (LdS TA27 TS27 rfl) <| Vs (Cf rfl rfl (x30 bt bb) rfl) <| Vs (Mv rfl) <| Vs (Xt rfl) <| Vs (Xt rfl) <| Vs (As rfl) <| Vs (As rfl) <| Nx <| Sq <| Rg <| Vs (Fa TF27_1 rfl) <| Vs (LdS TA24 TS24 rfl) <| Vs (Fa TF27_1 rfl) <| Vs (LdS TA24 TS24 rfl) <| Vs (C0 rfl rfl (d34 (x := de (t)) (y := de (((a + b) / (2 : Rat)))) (bdZ_in bt.2) (bdZ_in bh.2))) <| Vs (Mv rfl) <| Vs (Xt rfl) <| Vs (Xt rfl) <| Vs (As rfl) <| Vs (As rfl) <| Nx <| Sq <| Rg <| Vs (Mv rfl) <| Vs (Mv rfl) <| Vs (Mv rfl) <| Vs (Bi (c := .bool true) rfl) <| Vs (Pk rfl) <| Vs (Mv rfl) <| Vs (Mv rfl) <| Vs (Bi (c := .bool true) rfl) <| Vs (Pk rfl) <| Vs (Mv rfl) <| Vs (Mv rfl) <| Vs (Bi (c := .bool true) rfl) <| Vs (Pk rfl) <| Vs (Mv rfl) <| Vs (Mv rfl) <| Vs (Kb (show decide (cmpR (a) (t) < 0) = true from (decide_eq_true (cmpR_lt.2 l1))) (Bi rfl)) <| Vs (Pk rfl) <| Vs (Mv rfl) <| Vs (Mv rfl) <| Vs (Kb (show decide (cmpR (t) (b) < 0) = true from (decide_eq_true (cmpR_lt.2 l2))) (Bi rfl)) <| Vs (Pk rfl) <| Vs (Mv rfl) <| Vs (Mv rfl) <| Vs (Kb (show decide (cmp3 (de (t)) (de (((a + b) / (2 : Rat)))) ≤ 0) = true from (decide_eq_true (by have h9 := le _ hh.1 hh.2; have := mt cmp3_gt.1 (Int.not_lt.2 h9); omega))) (Bi rfl)) <| Vs (Pk rfl) <| Vs (As rfl) <| Nx <| Re <| Fi (l := [boolB (true)]) (Rc (resVar_tmp rfl rfl) Rn) rfl
theorem g13 (n : Bool) (A : List Int) (m : Bool) (D : List Int) (n2 : Bool) (A2 : List Int) (m2 : Bool) (D2 : List Int) (hA : A.length ≤ 9223372036854775807) (hD : D.length ≤ 9223372036854775807) (hA2 : A2.length ≤ 9223372036854775807) (hD2 : D2.length ≤ 9223372036854775807) (oA : ok32 A) (oD : ok32 D) (oA2 : ok32 A2) (oD2 : ok32 D2) : VF Try.prog 13 [ratB n A m D, ratB n2 A2 m2 D2] (boolB true) := by
  have h := g29 n A m D n2 A2 m2 D2 n2 A2 m2 D2 hA hD hA2 hD2 hA2 hD2 oA oD oA2 oD2 oA2 oD2 32
  cases e : v3 n A m D n2 A2 m2 D2 n2 A2 m2 D2 32 with
  | false => rw [e] at h; exact g13i n A m D n2 A2 m2 D2 h
  | true =>
    rw [e] at h
    obtain ⟨c0, c1, c2⟩ := v3_get e
    obtain ⟨a, ⟨e01, e02, e03, e04⟩, ba⟩ := v_rat 32 oA oD c0.1 c0.2
    obtain ⟨b, ⟨e11, e12, e13, e14⟩, bb⟩ := v_rat 32 oA2 oD2 c1.1 c1.2
    rw [e01, e02, e03, e04, e11, e12, e13, e14] at h ⊢
    exact g13v ba bb h
end Go.VL

set_option linter.unusedVariables false
set_option linter.unusedSimpArgs false
set_option maxRecDepth 100000
namespace Go.Proofs.Ytnabpemjcidhdaa
open Go.ChangeShapes Go.WideShapes Go.ChangeAt Go.RowKit Go.VL

theorem rationalSimplestTurns_lifted (os : Os) (started : os.Started) (H : Type) (enc : TypeId × Value → H) :
    ReturnsInHanded {} Try.checked os 13 .any (Rows.rationalSimplestTurnsSpec.pre6 enc Try.prog Try.f13 Rows.rationalSimplestTurnsRow.domain false) (Rows.rationalSimplestTurnsSpec.post enc Try.prog Try.f13 false true false false) := by
  refine returnsInHanded_of_change (C := Try.checked) Try_own started (by kernel_rfl) Try.func13
    (ChangeSpec.witness6 (enc := enc) (C := Try.checked) false ⟨#[], #[.agg #[.bool false, .slice none 0 0, .bool false, .slice none 0 0], .agg #[.bool false, .slice none 0 0, .bool false, .slice none 0 0]], []⟩ 8 (by kernel_rfl) (by kernel_rfl) (by kernel_rfl) (by kernel_rfl)) ?_
  intro W base args ds gs before hval0 hW hcnd _
  have hval : ∀ (j : Nat) t v, Try.f13.params[j]? = some t → args[j]? = some v → Value.okWide Try.prog W .any base t v := hval0
  have hW' := hW
  obtain ⟨p, q, hA0, hV, rfl, hfz, hnd⟩ := hW
  have hA : DataW.TrodAll enc Try.prog W 0 (fun _ => true) true Try.f13.params.toList args.toList ds p := hA0
  have hA1 := hA
  rw [Try.params13] at hA hval
  obtain ⟨v0, v1, d0, d1, p0, p1, rfl, rfl, rfl, h0, h1⟩ := trodAll_two hA
  obtain ⟨rfl, rfl⟩ := trodVars_none hV
  obtain ⟨n0, A0, m0, D0, r0, ⟨o0, s0⟩, l0, k0⟩ := open_rat (hval 0 27 v0 rfl rfl) h0
  obtain ⟨n1, A1, m1, D1, r1, ⟨o1, s1⟩, l1, k1⟩ := open_rat (hval 1 27 v1 rfl rfl) h1
  simp only [List.append_nil] at hW'
  have hlt : ∀ x ∈ p0 ++ p1, x.block < W.heap.size := fun x hx => hW'.lt x hx
  have hread : ∀ t ∈ Try.f13.params.toList, Try.prog.readableRec t = true ∧ t < Try.prog.types.size := by rw [Try.params13]; exact types_cons T27 (types_cons T27 (types_nil))
  refine ((g13 n0 A0 m0 D0 n1 A1 m1 D1 l0 k0 l1 k1 o0 s0 o1 s1).runs (xs := [v0, v1]) rfl (reps_cons r0 (reps_cons r1 reps_nil))).mono fun e W' ⟨he, hb⟩ => ?_
  subst he
  exact ⟨_, rfl, post_of_below (pa := _) (pv := []) hW' (fun _ _ _ => trodAll_mk1 shut_true) (fun sp hsp => args_stay Try_laidOut hb hread hA1 hlt hsp) (fun _ _ => rfl) (by simp) hb (ok_one (by kernel_rfl) rfl ok_true)⟩

theorem rationalSimplestTurns_facts : joinedFacts Try.pinned.checked.prog 13 Try.f13 Rows.rationalSimplestTurnsSpec Rows.rationalSimplestTurnsRow = true := by
  unfold joinedFacts
  rw [head_may, head_lifts, head_make]
  kernel_rfl

theorem rationalSimplestTurns_holds : Rows.RationalSimplestTurnsSaid :=
  OpenClaim.holds_of_wide 13 Try.f13 rfl rfl rfl rfl rfl rfl rfl ⟨rfl, rfl, rfl, rfl, rfl⟩ rfl rfl rfl rfl rfl (by kernel_rfl) Try.func13 rationalSimplestTurns_facts
    (of_decide_eq_true (by kernel_rfl)) (by unfold Func.isWrapper; rw [if_neg (of_decide_eq_false (by kernel_rfl))]; exact ⟨rfl, rfl⟩)
    (fun os started H enc _ => rationalSimplestTurns_lifted os started H enc)

end Go.Proofs.Ytnabpemjcidhdaa
