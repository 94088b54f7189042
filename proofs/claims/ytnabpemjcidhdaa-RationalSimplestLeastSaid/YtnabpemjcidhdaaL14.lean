/- RationalSimplestLeast returns true for every input and leaves the input as it was. No condition. -/
import Derived.Test.YtnabpemjcidhdaaK4
/- Arguments of the small kinds of integers, opened. -/
set_option linter.unusedVariables false
set_option maxRecDepth 100000
namespace Go.VL
open Go.ChangeShapes Go.WideShapes Go.ChangeAt Go.RowKit Go.ChangeMaps Go.Proofs
theorem lit_i8 {x : Int} (h : (Lit.int .i8 x).wf = true) : -128 ≤ x ∧ x ≤ 127 := by
  simp only [Lit.wf, Bool.and_eq_true, decide_eq_true_eq] at h
  simp only [IntKind.min, IntKind.max, IntKind.signed, IntKind.bits] at h
  have h1 := h.1
  have h2 := h.2
  simp at h1 h2
  omega
theorem lit_u8 {x : Int} (h : (Lit.int .u8 x).wf = true) : 0 ≤ x ∧ x ≤ 255 := by
  simp only [Lit.wf, Bool.and_eq_true, decide_eq_true_eq] at h
  simp only [IntKind.min, IntKind.max, IntKind.signed, IntKind.bits] at h
  have h1 := h.1
  have h2 := h.2
  simp at h1 h2
  omega
section
variable {H : Type} {enc : TypeId × Value → H} {W : World}
theorem open_i8 {v : Value} {d : DataW H} {p : List MemPlace} (hval : Value.okWide Try.prog W .any 0 57 v) (h : DataW.Trod enc Try.prog W 0 (fun _ => true) true 57 v d p) :
    ∃ n : Int, RepB W (fun _ => True) (numB .i8 n) v ∧ -128 ≤ n ∧ n ≤ 127 := by
  obtain ⟨n, rfl, _, _, hw⟩ := open_int Try.underlying57 hval h
  exact ⟨n, .lit _ rfl, lit_i8 hw⟩
theorem open_u8 {v : Value} {d : DataW H} {p : List MemPlace} (hval : Value.okWide Try.prog W .any 0 5 v) (h : DataW.Trod enc Try.prog W 0 (fun _ => true) true 5 v d p) :
    ∃ n : Int, RepB W (fun _ => True) (numB .u8 n) v ∧ 0 ≤ n ∧ n ≤ 255 := by
  obtain ⟨n, rfl, _, _, hw⟩ := open_int Try.underlying5 hval h
  exact ⟨n, .lit _ rfl, lit_u8 hw⟩
theorem T57 : Try.prog.readableRec 57 = true ∧ 57 < Try.prog.types.size := ⟨by kernel_rfl, of_decide_eq_true (by kernel_rfl)⟩
theorem T5 : Try.prog.readableRec 5 = true ∧ 5 < Try.prog.types.size := ⟨by kernel_rfl, of_decide_eq_true (by kernel_rfl)⟩
end
end Go.VL

/- Plain laws of rationals: what the functions return stays in bounds. No program. -/
set_option linter.unusedVariables false
namespace Go.VL
section
variable {x y p q r s : Int}
theorem rdS_in (h : inB x = true) : inB (rdS x y) = true := by
  unfold rdS; split
  · exact (in_neg x).trans h
  · exact h
theorem rdN_in (hx : inB x = true) : inB (rdN x y) = true := by
  unfold rdN
  by_cases h : rdG x y = 0
  · rw [h, Int.fdiv_zero]; exact in_zero
  · exact fdiv_in (rdS_in hx) h
theorem rdD_in (hy : inB y = true) : inB (rdD x y) = true := by
  unfold rdD
  by_cases h : rdG x y = 0
  · rw [h, Int.fdiv_zero]; exact in_zero
  · exact fdiv_in (rdS_in hy) h
theorem mkN_in (hx : inB x = true) : inB (mkN x y) = true := by
  unfold mkN; split
  · exact in_zero
  · exact rdN_in hx
theorem mkD_in (hy : inB y = true) : inB (mkD x y) = true := by
  unfold mkD; split
  · exact in_zero
  · exact rdD_in hy
theorem sh_nil (z : Int) : shZ z 0 = z := by simp [shZ]
theorem fl_nil {k : Int} (h : ¬ k > 0) (h1 : k ≥ 0) (hi : inB (p.fdiv q) = true) : zR (flZ p q k) = oneB [iB (p.fdiv q), numB .i64 0] := by
  have : k = 0 := by omega
  subst this
  rw [flZ, if_pos (Int.le_refl 0), sh_nil, zR, zE_in.2 hi]; rfl
theorem fl_ins (z : Int) : ∃ w e : Int, inB w = true ∧ zR z = .tup [iB w, numB .i64 e] := by
  cases h : inB z with
  | true => exact ⟨z, zE z, h, rfl⟩
  | false => exact ⟨0, zE z, in_zero, by rw [zR, zB_zero, ← iB_out (z := z) (fun hc => by rw [zE_in.1 hc] at h; cases h)]⟩
theorem sq_ins (hp : inB p = true) (hq : inB q = true) : inB (sqQn p q) = true ∧ inB (sqQd p q) = true := by
  have hs : ∀ z : Int, inB z = true → inB (isq z) = true := fun z hz => by
    by_cases h : 0 ≤ z
    · exact (sq_in h hz).1
    · have : isq z = 0 := by unfold isq; rw [show z.toNat = 0 by omega]; rfl
      rw [this]; exact in_zero
  unfold sqQn sqQd
  split
  · exact ⟨hs _ hp, hs _ hq⟩
  · exact ⟨in_zero, in_zero⟩
end
end Go.VL

/- Plain laws of rationals: the simplest fraction stays in bounds. No program. -/
set_option linter.unusedVariables false
namespace Go.VL
theorem cfP_last (k : Nat) : ∀ (n d m f : Int) (L : List Int), cfP k n d m f = some L → L ≠ [] ∧ inB (L.getD (L.length - 1) 0) = true := by
  induction k with
  | zero => intro n d m f L h; rw [cfP] at h; exact absurd h (by simp)
  | succ k ih =>
    intro n d m f L h
    rw [cfP] at h
    by_cases h1 : inB (n.fdiv d + 1) = false
    · rw [if_pos h1] at h; exact absurd h (by simp)
    · rw [if_neg h1] at h
      rw [Bool.not_eq_false] at h1
      by_cases h2 : f = 0 ∨ (n.fdiv d + 1) * f < m
      · rw [if_pos h2] at h
        injection h with h
        rw [← h]
        exact ⟨List.cons_ne_nil _ _, h1⟩
      · rw [if_neg h2] at h
        cases e : cfP k f (m - n.fdiv d * f) d (n.fmod d) with
        | none => rw [e] at h; exact absurd h (by simp)
        | some L' =>
          rw [e, Option.map_some] at h
          obtain ⟨h3, h4⟩ := ih _ _ _ _ L' e
          injection h with h
          rw [← h]
          refine ⟨List.cons_ne_nil _ _, ?_⟩
          have hl : 0 < L'.length := List.length_pos_iff.2 h3
          rw [List.length_cons, show L'.length + 1 - 1 = (L'.length - 1) + 1 by omega, List.getD_cons_succ]
          exact h4
theorem cfF_in (L : List Int) : ∀ (a b : Int) (x : Int × Int), inB a = true → inB b = true → cfF a b L = some x → inB x.1 = true ∧ inB x.2 = true := by
  induction L with
  | nil => intro a b x ha hb h; rw [cfF] at h; injection h with h; rw [← h]; exact ⟨ha, hb⟩
  | cons y L ih =>
    intro a b x ha hb h
    rw [cfF] at h
    by_cases h1 : inB (y * a) = false
    · rw [if_pos h1] at h; exact absurd h (by simp)
    · rw [if_neg h1] at h
      by_cases h2 : inB (y * a + b) = false
      · rw [if_pos h2] at h; exact absurd h (by simp)
      · rw [if_neg h2] at h
        exact ih _ _ x (by rwa [Bool.not_eq_false] at h2) ha h
section
variable {p q r s : Int}
theorem cfQ_in (x : Int × Int) (h : cfQ p q r s = some x) : inB x.1 = true ∧ inB x.2 = true := by
  unfold cfQ cfL at h
  cases e : cfP ((q + s).toNat + 1) p q r s with
  | none => rw [e, Option.bind_none] at h; exact absurd h (by simp)
  | some L =>
    rw [e, Option.bind_some] at h
    obtain ⟨_, h1⟩ := cfP_last _ _ _ _ _ L e
    exact cfF_in _ _ _ x h1 in_one h
theorem po_ins : inB (poN (cfQ p q r s)) = true ∧ inB (poD (cfQ p q r s)) = true := by
  cases e : cfQ p q r s with
  | none => exact ⟨in_zero, in_zero⟩
  | some x => exact cfQ_in x e
theorem si_mid' (h : p * s < r * q) (h1 : p < 0) (h2 : 0 < r) : siR p q r s = oneB [qB 0 1, numB .i64 0] := by
  rw [siR, if_pos h, siQ, if_pos ⟨h1, h2⟩]; rfl
theorem siQ_in (x : Int × Int) (h : siQ p q r s = some x) : inB x.1 = true ∧ inB x.2 = true := by
  unfold siQ at h
  by_cases h1 : p < 0 ∧ 0 < r
  · rw [if_pos h1] at h; injection h with h; rw [← h]; exact ⟨in_zero, in_one⟩
  · rw [if_neg h1] at h
    by_cases h2 : p < 0
    · rw [if_pos h2] at h
      cases e : cfQ (-r) s (-p) q with
      | none => rw [e] at h; exact absurd h (by simp)
      | some y =>
        rw [e, Option.map_some] at h
        injection h with h; rw [← h]
        exact ⟨(in_neg y.1).trans (cfQ_in y e).1, (cfQ_in y e).2⟩
    · rw [if_neg h2] at h; exact cfQ_in x h
/-- The answer, in its three parts. -/
theorem si_parts : ∃ x y e : Int, inB x = true ∧ inB y = true ∧ siR p q r s = rR x y e := by
  unfold siR
  by_cases h : p * s < r * q
  · rw [if_pos h]
    refine ⟨_, _, _, ?_, ?_, rfl⟩
    · cases e : siQ p q r s with
      | none => exact in_zero
      | some x => exact (siQ_in x e).1
    · cases e : siQ p q r s with
      | none => exact in_zero
      | some x => exact (siQ_in x e).2
  · rw [if_neg h]; exact ⟨0, 0, 1, in_zero, in_zero, rfl⟩
end
end Go.VL

/- Plain laws of rationals: what the simplest fraction is. No program. -/
set_option linter.unusedVariables false
namespace Go.VL
def spS : Nat → Int → Int → Int → Int → Int × Int
  | 0, _, _, _, _ => (0, 0)
  | k + 1, n, d, m, f => if f = 0 ∨ (n.fdiv d + 1) * f < m then (n.fdiv d + 1, 1) else
      (n.fdiv d * (spS k f (m - n.fdiv d * f) d (n.fmod d)).1 + (spS k f (m - n.fdiv d * f) d (n.fmod d)).2, (spS k f (m - n.fdiv d * f) d (n.fmod d)).1)
/-- Between n/d and m/f, and the least. -/
structure SpI (n d m f x y : Int) : Prop where
  x0 : 0 < x
  y0 : 0 < y
  lo : n * y < x * d
  hi : x * f < m * y
  cop : Int.gcd x y = 1
  least : ∀ u v : Int, 0 < v → n * v < u * d → u * f < m * v → x ≤ u ∧ y ≤ v
theorem sp_end {n d m f q r : Int} (hn : n = d * q + r) (hr : 0 ≤ r) (hr1 : r < d) (q0 : 0 ≤ q) (hd : 0 < d) (hf : 0 ≤ f) (h : f = 0 ∨ (q + 1) * f < m) (lt : n * f < m * d) : SpI n d m f (q + 1) 1 := by
  refine ⟨by omega, by decide, ?_, ?_, by simp, ?_⟩
  · subst hn; grind
  · rcases h with h | h
    · subst h
      rw [Int.mul_zero] at lt ⊢
      rw [Int.mul_one]
      exact Int.pos_of_mul_pos_left lt hd
    · omega
  · intro u v hv h1 h2
    refine ⟨?_, by omega⟩
    have h3 : q * v < u := by
      have h4 : (q * v) * d ≤ n * v := by
        subst hn
        have : 0 ≤ r * v := Int.mul_nonneg hr (Int.le_of_lt hv)
        grind
      exact Int.lt_of_mul_lt_mul_right (Int.lt_of_le_of_lt h4 h1) (Int.le_of_lt hd)
    have h5 : q * 1 ≤ q * v := Int.mul_le_mul_of_nonneg_left (by omega) q0
    omega
theorem sp_more {n d m f q r x y : Int} (hn : n = d * q + r) (hr : 0 ≤ r) (hr1 : r < d) (q0 : 0 ≤ q) (hd : 0 < d) (h : SpI f (m - q * f) d r x y) : SpI n d m f (q * x + y) x := by
  obtain ⟨x0, y0, lo, hi, cop, least⟩ := h
  refine ⟨?_, x0, ?_, ?_, ?_, ?_⟩
  · have := Int.mul_nonneg q0 (Int.le_of_lt x0); omega
  · subst hn; grind
  · grind
  · rw [Int.gcd_comm] at cop
    have : Int.gcd (q * x + y) x = Int.gcd y x := by
      rw [Int.add_comm, Int.mul_comm, Int.gcd_comm, Int.gcd_add_mul_left_right, Int.gcd_comm]
    rw [this]; exact cop
  · intro u v hv h1 h2
    have e1 : r * v < (u - q * v) * d := by subst hn; grind
    have e2 : 0 < u - q * v := by
      have : 0 ≤ r * v := Int.mul_nonneg hr (Int.le_of_lt hv)
      exact Int.pos_of_mul_pos_left (by omega) hd
    obtain ⟨k1, k2⟩ := least v (u - q * v) e2 (by grind) (by grind)
    refine ⟨?_, k1⟩
    have : q * x ≤ q * v := Int.mul_le_mul_of_nonneg_left k1 q0
    omega
section
variable {n d m f : Int}
theorem sp_data (pn : 0 ≤ n) (pd : 0 < d) (pf : 0 ≤ f) (lt : n * f < m * d) (h : ¬ (f = 0 ∨ (n.fdiv d + 1) * f < m)) :
    0 ≤ n.fdiv d ∧ n = d * n.fdiv d + n.fmod d ∧ 0 ≤ n.fmod d ∧ n.fmod d < d ∧ 0 < m - n.fdiv d * f ∧ m - n.fdiv d * f ≤ f ∧ f * n.fmod d < d * (m - n.fdiv d * f) := by
  have q0 : 0 ≤ n.fdiv d := Int.fdiv_nonneg pn (Int.le_of_lt pd)
  have e := fm_eq n d
  obtain ⟨r0, r1⟩ := fm_range (n := n) pd
  have h1 : ¬ f = 0 := fun hc => h (.inl hc)
  have h2 : ¬ (n.fdiv d + 1) * f < m := fun hc => h (.inr hc)
  generalize n.fdiv d = q at *
  generalize n.fmod d = r at *
  have h3 : f * r < d * (m - q * f) := by subst e; grind
  have h4 : 0 ≤ f * r := Int.mul_nonneg pf r0
  have h5 : 0 < m - q * f := by
    have : 0 < (m - q * f) * d := by rw [Int.mul_comm]; omega
    exact Int.pos_of_mul_pos_left this pd
  refine ⟨q0, e, r0, r1, h5, ?_, h3⟩
  rw [Int.add_mul, Int.one_mul] at h2
  omega
theorem sp_spec (k : Nat) : ∀ n d m f : Int, 0 ≤ n → 0 < d → 0 ≤ f → n * f < m * d → (d + f).toNat < k → SpI n d m f (spS k n d m f).1 (spS k n d m f).2 := by
  induction k with
  | zero => intro n d m f _ _ _ _ h; omega
  | succ k ih =>
    intro n d m f pn pd pf lt hk
    rw [spS]
    by_cases h : f = 0 ∨ (n.fdiv d + 1) * f < m
    · rw [if_pos h]
      obtain ⟨r0, r1⟩ := fm_range (n := n) pd
      exact sp_end (fm_eq n d) r0 r1 (Int.fdiv_nonneg pn (Int.le_of_lt pd)) pd pf h lt
    · rw [if_neg h]
      obtain ⟨q0, e, r0, r1, h5, h6, h3⟩ := sp_data pn pd pf lt h
      exact sp_more e r0 r1 q0 pd (ih f (m - n.fdiv d * f) d (n.fmod d) pf h5 r0 h3 (by omega))
/-- A step of the fold. -/
def cfS (q : Int) (x : Int × Int) : Option (Int × Int) := if inB (q * x.1) = false then none else if inB (q * x.1 + x.2) = false then none else some (q * x.1 + x.2, x.1)
theorem cfF_app (L : List Int) (q : Int) : ∀ a b : Int, cfF a b (L ++ [q]) = (cfF a b L).bind (cfS q) := by
  induction L with
  | nil =>
    intro a b
    have e0 : cfF a b [] = some (a, b) := by rw [cfF]
    rw [List.nil_append, e0, Option.bind_some]
    by_cases h1 : inB (q * a) = false
    · rw [cfF, cfS, if_pos h1, if_pos h1]
    · by_cases h2 : inB (q * a + b) = false
      · rw [cfF, cfS, if_neg h1, if_neg h1, if_pos h2, if_pos h2]
      · rw [cfF, cfS, if_neg h1, if_neg h1, if_neg h2, if_neg h2, cfF]
  | cons y L ih =>
    intro a b
    rw [List.cons_append, cfF, cfF]
    by_cases h1 : inB (y * a) = false
    · rw [if_pos h1, if_pos h1]; rfl
    · rw [if_neg h1, if_neg h1]
      by_cases h2 : inB (y * a + b) = false
      · rw [if_pos h2, if_pos h2]; rfl
      · rw [if_neg h2, if_neg h2]; exact ih _ _
theorem cfL_cons (q : Int) (L : List Int) (h : L ≠ []) : cfL (some (q :: L)) = (cfL (some L)).bind (cfS q) := by
  have hl : 0 < L.length := List.length_pos_iff.2 h
  unfold cfL
  rw [Option.bind_some, Option.bind_some, List.length_cons, show L.length + 1 - 1 = (L.length - 1) + 1 by omega, List.getD_cons_succ, List.take_succ_cons, List.reverse_cons, cfF_app]
theorem in_of {x y : Int} (h : inB y = true) (h0 : 0 ≤ x) (h1 : x ≤ y) : inB x = true := inb_le h0 h1 h
theorem sp_run (k : Nat) : ∀ n d m f : Int, 0 ≤ n → 0 < d → 0 ≤ f → n * f < m * d → (d + f).toNat < k → inB (spS k n d m f).1 = true → inB (spS k n d m f).2 = true →
    ∃ L, cfP k n d m f = some L ∧ cfL (some L) = some (spS k n d m f) := by
  induction k with
  | zero => intro n d m f _ _ _ _ h; omega
  | succ k ih =>
    intro n d m f pn pd pf lt hk
    have q0 : 0 ≤ n.fdiv d := Int.fdiv_nonneg pn (Int.le_of_lt pd)
    rw [spS, cfP]
    by_cases h : f = 0 ∨ (n.fdiv d + 1) * f < m
    · rw [if_pos h, if_pos h]
      intro h1 h2
      rw [if_neg (by rw [show inB (n.fdiv d + 1) = true from h1]; decide)]
      exact ⟨_, rfl, rfl⟩
    · rw [if_neg h, if_neg h]
      intro h1 h2
      obtain ⟨_, e, r0, r1, h5, h6, h3⟩ := sp_data pn pd pf lt h
      obtain ⟨x0, y0, _⟩ := sp_spec k f (m - n.fdiv d * f) d (n.fmod d) pf h5 r0 h3 (by omega)
      have I := ih f (m - n.fdiv d * f) d (n.fmod d) pf h5 r0 h3 (by omega)
      generalize spS k f (m - n.fdiv d * f) d (n.fmod d) = z at *
      generalize n.fdiv d = q at *
      have a1 : 0 ≤ q * z.1 := Int.mul_nonneg q0 (Int.le_of_lt x0)
      have a2 : q * 1 ≤ q * z.1 := Int.mul_le_mul_of_nonneg_left (by omega) q0
      have b1 : inB (q + 1) = true := in_of h1 (by omega) (by show _ ≤ q * z.1 + z.2; omega)
      obtain ⟨L, e1, e2⟩ := I h2 (in_of h1 (by omega) (by show _ ≤ q * z.1 + z.2; omega))
      have hne : L ≠ [] := (cfP_last _ _ _ _ _ _ e1).1
      rw [if_neg (by rw [b1]; decide), e1, Option.map_some]
      refine ⟨_, rfl, ?_⟩
      rw [cfL_cons _ _ hne, e2, Option.bind_some, cfS, if_neg (by rw [in_of h1 a1 (by show _ ≤ q * z.1 + z.2; omega)]; decide), if_neg (by rw [show inB (q * z.1 + z.2) = true from h1]; decide)]
/-- The simplest fraction: it is found if the bounds hold for the mean one. -/
theorem cf_spec (pn : 0 ≤ n) (pd : 0 < d) (pf : 0 ≤ f) (lt : n * f < m * d) (hb : inB (n + m) = true) (hb2 : inB (d + f) = true) : ∃ x y, cfQ n d m f = some (x, y) ∧ SpI n d m f x y ∧ x ≤ n + m ∧ y ≤ d + f := by
  have S := sp_spec ((d + f).toNat + 1) n d m f pn pd pf lt (by omega)
  have hm : 0 < m := by
    have : 0 < m * d := by have := Int.mul_nonneg pn pf; omega
    exact Int.pos_of_mul_pos_left this pd
  obtain ⟨k1, k2⟩ := S.least (n + m) (d + f) (by omega) (by grind) (by grind)
  have R := sp_run ((d + f).toNat + 1) n d m f pn pd pf lt (by omega) (in_of hb (Int.le_of_lt S.x0) k1) (in_of hb2 (Int.le_of_lt S.y0) k2)
  obtain ⟨L, e1, e2⟩ := R
  refine ⟨_, _, ?_, S, k1, k2⟩
  unfold cfQ
  rw [e1, e2]
end
structure SimI (p q r s x y : Int) : Prop where
  y0 : 0 < y
  lo : p * y < x * q
  hi : x * s < r * y
  cop : Int.gcd x y = 1
  bx : x.natAbs ≤ p.natAbs + r.natAbs
  bY : y ≤ q + s
  least : ∀ u v : Int, 0 < v → p * v < u * q → u * s < r * v → x.natAbs ≤ u.natAbs ∧ y ≤ v
theorem si_spec {p q r s : Int} (q0 : 0 < q) (s0 : 0 < s) (lt : p * s < r * q) (hb : inB ((p.natAbs : Int) + (r.natAbs : Int)) = true) (hb2 : inB (q + s) = true) : ∃ x y, siQ p q r s = some (x, y) ∧ SimI p q r s x y := by
  unfold siQ
  by_cases h1 : p < 0 ∧ 0 < r
  · rw [if_pos h1]
    exact ⟨0, 1, rfl, by decide, by rw [Int.mul_one, Int.zero_mul]; exact h1.1, by rw [Int.zero_mul, Int.mul_one]; exact h1.2, by decide, by simp, by omega, fun u v hv _ _ => ⟨by simp, by omega⟩⟩
  · rw [if_neg h1]
    by_cases h2 : p < 0
    · rw [if_pos h2]
      have hr : 0 ≤ -r := by omega
      have e1 : ((p.natAbs : Int) + (r.natAbs : Int)) = -r + -p := by omega
      rw [e1] at hb
      obtain ⟨x, y, e, S, kx, ky⟩ := cf_spec (n := -r) (d := s) (m := -p) (f := q) hr s0 (Int.le_of_lt q0) (turn_lt lt) hb (by rw [Int.add_comm]; exact hb2)
      rw [e, Option.map_some]
      have sx := S.x0
      refine ⟨-x, y, rfl, S.y0, ?_, ?_, ?_, by omega, by omega, ?_⟩
      · have := S.hi; grind
      · have := S.lo; grind
      · rw [Int.neg_gcd]; exact S.cop
      · intro u v hv a1 a2
        obtain ⟨b1, b2⟩ := S.least (-u) v hv (by grind) (by grind)
        exact ⟨by omega, b2⟩
    · rw [if_neg h2]
      have h3 : 0 ≤ p := by omega
      have h4 : 0 < r := by
        have : 0 ≤ p * s := Int.mul_nonneg h3 (Int.le_of_lt s0)
        have : 0 < r * q := by omega
        exact Int.pos_of_mul_pos_left this q0
      have e1 : ((p.natAbs : Int) + (r.natAbs : Int)) = p + r := by omega
      rw [e1] at hb
      obtain ⟨x, y, e, S, kx, ky⟩ := cf_spec (n := p) (d := q) (m := r) (f := s) h3 q0 (Int.le_of_lt s0) lt hb hb2
      have sx := S.x0
      rw [e]
      refine ⟨x, y, rfl, S.y0, S.lo, S.hi, S.cop, by omega, by omega, ?_⟩
      intro u v hv a1 a2
      obtain ⟨b1, b2⟩ := S.least u v hv a1 a2
      exact ⟨by omega, b2⟩
/-- The other way round. -/
theorem si_turn {p q r s : Int} (lt : p * s < r * q) (q0 : 0 < q) (s0 : 0 < s) : siQ (-r) s (-p) q = (siQ p q r s).map fun x => (-x.1, x.2) := by
  unfold siQ
  by_cases h1 : p < 0 ∧ 0 < r
  · rw [if_pos h1, if_pos (by omega)]; rfl
  · rw [if_neg h1, if_neg (by omega)]
    by_cases h2 : p < 0
    · rw [if_pos h2, if_neg (by omega)]
      generalize cfQ (-r) s (-p) q = R
      cases R with
      | none => rfl
      | some x => simp
    · have h3 : 0 ≤ p := by omega
      have h4 : 0 < r := by
        have : 0 ≤ p * s := Int.mul_nonneg h3 (Int.le_of_lt s0)
        have : 0 < r * q := by omega
        exact Int.pos_of_mul_pos_left this q0
      rw [if_neg h2, if_pos (by omega), Int.neg_neg, Int.neg_neg]
end Go.VL

/- Plain laws of rationals: the simplest number between two. No program. -/
set_option linter.unusedVariables false
set_option exponentiation.threshold 5000
namespace Go.VL
section
variable {a b : Rat}
theorem neg_nu (x : Rat) : nu (-x) = -nu x := rfl
theorem neg_de (x : Rat) : de (-x) = de x := rfl
theorem lt_nd {x y : Rat} : x < y ↔ nu x * de y < nu y * de x := Rat.lt_iff x y
theorem sum_bd {k : Nat} {z w : Int} (h1 : bdZ k z) (h2 : bdZ k w) : bdZ (k + 1) ((z.natAbs : Int) + (w.natAbs : Int)) := by
  unfold bdZ at *
  rw [Nat.pow_succ]; omega
theorem sim_rat {k : Nat} (ba : bdR k a) (bb : bdR k b) (lt : a < b) (hk : k + 1 ≤ 4096) : ∃ t : Rat, bdR (k + 1) t ∧ a < t ∧ t < b ∧ (∀ h : Rat, a < h → h < b → de t ≤ de h) ∧
    siR (nu a) (de a) (nu b) (de b) = .tup [qR t, numB .i64 0] ∧ siR (nu (-b)) (de (-b)) (nu (-a)) (de (-a)) = .tup [qR (-t), numB .i64 0] := by
  have q0 := de_pos a
  have s0 := de_pos b
  have l0 := lt_nd.1 lt
  have c1 := sum_bd ba.1 bb.1
  have c2 : bdZ (k + 1) (de a + de b) := bdZ_add ba.2 bb.2
  obtain ⟨x, y, e, S⟩ := si_spec q0 s0 l0 (bdZ_in c1 hk) (bdZ_in c2 hk)
  have dx : bdZ (k + 1) x := by
    have := S.bx
    unfold bdZ at *
    omega
  have dy : bdZ (k + 1) y := by
    have h1 := S.bY
    have h2 := S.y0
    unfold bdZ at *
    omega
  obtain ⟨t, e1, e2⟩ := as_rat (p := x) (q := y) ⟨S.y0, S.cop, bdZ_in dx hk, bdZ_in dy hk⟩
  subst e1; subst e2
  refine ⟨t, ⟨dx, dy⟩, lt_nd.2 S.lo, lt_nd.2 S.hi, fun h h1 h2 => (S.least (nu h) (de h) (de_pos h) (lt_nd.1 h1) (lt_nd.1 h2)).2, ?_, ?_⟩
  · rw [siR, if_pos l0, e]; rfl
  · rw [neg_nu, neg_nu, neg_de, neg_de, siR, if_pos (turn_lt l0), si_turn l0 q0 s0, e]; rfl
theorem half_lt (lt : a < b) : a < (a + b) / (2 : Rat) ∧ (a + b) / (2 : Rat) < b := by
  constructor <;> grind
end
end Go.VL

/- Plain laws of rationals: integer parts of numbers times powers of two. No program. -/
set_option linter.unusedVariables false
set_option linter.unusedSimpArgs false
set_option exponentiation.threshold 5000
namespace Go.VL
section
variable {a b c d p q k n : Int} {x y : Rat}
theorem divInt_le (hb : 0 < b) (hd : 0 < d) : Rat.divInt a b ≤ Rat.divInt c d ↔ a * d ≤ c * b := by
  have h1 : Rat.divInt a b ≤ Rat.divInt c d ↔ 0 ≤ Rat.divInt c d - Rat.divInt a b := by grind
  rw [h1, Rat.divInt_sub_divInt _ _ (by omega) (by omega), Rat.divInt_nonneg_iff_of_pos_right (Int.mul_pos hd hb)]
  omega
theorem divInt_lt (hb : 0 < b) (hd : 0 < d) : Rat.divInt a b < Rat.divInt c d ↔ a * d < c * b := by
  have h1 : Rat.divInt a b < Rat.divInt c d ↔ ¬ Rat.divInt c d ≤ Rat.divInt a b := by grind
  rw [h1, divInt_le hd hb]; omega
/-- The powers that scale. -/
def upZ (k : Int) : Int := shZ 1 (if 0 > k then 0 else k)
def dnZ (k : Int) : Int := shZ 1 (if 0 > -k then 0 else -k)
theorem upZ_eq (k : Int) : upZ k = 2 ^ k.toNat := by
  unfold upZ
  split
  · rw [shZ_up (by omega), show k.toNat = (0 : Int).toNat by omega]; simp
  · rw [shZ_up (by omega)]; simp
theorem dnZ_eq (k : Int) : dnZ k = 2 ^ (-k).toNat := by
  unfold dnZ
  split
  · rw [shZ_up (by omega), show (-k).toNat = (0 : Int).toNat by omega]; simp
  · rw [shZ_up (by omega)]; simp
theorem pow_bdZ (j : Nat) : bdZ (j + 1) ((2 : Int) ^ j) := by
  unfold bdZ
  rw [Int.natAbs_pow, show (2 : Int).natAbs = 2 from rfl]
  exact Nat.pow_lt_pow_right (by decide) (by omega)
theorem upZ_bd (h : k ≤ 200) : bdZ 201 (upZ k) := by rw [upZ_eq]; exact bdZ_mono (pow_bdZ _) (by omega)
theorem dnZ_bd (h : -200 ≤ k) : bdZ 201 (dnZ k) := by rw [dnZ_eq]; exact bdZ_mono (pow_bdZ _) (by omega)
theorem upZ_pos (k : Int) : 0 < upZ k := by rw [upZ_eq]; exact Int.pow_pos (by decide)
theorem dnZ_pos (k : Int) : 0 < dnZ k := by rw [dnZ_eq]; exact Int.pow_pos (by decide)
theorem fdiv_rng (hq : 0 < q) : n.fdiv q * q ≤ n ∧ n < (n.fdiv q + 1) * q := by
  have h1 := fm_eq n q
  obtain ⟨h2, h3⟩ := fm_range (n := n) hq
  rw [Int.add_mul, Int.one_mul, Int.mul_comm (n.fdiv q)]
  omega
/-- What Floor yields is the integer part. -/
theorem fl_rng (hq : 0 < q) (hk : inB (shZ p k) = true) : flZ p q k * (q * dnZ k) ≤ p * upZ k ∧ p * upZ k < (flZ p q k + 1) * (q * dnZ k) := by
  rw [upZ_eq, dnZ_eq]
  unfold flZ
  by_cases h0 : k ≤ 0
  · rw [if_pos h0, show k.toNat = 0 by omega, Int.pow_zero, Int.mul_one]
    have hD : (0 : Int) < 2 ^ (-k).toNat := Int.pow_pos (by decide)
    have e : shZ (p.fdiv q) k = (p.fdiv q).fdiv (2 ^ (-k).toNat) := by
      have := shZ_down (z := p.fdiv q) (k := -k) (by omega)
      rwa [Int.neg_neg] at this
    rw [e]
    generalize (2 : Int) ^ (-k).toNat = D at *
    obtain ⟨a1, a2⟩ := fdiv_rng (n := p) hq
    obtain ⟨b1, b2⟩ := fdiv_rng (n := p.fdiv q) hD
    generalize p.fdiv q = m at *
    generalize m.fdiv D = F at *
    have c1 : F * D * q ≤ m * q := Int.mul_le_mul_of_nonneg_right b1 (by omega)
    have c2 : (m + 1) * q ≤ (F + 1) * D * q := Int.mul_le_mul_of_nonneg_right (by omega) (by omega)
    rw [Int.mul_comm q D, ← Int.mul_assoc, ← Int.mul_assoc]
    omega
  · rw [if_neg h0, if_pos hk, shZ_up (by omega), show (-k).toNat = 0 by omega, Int.pow_zero, Int.mul_one]
    exact fdiv_rng hq
theorem shZ_bd {j : Nat} (h : bdZ j p) (h1 : k ≤ 200) : bdZ (j + 201) (shZ p k) := by
  unfold shZ
  split
  · exact bdZ_mono (bdZ_mul h (pow_bdZ k.toNat)) (by omega)
  · have hD : (0 : Int) ≤ 2 ^ (-k).toNat := Int.le_of_lt (Int.pow_pos (by decide))
    rw [Int.fdiv_eq_ediv_of_nonneg _ hD]
    refine bdZ_mono (k := j + 201) ?_ (Nat.le_refl _)
    refine bdZ_mono (j := j) ?_ (by omega)
    unfold bdZ at *
    exact Nat.lt_of_le_of_lt (Int.natAbs_ediv_le_natAbs _ _) h
theorem fdiv_bd {j : Nat} (h : bdZ j p) (hq : 0 < q) : bdZ j (p.fdiv q) := by
  rw [Int.fdiv_eq_ediv_of_nonneg _ (Int.le_of_lt hq)]
  unfold bdZ at *
  exact Nat.lt_of_le_of_lt (Int.natAbs_ediv_le_natAbs _ _) h
theorem fl_bd {j : Nat} (h : bdZ j p) (hq : 0 < q) (h1 : k ≤ 200) : bdZ (j + 201) (flZ p q k) := by
  unfold flZ
  split
  · exact shZ_bd (fdiv_bd h hq) h1
  · split
    · exact fdiv_bd (shZ_bd h h1) hq
    · exact shZ_bd h h1
def scR (k : Int) : Rat := Rat.divInt (upZ k) (dnZ k)
theorem scR_bd (h0 : -200 ≤ k) (h1 : k ≤ 200) : bdR 201 (scR k) := bd_of (upZ_bd h1) (dnZ_bd h0) (Int.ne_of_gt (dnZ_pos k))
theorem int_bd {j : Nat} (h : bdZ (j + 1) n) : bdR (j + 1) (Rat.divInt n 1) := by
  refine bd_of h ?_ (by decide)
  unfold bdZ
  exact Nat.one_lt_two_pow (by omega)
theorem mul_sc (x : Rat) (k : Int) : x * scR k = Rat.divInt (nu x * upZ k) (de x * dnZ k) := by
  rw [scR, ← Rat.divInt_mul_divInt, rat_nd]
theorem fl_lo (hk : inB (shZ (nu x) k) = true) : cmpR (Rat.divInt (flZ (nu x) (de x) k) 1) (x * scR k) ≤ 0 := by
  have h := (fl_rng (p := nu x) (q := de x) (de_pos x) hk).1
  have h1 : Rat.divInt (flZ (nu x) (de x) k) 1 ≤ x * scR k := by
    rw [mul_sc, divInt_le (by decide) (Int.mul_pos (de_pos x) (dnZ_pos k))]; omega
  have := mt cmpR_gt.1 (show ¬ x * scR k < Rat.divInt (flZ (nu x) (de x) k) 1 by grind)
  omega
theorem fl_hi (hk : inB (shZ (nu x) k) = true) : cmpR (x * scR k) (Rat.divInt (flZ (nu x) (de x) k + 1) 1) < 0 := by
  have h := (fl_rng (p := nu x) (q := de x) (de_pos x) hk).2
  rw [cmpR_lt, mul_sc, divInt_lt (Int.mul_pos (de_pos x) (dnZ_pos k)) (by decide)]; omega
theorem one_bd (j : Nat) : bdZ (j + 1) (1 : Int) := by unfold bdZ; exact Nat.one_lt_two_pow (by omega)
end
end Go.VL

/- Plain laws of rationals: the simplest number between two small fractions. No program. -/
set_option linter.unusedVariables false
set_option exponentiation.threshold 5000
namespace Go.VL
theorem mulB {x y A B C : Int} (hx : -A ≤ x ∧ x ≤ A) (hy : -B ≤ y ∧ y ≤ B) (hc : A * B = C) : -C ≤ x * y ∧ x * y ≤ C := by
  have h1 : (x * y).natAbs ≤ A.toNat * B.toNat := by
    rw [Int.natAbs_mul]; exact Nat.mul_le_mul (by omega) (by omega)
  have h2 : ((A.toNat * B.toNat : Nat) : Int) = C := by
    rw [Int.natCast_mul, Int.toNat_of_nonneg (by omega), Int.toNat_of_nonneg (by omega), hc]
  omega
theorem re_tm {x y : Int} (h : y ≠ 0) : bop .rem (.int .i64 x) (.int .i64 y) = some (.int .i64 (x.tmod y)) := by
  simp [bop, h]
theorem tmodB {x : Int} (m : Int) (h : 0 < m) : -(m - 1) ≤ x.tmod m ∧ x.tmod m ≤ m - 1 := by
  have h1 := Int.tmod_lt_of_pos x h
  have h2 := Int.lt_tmod_of_pos x h
  omega
theorem qu_td {x y : Int} (h : y ≠ 0) (hb : -9223372036854775808 ≤ x.tdiv y ∧ x.tdiv y ≤ 9223372036854775807) : bop .quo (.int .i64 x) (.int .i64 y) = some (.int .i64 (x.tdiv y)) := by
  simp only [bop, if_neg h, if_true]
  rw [wrap_i64 hb]
theorem tdivB {x y : Int} : -x.natAbs ≤ x.tdiv y ∧ x.tdiv y ≤ x.natAbs := by
  have := Int.natAbs_tdiv_le_natAbs x y
  omega
theorem top_pos {x s : Int} (hs : 1 ≤ s) (hx : ¬ x - 1 < 0) (hb : -3600 ≤ x ∧ x ≤ 3600) : (x - 1).tdiv s * s < x ∧ -3700 ≤ (x - 1).tdiv s ∧ (x - 1).tdiv s ≤ 3700 := by
  have h1 := tdivB (x := x - 1) (y := s)
  refine ⟨?_, by omega, by omega⟩
  rw [Int.tdiv_eq_ediv_of_nonneg (by omega)]
  have := Int.ediv_mul_le (x - 1) (show s ≠ 0 by omega)
  omega
theorem top_neg {x s : Int} (hs : 1 ≤ s ∧ s ≤ 30) (hx : x - 1 < 0) (hb : -3600 ≤ x ∧ x ≤ 3600) : -((s - x) / s) * s < x ∧ -3700 ≤ -((s - x) / s) ∧ -((s - x) / s) ≤ 3700 := by
  have h1 := Int.lt_ediv_add_one_mul_self (s - x) (show 0 < s by omega)
  have h2 := Int.ediv_le_self s (show 0 ≤ s - x by omega)
  have h3 : 0 ≤ (s - x) / s := Int.ediv_nonneg (by omega) (by omega)
  refine ⟨?_, ?_, by omega⟩
  · rw [Int.add_mul, Int.one_mul] at h1
    rw [Int.neg_mul]; omega
  · have := Int.ediv_le_self s (show 0 ≤ s - x by omega); omega
theorem small_bd {z : Int} (h : -100 ≤ z ∧ z ≤ 100) : bdZ 40 z := by
  unfold bdZ
  have : (2 : Nat) ^ 40 = 1099511627776 := by decide
  omega
section
variable {p q r s : Int}
theorem nd_fac (q0 : 0 < q) : ∃ g : Int, 0 < g ∧ p = g * nu (Rat.divInt p q) ∧ q = g * de (Rat.divInt p q) := by
  have hn : q ≠ 0 := Int.ne_of_gt q0
  rw [← rd_num hn, ← rd_den hn]
  have hg : 0 < rdG p q := by have := rdG_ne p hn; unfold rdG at *; omega
  refine ⟨rdG p q, hg, ?_, ?_⟩
  · unfold rdN rdS
    rw [if_neg (by omega), Int.fdiv_eq_ediv_of_nonneg _ (Int.le_of_lt hg)]; exact (Int.mul_ediv_cancel' (Int.gcd_dvd_left ..)).symm
  · unfold rdD rdS
    rw [if_neg (by omega), Int.fdiv_eq_ediv_of_nonneg _ (Int.le_of_lt hg)]; exact (Int.mul_ediv_cancel' (Int.gcd_dvd_right ..)).symm
theorem sim_small (q0 : 0 < q) (s0 : 0 < s) (lt : p * s < r * q) (bp : bdZ 40 p) (bq : bdZ 40 q) (br : bdZ 40 r) (bs : bdZ 40 s) :
    ∃ X Y : Int, SimI p q r s X Y ∧ inB X = true ∧ inB Y = true ∧ okR (mkN p q) (mkD p q) ∧ okR (mkN r s) (mkD r s) ∧ siR (mkN p q) (mkD p q) (mkN r s) (mkD r s) = rR X Y 0 := by
  have hq : q ≠ 0 := Int.ne_of_gt q0
  have hs : s ≠ 0 := Int.ne_of_gt s0
  have e1 : mkN p q = nu (Rat.divInt p q) := by rw [mkN, if_neg hq, rd_num hq]
  have e2 : mkD p q = de (Rat.divInt p q) := by rw [mkD, if_neg hq, rd_den hq]
  have e3 : mkN r s = nu (Rat.divInt r s) := by rw [mkN, if_neg hs, rd_num hs]
  have e4 : mkD r s = de (Rat.divInt r s) := by rw [mkD, if_neg hs, rd_den hs]
  have ba := bd_of bp bq hq
  have bb := bd_of br bs hs
  have lt' : Rat.divInt p q < Rat.divInt r s := (divInt_lt q0 s0).2 lt
  obtain ⟨g, g0, gp, gq⟩ := nd_fac (p := p) q0
  obtain ⟨h, h0, hr, hs'⟩ := nd_fac (p := r) s0
  rw [e1, e2, e3, e4]
  have qa := de_pos (Rat.divInt p q)
  have sb := de_pos (Rat.divInt r s)
  have l0 := lt_nd.1 lt'
  have oa := okR_x ba
  have ob := okR_x bb
  have c1 := sum_bd ba.1 bb.1
  have c2 : bdZ (40 + 1) (de (Rat.divInt p q) + de (Rat.divInt r s)) := bdZ_add ba.2 bb.2
  generalize nu (Rat.divInt p q) = a at *
  generalize de (Rat.divInt p q) = b at *
  generalize nu (Rat.divInt r s) = c at *
  generalize de (Rat.divInt r s) = d at *
  obtain ⟨X, Y, e, S⟩ := si_spec qa sb l0 (bdZ_in c1) (bdZ_in c2)
  have ka : a.natAbs ≤ p.natAbs := by
    rw [gp, Int.natAbs_mul]; exact Nat.le_mul_of_pos_left _ (by omega)
  have kc : c.natAbs ≤ r.natAbs := by
    rw [hr, Int.natAbs_mul]; exact Nat.le_mul_of_pos_left _ (by omega)
  have kb : b ≤ q := by
    have : 1 * b ≤ g * b := Int.mul_le_mul_of_nonneg_right (by omega) (by omega)
    omega
  have kd : d ≤ s := by
    have : 1 * d ≤ h * d := Int.mul_le_mul_of_nonneg_right (by omega) (by omega)
    omega
  have m1 := S.bx
  have m2 := S.bY
  have m3 := S.y0
  refine ⟨X, Y, ⟨S.y0, ?_, ?_, S.cop, by omega, by omega, ?_⟩, ?_, ?_, oa, ob, ?_⟩
  · rw [gp, gq, Int.mul_assoc, Int.mul_left_comm X]; exact Int.mul_lt_mul_of_pos_left S.lo g0
  · rw [hr, hs', Int.mul_assoc, Int.mul_left_comm X]; exact Int.mul_lt_mul_of_pos_left S.hi h0
  · intro u v hv h1 h2
    rw [gp, gq, Int.mul_assoc, Int.mul_left_comm u] at h1
    rw [hr, hs', Int.mul_assoc, Int.mul_left_comm u] at h2
    exact S.least u v hv (Int.lt_of_mul_lt_mul_left h1 (Int.le_of_lt g0)) (Int.lt_of_mul_lt_mul_left h2 (Int.le_of_lt h0))
  · refine bdZ_in (k := 41) ?_
    unfold bdZ at c1 ⊢; omega
  · refine bdZ_in (k := 41) ?_
    unfold bdZ at c2 ⊢; omega
  · rw [siR, if_pos l0, e]; rfl
end
end Go.VL

/- Walks over the Go functions, printed by a program of this session over the kit's print, and by hand. -/
set_option linter.unusedVariables false
set_option linter.unusedSimpArgs false
set_option maxRecDepth 100000
namespace Go.VL
open Go.Proofs
theorem x48 {z : Int} (h0 : -9223372036854775808 ≤ z) (h1 : z ≤ 9223372036854775807) : VF Try.prog 48 [iB z] (.tup [numB .i64 z, boolB true]) := by
  have h := f35 (zN z) (zL z) (len_zL' _) (ok32_zL _)
  rw [sm_of h0 h1, sm_back h0 h1] at h
  exact h
theorem x14 {p q r s : Int} (p0 : -60 ≤ p ∧ p ≤ 60) (q0 : 1 ≤ q ∧ q ≤ 30) (r0 : -60 ≤ r ∧ r ≤ 60) (s0 : 1 ≤ s ∧ s ≤ 30) (lt : p * s < r * q) : ∃ X Y : Int, SimI p q r s X Y ∧ inB X = true ∧ inB Y = true ∧ VF Try.prog 23 [qB (mkN p q) (mkD p q), qB (mkN r s) (mkD r s)] (rR X Y 0) := by
  obtain ⟨X, Y, S, i1, i2, oa, ob, e⟩ := sim_small (by omega) (by omega) lt (small_bd (by omega)) (small_bd (by omega)) (small_bd (by omega)) (small_bd (by omega))
  have h := g23 oa ob
  rw [e] at h
  exact ⟨X, Y, S, i1, i2, h⟩
theorem g49 {p q r s x : Int} (p0 : -60 ≤ p ∧ p ≤ 60) (q0 : 1 ≤ q ∧ q ≤ 30) (r0 : -60 ≤ r ∧ r ≤ 60) (s0 : 1 ≤ s ∧ s ≤ 30) (x0 : -120 ≤ x ∧ x ≤ 120) (hl : ∀ k : Int, p < k * q → k * s < r → x.natAbs ≤ k.natAbs) : VF Try.prog 49 [numB .i64 (p), numB .i64 (q), numB .i64 (r), numB .i64 (s), numB .i64 (x)] (boolB true) := by
  refine VF_of P_mixed Try.func49 rfl rfl (by kernel_rfl) <| Sq <| Rg <| Vs (As rfl) <| Nx <| Sq <| Sq <| Rg <| Vs (As rfl) <| Nx <| Bk <| VCode.loop (α := (Int)) (fun k => (0, sl [(0, vI .i64 (p)), (1, vI .i64 (q)), (2, vI .i64 (r)), (3, vI .i64 (s)), (4, vI .i64 (x)), (11, vI .i64 (k))], en [])) (fun k => -60 ≤ k ∧ k ≤ 61) (fun k => (61 - k).toNat) (-60) (by omega) Wk ?_
  intro k hok
  have m1 := mulB (x := k) (y := q) (A := 61) (B := 30) (C := 1830) ⟨by omega, by omega⟩ ⟨by omega, by omega⟩ rfl
  have m2 := mulB (x := k) (y := s) (A := 61) (B := 30) (C := 1830) ⟨by omega, by omega⟩ ⟨by omega, by omega⟩ rfl
  change VCode _ _ _ 0 (sl _) (en _) _
  refine Sq <| Sq <| Rg <| Vs (Mv rfl) <| Vs (Bi rfl) <| Nx <| Cd rfl (fun hc1 => ?_) (fun hc1 => ?_)
  · replace hc1 := of_decide_eq_true hc1
    refine Ks <| Tg <| Sq <| Bk <| Sq <| Rg <| Vs (Mv rfl) <| Vs (Mv rfl) <| Vs (Mv rfl) <| Vs (Bo rfl muI) <| Vs (Bi rfl) <| Vs (Mv rfl) <| Sp 21 rfl (fun hc2 => ?_) (fun hc2 => ?_)
    · replace hc2 := of_decide_eq_true hc2
      refine Vs (Mv rfl) <| Vs (Mv rfl) <| Vs (Bo rfl muI) <| Vs (Mv rfl) <| Vs (Bi rfl) <| Vs (Pk rfl) <| Vs (Mv rfl) <| Sp 28 rfl (fun hc3 => ?_) (fun hc3 => ?_)
      · replace hc3 := of_decide_eq_true hc3
        exact Vs (Mv rfl) <| Vs (Mv rfl) <| Vs (Uo rfl nvI) <| Vs (Mx rfl) <| Vs (Mv rfl) <| Vs (Mv rfl) <| Vs (Uo rfl nvI) <| Vs (Mx rfl) <| Vs (Kb (show decide ((if (-k) > k then (-k) else k) < (if (-x) > x then (-x) else x)) = false from (decide_eq_false (by have := hl k hc2 hc3; split <;> split <;> omega))) (Bi rfl)) <| Vs (Pk rfl) <| Nx <| Cz rfl <| Ks <| Ig <| Tg <| Rg <| Vs (Mv rfl) <| Vs (Bo rfl adI) <| Vs (As rfl) <| VList.nil <| Go (k + 1) (by omega) Wk
      · replace hc3 := of_decide_eq_false hc3
        exact Sk rfl <| Sk rfl <| Sk rfl <| Sk rfl <| Sk rfl <| Sk rfl <| Sk rfl <| Sk rfl <| Sk rfl <| Vs (Pk rfl) <| Nx <| Cz rfl <| Ks <| Ig <| Tg <| Rg <| Vs (Mv rfl) <| Vs (Bo rfl adI) <| Vs (As rfl) <| VList.nil <| Go (k + 1) (by omega) Wk
    · replace hc2 := of_decide_eq_false hc2
      exact Sk rfl <| Sk rfl <| Sk rfl <| Sk rfl <| Sk rfl <| Vs (Pk rfl) <| Vs (Mv rfl) <| Sk rfl <| Sk rfl <| Sk rfl <| Sk rfl <| Sk rfl <| Sk rfl <| Sk rfl <| Sk rfl <| Sk rfl <| Vs (Pk rfl) <| Nx <| Cz rfl <| Ks <| Ig <| Tg <| Rg <| Vs (Mv rfl) <| Vs (Bo rfl adI) <| Vs (As rfl) <| VList.nil <| Go (k + 1) (by omega) Wk
  · replace hc1 := of_decide_eq_false hc1
    exact Ke <| Te <| Oe <| Ih <| Tg <| Sq <| Rg <| Vs (As rfl) <| Nx <| Re <| Fi (l := [boolB (true)]) (Rc (resVar_tmp rfl rfl) Rn) rfl
theorem g14 (x : Int) (x0 : -128 ≤ x) (x1 : x ≤ 127) (y : Int) (y0 : 0 ≤ y) (y1 : y ≤ 255) (z : Int) (z0 : -128 ≤ z) (z1 : z ≤ 127) (w : Int) (w0 : 0 ≤ w) (w1 : w ≤ 255) : VF Try.prog 14 [numB .i8 (x), numB .u8 (y), numB .i8 (z), numB .u8 (w)] (boolB true) := by
  have t1 := tmodB (x := x) 61 (by decide)
  have t2 := tmodB (x := z) 61 (by decide)
  refine VF_of P_mixed Try.func14 rfl rfl (by kernel_rfl) <| Sq <| Rg <| Vs (As rfl) <| Nx <| Sq <| Rg <| Vs (Cf rfl rfl (g15) rfl) <| Vs (As rfl) <| Nx <| VCode.join (α := (Int) × (Int) × (Int) × (Int)) (fun x_ => match x_ with | (p, q, r, s) => (0, sl [(9, vB (true)), (10, vI .i64 (p)), (11, vI .i64 (q)), (12, vI .i64 (r)), (13, vI .i64 (s))], en [])) (fun x_ => match x_ with | (p, q, r, s) => (-60 ≤ p ∧ p ≤ 60) ∧ (1 ≤ q ∧ q ≤ 30) ∧ (-60 ≤ r ∧ r ≤ 60) ∧ (1 ≤ s ∧ s ≤ 30)) ?_ ?_
  · skip
    exact Rg <| Vs (Mv rfl) <| Vs (Cv TU57 TU3 rfl wrI) <| Vs (Bo (c := .int .i64 (Int.tmod x 61)) rfl (re_tm (by decide))) <| Vs (Mv rfl) <| Vs (Cv TU5 TU3 rfl wrI) <| Vs (Bo rfl reI) <| Vs (Bo rfl adI) <| Vs (Mv rfl) <| Vs (Cv TU57 TU3 rfl wrI) <| Vs (Bo (c := .int .i64 (Int.tmod z 61)) rfl (re_tm (by decide))) <| Vs (Mv rfl) <| Vs (Cv TU5 TU3 rfl wrI) <| Vs (Bo rfl reI) <| Vs (Bo rfl adI) <| Vs (As rfl) <| Vs (As rfl) <| Vs (As rfl) <| Vs (As rfl) <| VList.nil <| Jg (Int.tmod x 61, 1 + y % 30, Int.tmod z 61, 1 + w % 30) ⟨by omega, by omega, by omega, by omega⟩ Wk
  · rintro ⟨p, q, r, s⟩ hok
    obtain ⟨p0, q0, r0, s0⟩ := hok
    have m1 := mulB (x := p) (y := s) (A := 60) (B := 30) (C := 1800) ⟨by omega, by omega⟩ ⟨by omega, by omega⟩ rfl
    have m2 := mulB (x := r) (y := q) (A := 60) (B := 30) (C := 1800) ⟨by omega, by omega⟩ ⟨by omega, by omega⟩ rfl
    change VCode _ _ _ 0 (sl _) (en _) _
    refine Sq <| Sq <| Rg <| Vs (Mv rfl) <| Vs (Mv rfl) <| Vs (Bo rfl muI) <| Vs (Mv rfl) <| Vs (Mv rfl) <| Vs (Bo rfl muI) <| Vs (Bi rfl) <| Nx <| Cd rfl (fun hc1 => ?_) (fun hc1 => ?_)
    · replace hc1 := of_decide_eq_true hc1
      exact Sq <| Rg <| Vs (Mv rfl) <| Vs (As rfl) <| Nx <| Re <| Tr <| Fi (l := [boolB (true)]) (Rc (resVar_tmp rfl rfl) Rn) rfl
    · replace hc1 := of_decide_eq_false hc1
      have lt : p * s < r * q := by omega
      obtain ⟨X, Y, S, i1, i2, h23⟩ := x14 p0 q0 r0 s0 lt
      have bX := S.bx
      have bY := S.bY
      have bZ := S.y0
      have n1 := mulB (x := p) (y := Y) (A := 60) (B := 60) (C := 3600) ⟨by omega, by omega⟩ ⟨by omega, by omega⟩ rfl
      have n2 := mulB (x := X) (y := q) (A := 120) (B := 30) (C := 3600) ⟨by omega, by omega⟩ ⟨by omega, by omega⟩ rfl
      have n3 := mulB (x := X) (y := s) (A := 120) (B := 30) (C := 3600) ⟨by omega, by omega⟩ ⟨by omega, by omega⟩ rfl
      have n4 := mulB (x := r) (y := Y) (A := 60) (B := 60) (C := 3600) ⟨by omega, by omega⟩ ⟨by omega, by omega⟩ rfl
      refine Ks <| Tg <| Sq <| Rg <| Vs (Mv rfl) <| Vs (Mv rfl) <| Vs (C0 rfl rfl (g45 (k := p) (d := q) (by omega) (by omega) (by omega) (by omega))) <| Vs (Mv rfl) <| Vs (Mv rfl) <| Vs (C0 rfl rfl (g45 (k := r) (d := s) (by omega) (by omega) (by omega) (by omega))) <| Vs (C0 rfl rfl (h23)) <| Vs (Mv rfl) <| Vs (Xt rfl) <| Vs (Xt rfl) <| Vs (Al 17 TZ27 rfl) <| Vs (StS TS27 rfl) <| Vs (As rfl) <| Nx <| Sq <| Rg <| Vs (Fa TF27_0 rfl) <| Vs (LdS TA24 TS24 rfl) <| Vs (C0 rfl rfl (x48 (z := X) (by omega) (by omega))) <| Vs (Mv rfl) <| Vs (Xt rfl) <| Vs (Xt rfl) <| Vs (As rfl) <| Vs (As rfl) <| Nx <| Sq <| Rg <| Vs (Fa TF27_1 rfl) <| Vs (LdS TA24 TS24 rfl) <| Vs (C0 rfl rfl (x48 (z := Y) (by omega) (by omega))) <| Vs (Mv rfl) <| Vs (Xt rfl) <| Vs (Xt rfl) <| Vs (As rfl) <| Vs (As rfl) <| Nx <| Sq <| Sq <| Rg <| Vs (Mv rfl) <| Vs (Bi (c := .bool false) rfl) <| Vs (Mv rfl) <| Vs (Mv rfl) <| Vs (Un rfl) <| Vs (Pk rfl) <| Vs (Mv rfl) <| Vs (Mv rfl) <| Vs (Un rfl) <| Vs (Pk rfl) <| Vs (Mv rfl) <| Vs (Mv rfl) <| Vs (Kb (show decide (Y < 1) = false from (decide_eq_false (by omega))) (Bi rfl)) <| Vs (Pk rfl) <| Vs (Mv rfl) <| Vs (Mv rfl) <| Vs (Kb (show decide (Y > 1000) = false from (decide_eq_false (by omega))) (Bi rfl)) <| Vs (Pk rfl) <| Vs (Mv rfl) <| Vs (Mv rfl) <| Vs (Kb (show decide (X < (-100000)) = false from (decide_eq_false (by omega))) (Bi rfl)) <| Vs (Pk rfl) <| Vs (Mv rfl) <| Vs (Mv rfl) <| Vs (Kb (show decide (X > 100000) = false from (decide_eq_false (by omega))) (Bi rfl)) <| Vs (Pk rfl) <| Vs (Mv rfl) <| Vs (Mv rfl) <| Vs (Mv rfl) <| Vs (Bo rfl muI) <| Vs (Mv rfl) <| Vs (Mv rfl) <| Vs (Bo rfl muI) <| Vs (Kb (show decide ((p * Y) ≥ (X * q)) = false from (decide_eq_false (by have := S.lo; omega))) (Bi rfl)) <| Vs (Pk rfl) <| Vs (Mv rfl) <| Vs (Mv rfl) <| Vs (Mv rfl) <| Vs (Bo rfl muI) <| Vs (Mv rfl) <| Vs (Mv rfl) <| Vs (Bo rfl muI) <| Vs (Kb (show decide ((X * s) ≥ (r * Y)) = false from (decide_eq_false (by have := S.hi; omega))) (Bi rfl)) <| Vs (Pk rfl) <| Nx <| Cz rfl <| Ks <| Tg <| Sq <| Sq <| Rg <| Vs (As rfl) <| Nx <| Bk <| VCode.loop (α := (Int)) (fun k => (0, sl [(9, vB (true)), (10, vI .i64 (p)), (11, vI .i64 (q)), (12, vI .i64 (r)), (13, vI .i64 (s)), (16, vI .i64 (X)), (18, vI .i64 (Y)), (20, vI .i64 (k))], en [])) (fun k => 1 ≤ k ∧ k ≤ Y) (fun k => (Y - k).toNat) (1) (by omega) Wk ?_
      intro k hk
      obtain ⟨kl, kh⟩ := hk
      have k2 := mulB (x := r) (y := k) (A := 60) (B := 60) (C := 3600) ⟨by omega, by omega⟩ ⟨by omega, by omega⟩ rfl
      have k3 := mulB (x := p) (y := k) (A := 60) (B := 60) (C := 3600) ⟨by omega, by omega⟩ ⟨by omega, by omega⟩ rfl
      change VCode _ _ _ 0 (sl _) (en _) _
      refine Sq <| Sq <| Rg <| Vs (Mv rfl) <| Vs (Mv rfl) <| Vs (Bi rfl) <| Nx <| Cd rfl (fun hc2 => ?_) (fun hc2 => ?_)
      · replace hc2 := of_decide_eq_true hc2
        refine Ks <| Tg <| Sq <| Bk <| Sq <| Rg <| Vs (Mv rfl) <| Vs (Mv rfl) <| Vs (Bo rfl muI) <| Vs (Bo rfl suI) <| Vs (Mv rfl) <| Vs (Bo (c := .int .i64 (Int.tdiv ((r * k) - 1) s)) rfl (qu_td (by omega) (by have := tdivB (x := r * k - 1) (y := s); omega))) <| Vs (As rfl) <| Nx <| VCode.join (α := (Int)) (fun top => (0, sl [(9, vB (true)), (10, vI .i64 (p)), (11, vI .i64 (q)), (12, vI .i64 (r)), (13, vI .i64 (s)), (16, vI .i64 (X)), (18, vI .i64 (Y)), (20, vI .i64 (k)), (21, vI .i64 (top))], en [])) (fun top => top * s < r * k ∧ -3700 ≤ top ∧ top ≤ 3700) ?_ ?_
        · skip
          refine Sq <| Rg <| Vs (Mv rfl) <| Vs (Mv rfl) <| Vs (Bo rfl muI) <| Vs (Bo rfl suI) <| Vs (Bi rfl) <| Nx <| Cd rfl (fun hc3 => ?_) (fun hc3 => ?_)
          · replace hc3 := of_decide_eq_true hc3
            exact Rg <| Vs (Mv rfl) <| Vs (Mv rfl) <| Vs (Mv rfl) <| Vs (Bo rfl muI) <| Vs (Bo rfl suI) <| Vs (Mv rfl) <| Vs (Bo rfl quI) <| Vs (Uo rfl (nvI (h := (by have h9 := (top_neg s0 hc3 k2).2; omega)))) <| Vs (As rfl) <| VList.nil <| Jg (-((s - (r * k)) / s)) (top_neg s0 hc3 k2) Wk
          · replace hc3 := of_decide_eq_false hc3
            exact Ks <| Jg (Int.tdiv ((r * k) - 1) s) (top_pos s0.1 hc3 k2) Wk
        · intro top hot
          obtain ⟨o1, o2, o3⟩ := hot
          have o4 := mulB (x := top) (y := q) (A := 3700) (B := 30) (C := 111000) ⟨by omega, by omega⟩ ⟨by omega, by omega⟩ rfl
          change VCode _ _ _ 0 (sl _) (en _) _
          refine Sq <| Rg <| Vs (Mv rfl) <| Vs (Mv rfl) <| Vs (Bo rfl muI) <| Vs (Mv rfl) <| Vs (Mv rfl) <| Vs (Bo rfl muI) <| Vs (Bi rfl) <| Nx <| Cd rfl (fun hc4 => ?_) (fun hc4 => ?_)
          · replace hc4 := of_decide_eq_true hc4
            exact absurd (S.least top k (by omega) hc4 (by omega)).2 (by omega)
          · replace hc4 := of_decide_eq_false hc4
            exact Ks <| Ig <| Tg <| Rg <| Vs (Mv rfl) <| Vs (Bo rfl adI) <| Vs (As rfl) <| VList.nil <| Go (k + 1) (by omega) Wk
      · replace hc2 := of_decide_eq_false hc2
        refine Ke <| Te <| Oe <| Ih <| Tg <| Sq <| Rg <| Vs (Mv rfl) <| Vs (Mv rfl) <| Vs (Mv rfl) <| Vs (Bi rfl) <| Vs (Mv rfl) <| Sp 146 rfl (fun hc5 => ?_) (fun hc5 => ?_)
        · replace hc5 := of_decide_eq_true hc5
          exact Sk rfl <| Sk rfl <| Sk rfl <| Sk rfl <| Sk rfl <| Sk rfl <| Vs (Pk rfl) <| Vs (Pk rfl) <| Vs (As rfl) <| Nx <| Re <| Fi (l := [boolB (true)]) (Rc (resVar_tmp rfl rfl) Rn) rfl
        · replace hc5 := of_decide_eq_false hc5
          exact Vs (Mv rfl) <| Vs (Mv rfl) <| Vs (Mv rfl) <| Vs (Mv rfl) <| Vs (Mv rfl) <| Vs (Cf rfl rfl (g49 p0 q0 r0 s0 (by omega) (fun k h1 h2 => (S.least k 1 (by decide) (by omega) (by omega)).1)) rfl) <| Vs (Pk rfl) <| Vs (Pk rfl) <| Vs (As rfl) <| Nx <| Re <| Fi (l := [boolB (true)]) (Rc (resVar_tmp rfl rfl) Rn) rfl
end Go.VL

set_option linter.unusedVariables false
set_option linter.unusedSimpArgs false
set_option maxRecDepth 100000
namespace Go.Proofs.Ytnabpemjcidhdaa
open Go.ChangeShapes Go.WideShapes Go.ChangeAt Go.RowKit Go.VL

theorem rationalSimplestLeast_lifted (os : Os) (started : os.Started) (H : Type) (enc : TypeId × Value → H) :
    ReturnsInHanded {} Try.checked os 14 .any (Rows.rationalSimplestLeastSpec.pre6 enc Try.prog Try.f14 Rows.rationalSimplestLeastRow.domain false) (Rows.rationalSimplestLeastSpec.post enc Try.prog Try.f14 false true false false) := by
  refine returnsInHanded_of_change (C := Try.checked) Try_own started (by kernel_rfl) Try.func14
    (ChangeSpec.witness6 (enc := enc) (C := Try.checked) false ⟨#[], #[.int .i8 0, .int .u8 0, .int .i8 0, .int .u8 0], []⟩ 8 (by kernel_rfl) (by kernel_rfl) (by kernel_rfl) (by kernel_rfl)) ?_
  intro W base args ds gs before hval0 hW hcnd _
  have hval : ∀ (j : Nat) t v, Try.f14.params[j]? = some t → args[j]? = some v → Value.okWide Try.prog W .any base t v := hval0
  have hW' := hW
  obtain ⟨p, q, hA0, hV, rfl, hfz, hnd⟩ := hW
  have hA : DataW.TrodAll enc Try.prog W 0 (fun _ => true) true Try.f14.params.toList args.toList ds p := hA0
  have hA1 := hA
  rw [Try.params14] at hA hval
  obtain ⟨v0, v1, v2, v3, d0, d1, d2, d3, p0, p1, p2, p3, rfl, rfl, rfl, h0, h1, h2, h3⟩ := trodAll_four hA
  obtain ⟨rfl, rfl⟩ := trodVars_none hV
  obtain ⟨k0, r0, a0, b0⟩ := open_i8 (hval 0 57 v0 rfl rfl) h0
  obtain ⟨k1, r1, a1, b1⟩ := open_u8 (hval 1 5 v1 rfl rfl) h1
  obtain ⟨k2, r2, a2, b2⟩ := open_i8 (hval 2 57 v2 rfl rfl) h2
  obtain ⟨k3, r3, a3, b3⟩ := open_u8 (hval 3 5 v3 rfl rfl) h3
  simp only [List.append_nil] at hW'
  have hlt : ∀ x ∈ p0 ++ p1 ++ p2 ++ p3, x.block < W.heap.size := fun x hx => hW'.lt x hx
  have hread : ∀ t ∈ Try.f14.params.toList, Try.prog.readableRec t = true ∧ t < Try.prog.types.size := by rw [Try.params14]; exact types_cons T57 (types_cons T5 (types_cons T57 (types_cons T5 (types_nil))))
  refine ((g14 k0 a0 b0 k1 a1 b1 k2 a2 b2 k3 a3 b3).runs (xs := [v0, v1, v2, v3]) rfl (reps_cons r0 (reps_cons r1 (reps_cons r2 (reps_cons r3 reps_nil))))).mono fun e W' ⟨he, hb⟩ => ?_
  subst he
  exact ⟨_, rfl, post_of_below (pa := _) (pv := []) hW' (fun _ _ _ => trodAll_mk1 shut_true) (fun sp hsp => args_stay Try_laidOut hb hread hA1 hlt hsp) (fun _ _ => rfl) (by simp) hb (ok_one (by kernel_rfl) rfl ok_true)⟩

theorem rationalSimplestLeast_facts : joinedFacts Try.pinned.checked.prog 14 Try.f14 Rows.rationalSimplestLeastSpec Rows.rationalSimplestLeastRow = true := by
  unfold joinedFacts
  rw [head_may, head_lifts, head_make]
  kernel_rfl

theorem rationalSimplestLeast_holds : Rows.RationalSimplestLeastSaid :=
  OpenClaim.holds_of_wide 14 Try.f14 rfl rfl rfl rfl rfl rfl rfl ⟨rfl, rfl, rfl, rfl, rfl⟩ rfl rfl rfl rfl rfl (by kernel_rfl) Try.func14 rationalSimplestLeast_facts
    (of_decide_eq_true (by kernel_rfl)) (by unfold Func.isWrapper; rw [if_neg (of_decide_eq_false (by kernel_rfl))]; exact ⟨rfl, rfl⟩)
    (fun os started H enc _ => rationalSimplestLeast_lifted os started H enc)

end Go.Proofs.Ytnabpemjcidhdaa
