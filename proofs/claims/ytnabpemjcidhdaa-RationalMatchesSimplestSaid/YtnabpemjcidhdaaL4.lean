/- RationalMatchesSimplest returns true for every input and leaves the input as it was. No condition. -/
import Derived.Test.YtnabpemjcidhdaaK4
/- Plain laws of rationals: what the functions return stays in bounds. No program. -/
set_option linter.unusedVariables false
namespace Go.VL
section
variable {x y p q r s : Int}
theorem rdS_in (h : inB x = true) : inB (rdS x y) = true := by
  unfold rdS; split
  · exact (in_neg x).trans h
  · exact h
theorem rdN_in (hx : inB x = true) : inB (rdN x y) = true := by
  unfold rdN
  by_cases h : rdG x y = 0
  · rw [h, Int.fdiv_zero]; exact in_zero
  · exact fdiv_in (rdS_in hx) h
theorem rdD_in (hy : inB y = true) : inB (rdD x y) = true := by
  unfold rdD
  by_cases h : rdG x y = 0
  · rw [h, Int.fdiv_zero]; exact in_zero
  · exact fdiv_in (rdS_in hy) h
theorem mkN_in (hx : inB x = true) : inB (mkN x y) = true := by
  unfold mkN; split
  · exact in_zero
  · exact rdN_in hx
theorem mkD_in (hy : inB y = true) : inB (mkD x y) = true := by
  unfold mkD; split
  · exact in_zero
  · exact rdD_in hy
theorem sh_nil (z : Int) : shZ z 0 = z := by simp [shZ]
theorem fl_nil {k : Int} (h : ¬ k > 0) (h1 : k ≥ 0) (hi : inB (p.fdiv q) = true) : zR (flZ p q k) = oneB [iB (p.fdiv q), numB .i64 0] := by
  have : k = 0 := by omega
  subst this
  rw [flZ, if_pos (Int.le_refl 0), sh_nil, zR, zE_in.2 hi]; rfl
theorem fl_ins (z : Int) : ∃ w e : Int, inB w = true ∧ zR z = .tup [iB w, numB .i64 e] := by
  cases h : inB z with
  | true => exact ⟨z, zE z, h, rfl⟩
  | false => exact ⟨0, zE z, in_zero, by rw [zR, zB_zero, ← iB_out (z := z) (fun hc => by rw [zE_in.1 hc] at h; cases h)]⟩
theorem sq_ins (hp : inB p = true) (hq : inB q = true) : inB (sqQn p q) = true ∧ inB (sqQd p q) = true := by
  have hs : ∀ z : Int, inB z = true → inB (isq z) = true := fun z hz => by
    by_cases h : 0 ≤ z
    · exact (sq_in h hz).1
    · have : isq z = 0 := by unfold isq; rw [show z.toNat = 0 by omega]; rfl
      rw [this]; exact in_zero
  unfold sqQn sqQd
  split
  · exact ⟨hs _ hp, hs _ hq⟩
  · exact ⟨in_zero, in_zero⟩
end
end Go.VL

/- Plain laws of rationals: the simplest fraction stays in bounds. No program. -/
set_option linter.unusedVariables false
namespace Go.VL
theorem cfP_last (k : Nat) : ∀ (n d m f : Int) (L : List Int), cfP k n d m f = some L → L ≠ [] ∧ inB (L.getD (L.length - 1) 0) = true := by
  induction k with
  | zero => intro n d m f L h; rw [cfP] at h; exact absurd h (by simp)
  | succ k ih =>
    intro n d m f L h
    rw [cfP] at h
    by_cases h1 : inB (n.fdiv d + 1) = false
    · rw [if_pos h1] at h; exact absurd h (by simp)
    · rw [if_neg h1] at h
      rw [Bool.not_eq_false] at h1
      by_cases h2 : f = 0 ∨ (n.fdiv d + 1) * f < m
      · rw [if_pos h2] at h
        injection h with h
        rw [← h]
        exact ⟨List.cons_ne_nil _ _, h1⟩
      · rw [if_neg h2] at h
        cases e : cfP k f (m - n.fdiv d * f) d (n.fmod d) with
        | none => rw [e] at h; exact absurd h (by simp)
        | some L' =>
          rw [e, Option.map_some] at h
          obtain ⟨h3, h4⟩ := ih _ _ _ _ L' e
          injection h with h
          rw [← h]
          refine ⟨List.cons_ne_nil _ _, ?_⟩
          have hl : 0 < L'.length := List.length_pos_iff.2 h3
          rw [List.length_cons, show L'.length + 1 - 1 = (L'.length - 1) + 1 by omega, List.getD_cons_succ]
          exact h4
theorem cfF_in (L : List Int) : ∀ (a b : Int) (x : Int × Int), inB a = true → inB b = true → cfF a b L = some x → inB x.1 = true ∧ inB x.2 = true := by
  induction L with
  | nil => intro a b x ha hb h; rw [cfF] at h; injection h with h; rw [← h]; exact ⟨ha, hb⟩
  | cons y L ih =>
    intro a b x ha hb h
    rw [cfF] at h
    by_cases h1 : inB (y * a) = false
    · rw [if_pos h1] at h; exact absurd h (by simp)
    · rw [if_neg h1] at h
      by_cases h2 : inB (y * a + b) = false
      · rw [if_pos h2] at h; exact absurd h (by simp)
      · rw [if_neg h2] at h
        exact ih _ _ x (by rwa [Bool.not_eq_false] at h2) ha h
section
variable {p q r s : Int}
theorem cfQ_in (x : Int × Int) (h : cfQ p q r s = some x) : inB x.1 = true ∧ inB x.2 = true := by
  unfold cfQ cfL at h
  cases e : cfP ((q + s).toNat + 1) p q r s with
  | none => rw [e, Option.bind_none] at h; exact absurd h (by simp)
  | some L =>
    rw [e, Option.bind_some] at h
    obtain ⟨_, h1⟩ := cfP_last _ _ _ _ _ L e
    exact cfF_in _ _ _ x h1 in_one h
theorem po_ins : inB (poN (cfQ p q r s)) = true ∧ inB (poD (cfQ p q r s)) = true := by
  cases e : cfQ p q r s with
  | none => exact ⟨in_zero, in_zero⟩
  | some x => exact cfQ_in x e
theorem si_mid' (h : p * s < r * q) (h1 : p < 0) (h2 : 0 < r) : siR p q r s = oneB [qB 0 1, numB .i64 0] := by
  rw [siR, if_pos h, siQ, if_pos ⟨h1, h2⟩]; rfl
theorem siQ_in (x : Int × Int) (h : siQ p q r s = some x) : inB x.1 = true ∧ inB x.2 = true := by
  unfold siQ at h
  by_cases h1 : p < 0 ∧ 0 < r
  · rw [if_pos h1] at h; injection h with h; rw [← h]; exact ⟨in_zero, in_one⟩
  · rw [if_neg h1] at h
    by_cases h2 : p < 0
    · rw [if_pos h2] at h
      cases e : cfQ (-r) s (-p) q with
      | none => rw [e] at h; exact absurd h (by simp)
      | some y =>
        rw [e, Option.map_some] at h
        injection h with h; rw [← h]
        exact ⟨(in_neg y.1).trans (cfQ_in y e).1, (cfQ_in y e).2⟩
    · rw [if_neg h2] at h; exact cfQ_in x h
/-- The answer, in its three parts. -/
theorem si_parts : ∃ x y e : Int, inB x = true ∧ inB y = true ∧ siR p q r s = rR x y e := by
  unfold siR
  by_cases h : p * s < r * q
  · rw [if_pos h]
    refine ⟨_, _, _, ?_, ?_, rfl⟩
    · cases e : siQ p q r s with
      | none => exact in_zero
      | some x => exact (siQ_in x e).1
    · cases e : siQ p q r s with
      | none => exact in_zero
      | some x => exact (siQ_in x e).2
  · rw [if_neg h]; exact ⟨0, 0, 1, in_zero, in_zero, rfl⟩
end
end Go.VL

/- Walks over the Go functions, printed by a program of this session over the kit's print, and by hand. -/
set_option linter.unusedVariables false
set_option linter.unusedSimpArgs false
set_option maxRecDepth 100000
namespace Go.VL
open Go.Proofs
theorem g69 {z : Int} (hz : inB z = true) : VF Try.prog 69 [.agg [boolB (zN (z)), u32S (zL (z))]] (iB (-z)) := by
  refine VF_of P_mixed Try.func69 rfl rfl (by kernel_rfl) <| Sq <| Rg <| Vs (Bx 0 rfl) <| Vs (Al 1 TZ24 rfl) <| Nx <| Sq <| Sq <| Rg <| Vs (LdS TA24 TS24 rfl) <| Vs (Cf rfl rfl (g55 (z := z) inT) rfl) <| Nx <| Cd rfl (fun hc1 => ?_) (fun hc1 => ?_)
  · replace hc1 := of_decide_eq_true hc1
    exact Sq <| Rg <| Vs (LdS TA24 TS24 rfl) <| Vs (StS TS24 rfl) <| Nx <| Re <| Tr <| Fi (l := [.agg [boolB (zN (z)), u32S (zL (z))]]) (Rc (resVar_cell rfl rfl TA24 TS24 (Nat.le_of_ble_eq_true rfl) rfl) Rn) (retZ (by omega))
  · replace hc1 := of_decide_eq_false hc1
    exact Ks <| Tg <| Sq <| Rg <| Vs (Fa TF24_0 rfl) <| Vs (Ld TA4 rfl) <| Vs (Un rfl) <| Vs (Fa TF24_1 rfl) <| Vs (Ld TA22 rfl) <| Vs (Bd TQ24 rfl) <| Vs (StS TS24 rfl) <| Nx <| Re <| Fi (l := [.agg [boolB ((!zN (z))), u32S (zL (z))]]) (Rc (resVar_cell rfl rfl TA24 TS24 (Nat.le_of_ble_eq_true rfl) rfl) Rn) (negR (mt (by have := zL_nil hz; omega) hc1))
theorem g56 {x y : Int} (hx : inB x = true) (hy : inB y = true) (h0 : y ≠ 0) : VF Try.prog 56 [.agg [boolB (zN (x)), u32S (zL (x))], .agg [boolB (zN (y)), u32S (zL (y))]] (qB (rdN x y) (rdD x y)) := by
  have nx : inB (-x) = true := (in_neg x).trans hx
  have ny : inB (-y) = true := (in_neg y).trans hy
  have gi := rdG_in hx hy
  have gn := rdG_ne x h0
  refine VF_of P_mixed Try.func56 rfl rfl (by kernel_rfl) <| Sq <| Rg <| Vs (Bx 0 rfl) <| Vs (Bx 1 rfl) <| Vs (Al 2 TZ27 rfl) <| Nx <| Sq <| Rg <| Vs (LdS TA24 TS24 rfl) <| Vs (LdS TA24 TS24 rfl) <| Vs (C0 rfl rfl (d32 (x := x) (y := y) inT inT)) <| Vs (Mv rfl) <| Vs (Xt rfl) <| Vs (Xt rfl) <| Vs (Al 9 TZ24 rfl) <| Vs (StS TS24 rfl) <| Vs (As rfl) <| Nx <| Sq <| Sq <| Rg <| Vs (Fa TF24_0 rfl) <| Vs (Ld TA4 rfl) <| Nx <| Cd rfl (fun hc1 => ?_) (fun hc1 => ?_)
  · (try simp at hc1)
    have hy0 : y < 0 := zN_lt hc1
    exact Sq <| Rg <| Vs (LdS TA24 TS24 rfl) <| Vs (C0 rfl rfl (g69 (z := x) inT)) <| Vs (StS TS24 rfl) <| Nx <| Rg <| Vs (LdS TA24 TS24 rfl) <| Vs (C0 rfl rfl (g69 (z := y) inT)) <| Vs (StS TS24 rfl) <| Nx <| Sq <| Rg <| Vs (LdS TA24 TS24 rfl) <| Vs (LdS TA24 TS24 rfl) <| Vs (C0 rfl rfl (d19 (x := -(x)) (y := rdG (x) (y)) inT inT (by first | with_reducible assumption | omega))) <| Vs (Mv rfl) <| Vs (Xt rfl) <| Vs (Xt rfl) <| Vs (Xt rfl) <| Vs (Al 27 TZ24 rfl) <| Vs (Al 28 TZ24 rfl) <| Vs (StS TS24 rfl) <| Vs (StS TS24 rfl) <| Vs (As rfl) <| Nx <| Sq <| Rg <| Vs (LdS TA24 TS24 rfl) <| Vs (LdS TA24 TS24 rfl) <| Vs (C0 rfl rfl (d19 (x := -(y)) (y := rdG (x) (y)) inT inT (by first | with_reducible assumption | omega))) <| Vs (Mv rfl) <| Vs (Xt rfl) <| Vs (Xt rfl) <| Vs (Xt rfl) <| Vs (Al 39 TZ24 rfl) <| Vs (Al 40 TZ24 rfl) <| Vs (StS TS24 rfl) <| Vs (StS TS24 rfl) <| Vs (As rfl) <| Nx <| Sq <| Rg <| Vs (LdS TA24 TS24 rfl) <| Vs (LdS TA24 TS24 rfl) <| Vs (Bd TQ27 rfl) <| Vs (StS TS27 rfl) <| Nx <| Re <| Fi (l := [.agg [boolB (zN ((-(x)).fdiv (rdG (x) (y)))), u32S (zL ((-(x)).fdiv (rdG (x) (y)))), boolB (zN ((-(y)).fdiv (rdG (x) (y)))), u32S (zL ((-(y)).fdiv (rdG (x) (y))))]]) (Rc (resVar_cell rfl rfl TA27 TS27 (Nat.le_of_ble_eq_true rfl) rfl) Rn) (rdR1 hy0)
  · (try simp at hc1)
    have hy0 : ¬ y < 0 := zN_ge hy hc1
    exact Ks <| Tg <| Sq <| Rg <| Vs (LdS TA24 TS24 rfl) <| Vs (LdS TA24 TS24 rfl) <| Vs (C0 rfl rfl (d19 (x := x) (y := rdG (x) (y)) inT inT (by first | with_reducible assumption | omega))) <| Vs (Mv rfl) <| Vs (Xt rfl) <| Vs (Xt rfl) <| Vs (Xt rfl) <| Vs (Al 21 TZ24 rfl) <| Vs (Al 22 TZ24 rfl) <| Vs (StS TS24 rfl) <| Vs (StS TS24 rfl) <| Vs (As rfl) <| Nx <| Sq <| Rg <| Vs (LdS TA24 TS24 rfl) <| Vs (LdS TA24 TS24 rfl) <| Vs (C0 rfl rfl (d19 (x := y) (y := rdG (x) (y)) inT inT (by first | with_reducible assumption | omega))) <| Vs (Mv rfl) <| Vs (Xt rfl) <| Vs (Xt rfl) <| Vs (Xt rfl) <| Vs (Al 33 TZ24 rfl) <| Vs (Al 34 TZ24 rfl) <| Vs (StS TS24 rfl) <| Vs (StS TS24 rfl) <| Vs (As rfl) <| Nx <| Sq <| Rg <| Vs (LdS TA24 TS24 rfl) <| Vs (LdS TA24 TS24 rfl) <| Vs (Bd TQ27 rfl) <| Vs (StS TS27 rfl) <| Nx <| Re <| Fi (l := [.agg [boolB (zN ((x).fdiv (rdG (x) (y)))), u32S (zL ((x).fdiv (rdG (x) (y)))), boolB (zN ((y).fdiv (rdG (x) (y)))), u32S (zL ((y).fdiv (rdG (x) (y))))]]) (Rc (resVar_cell rfl rfl TA27 TS27 (Nat.le_of_ble_eq_true rfl) rfl) Rn) (rdR3 hy0)
theorem g17i (n : Bool) (A : List Int) (m : Bool) (D : List Int) (hA : A.length ≤ 9223372036854775807) (hD : D.length ≤ 9223372036854775807) (h : (validB n A && validB m D) = false) : VF Try.prog 17 [.agg [boolB (n), u32S (A)], .agg [boolB (m), u32S (D)]] (rR 0 0 1) := by
  refine VF_of P_mixed Try.func17 rfl rfl (by kernel_rfl) <| Sq <| Rg <| Vs (Bx 0 rfl) <| Vs (Bx 1 rfl) <| Vs (Al 2 TZ27 rfl) <| Vs (As rfl) <| Nx <| Sq <| Rg <| Vs (LdS TA24 TS24 rfl) <| Vs (Cf rfl rfl (f26 n A hA) rfl) <| Vs (As rfl) <| Nx <| Sq <| Rg <| Vs (LdS TA24 TS24 rfl) <| Vs (Cf rfl rfl (f26 m D hD) rfl) <| Vs (As rfl) <| Nx <| Sq <| Sq <| Rg <| Vs (Mv rfl) <| Vs (Un rfl) <| Vs (Mv rfl) <| Sp 14 rfl (fun hc1 => ?_) (fun hc1 => ?_)
  · replace hc1 := (bnot_t hc1)
    exact Sk rfl <| Sk rfl <| Vs (Pk rfl) <| Nx <| Cy rfl <| Sq <| Rg <| Vs (Bd TQ27 rfl) <| Vs (StS TS27 rfl) <| Vs (As rfl) <| Nx <| Re <| Tr <| Fi (l := [.agg [boolB (false), u32S ([]), boolB (false), u32S ([])], numB .i64 (1)]) (Rc (resVar_cell rfl rfl TA27 TS27 (Nat.le_of_ble_eq_true rfl) rfl) (Rc (resVar_tmp rfl rfl) Rn)) (by rw [rR, qB_zero]; rfl)
  · replace hc1 := (bnot_f hc1)
    refine Vs (Mv rfl) <| Vs (Un rfl) <| Vs (Pk rfl) <| Nx <| Cd rfl (fun hc2 => ?_) (fun hc2 => ?_)
    · replace hc2 := (bnot_t hc2)
      exact Sq <| Rg <| Vs (Bd TQ27 rfl) <| Vs (StS TS27 rfl) <| Vs (As rfl) <| Nx <| Re <| Tr <| Fi (l := [.agg [boolB (false), u32S ([]), boolB (false), u32S ([])], numB .i64 (1)]) (Rc (resVar_cell rfl rfl TA27 TS27 (Nat.le_of_ble_eq_true rfl) rfl) (Rc (resVar_tmp rfl rfl) Rn)) (by rw [rR, qB_zero]; rfl)
    · replace hc2 := (bnot_f hc2)
      simp [hc1, hc2] at h
theorem g17 {x y : Int} (hx : inB x = true) (hy : inB y = true) : VF Try.prog 17 [.agg [boolB (zN (x)), u32S (zL (x))], .agg [boolB (zN (y)), u32S (zL (y))]] (rR (mkN x y) (mkD x y) (mkE y)) := by
  refine VF_of P_mixed Try.func17 rfl rfl (by kernel_rfl) <| Sq <| Rg <| Vs (Bx 0 rfl) <| Vs (Bx 1 rfl) <| Vs (Al 2 TZ27 rfl) <| Vs (As rfl) <| Nx <| Sq <| Rg <| Vs (LdS TA24 TS24 rfl) <| Vs (Cf rfl rfl (d26 (x)) rfl) <| Vs (As rfl) <| Nx <| Sq <| Rg <| Vs (LdS TA24 TS24 rfl) <| Vs (Cf rfl rfl (d26 (y)) rfl) <| Vs (As rfl) <| Nx <| Sq <| Sq <| Rg <| Vs (Mv rfl) <| Vs (Un rfl) <| Vs (Mv rfl) <| Vs (Mv rfl) <| Vs (Un rfl) <| Vs (Pk rfl) <| Nx <| Cz rfl <| Ks <| Tg <| Sq <| Sq <| Rg <| Vs (LdS TA24 TS24 rfl) <| Vs (Cf rfl rfl (g55 (z := y) inT) rfl) <| Nx <| Cd rfl (fun hc1 => ?_) (fun hc1 => ?_)
  · replace hc1 := of_decide_eq_true hc1
    exact Sq <| Rg <| Vs (Bd TQ27 rfl) <| Vs (StS TS27 rfl) <| Vs (As rfl) <| Nx <| Re <| Tr <| Fi (l := [.agg [boolB (false), u32S ([]), boolB (false), u32S ([])], numB .i64 (4)]) (Rc (resVar_cell rfl rfl TA27 TS27 (Nat.le_of_ble_eq_true rfl) rfl) (Rc (resVar_tmp rfl rfl) Rn)) (mkR0 hc1)
  · replace hc1 := of_decide_eq_false hc1
    exact Ks <| Tg <| Sq <| Rg <| Vs (LdS TA24 TS24 rfl) <| Vs (LdS TA24 TS24 rfl) <| Vs (C0 rfl rfl (g56 (x := x) (y := y) inT inT (by first | with_reducible assumption | omega))) <| Vs (StS TS27 rfl) <| Vs (As rfl) <| Nx <| Re <| Fi (l := [.agg [boolB (zN (rdN (x) (y))), u32S (zL (rdN (x) (y))), boolB (zN (rdD (x) (y))), u32S (zL (rdD (x) (y)))], numB .i64 (0)]) (Rc (resVar_cell rfl rfl TA27 TS27 (Nat.le_of_ble_eq_true rfl) rfl) (Rc (resVar_tmp rfl rfl) Rn)) (mkR1 hc1)
theorem g19 {k d : Int} (k0 : -9223372036854775808 ≤ k) (k1 : k ≤ 9223372036854775807) (d0 : -9223372036854775808 ≤ d) (d1 : d ≤ 9223372036854775807) : VF Try.prog 19 [numB .i64 (k), numB .i64 (d)] (rR (mkN k d) (mkD k d) (mkE d)) := by
  have i1 := in_i64 k0 k1
  have i2 := in_i64 d0 d1
  exact VF_of P_mixed Try.func19 rfl rfl (by kernel_rfl) <| Sq <| Rg <| Vs (Al 0 TZ27 rfl) <| Vs (As rfl) <| Nx <| Sq <| Rg <| Vs (Mv rfl) <| Vs (C0 rfl rfl (d37 (n := k) (by first | omega | assumption | (simp; done) | (simp; omega)) (by first | omega | assumption | (simp; done) | (simp; omega)))) <| Vs (Mv rfl) <| Vs (C0 rfl rfl (d37 (n := d) (by first | omega | assumption | (simp; done) | (simp; omega)) (by first | omega | assumption | (simp; done) | (simp; omega)))) <| Vs (C0 rfl rfl (g17 (x := k) (y := d) inT inT)) <| Vs (Xt rfl) <| Vs (Xt rfl) <| Vs (StS TS27 rfl) <| Vs (As rfl) <| Nx <| Re <| Fi (l := [.agg [boolB (zN (mkN (k) (d))), u32S (zL (mkN (k) (d))), boolB (zN (mkD (k) (d))), u32S (zL (mkD (k) (d)))], numB .i64 (mkE (d))]) (Rc (resVar_cell rfl rfl TA27 TS27 (Nat.le_of_ble_eq_true rfl) rfl) (Rc (resVar_tmp rfl rfl) Rn)) rfl
end Go.VL

/- Walks over the Go functions, printed by a program of this session over the kit's print, and by hand. -/
set_option linter.unusedVariables false
set_option linter.unusedSimpArgs false
set_option maxRecDepth 100000
namespace Go.VL
open Go.Proofs
theorem g37i (n : Bool) (A : List Int) (m : Bool) (D : List Int) (hA : A.length ≤ 9223372036854775807) (hD : D.length ≤ 9223372036854775807) (oA : ok32 A) (oD : ok32 D) (h : vR n A m D = false) : VF Try.prog 37 [.agg [boolB (n), u32S (A), boolB (m), u32S (D)]] (numB .i64 0) := by
  exact VF_of P_mixed Try.func37 rfl rfl (by kernel_rfl) <| Sq <| Rg <| Vs (Bx 0 rfl) <| Vs (As rfl) <| Nx <| Sq <| Rg <| Vs (LdS TA27 TS27 rfl) <| Vs (Kb (show vR n A m D = false from h) (Cf rfl rfl (g21 n A m D hA hD oA oD) rfl)) <| Vs (As rfl) <| Nx <| Sq <| Sq <| Rg <| Vs (Mv rfl) <| Vs (Un rfl) <| Vs (Mv rfl) <| Sk rfl <| Sk rfl <| Sk rfl <| Vs (Pk rfl) <| Nx <| Cy rfl <| Sq <| Rg <| Vs (As rfl) <| Nx <| Re <| Tr <| Fi (l := [numB .i64 (0)]) (Rc (resVar_tmp rfl rfl) Rn) rfl
theorem g37 {p q : Int} (ha : okR p q) : VF Try.prog 37 [.agg [boolB (zN (p)), u32S (zL (p)), boolB (zN (q)), u32S (zL (q))]] (numB .i64 (cmp3 p 0)) := by
  obtain ⟨q0, g0, hp, hq⟩ := ha
  refine VF_of P_mixed Try.func37 rfl rfl (by kernel_rfl) <| Sq <| Rg <| Vs (Bx 0 rfl) <| Vs (As rfl) <| Nx <| Sq <| Rg <| Vs (LdS TA27 TS27 rfl) <| Vs (Cf rfl rfl (g21q ⟨q0, g0, hp, hq⟩) rfl) <| Vs (As rfl) <| Nx <| Sq <| Sq <| Rg <| Vs (Mv rfl) <| Vs (Un rfl) <| Vs (Mv rfl) <| Vs (Fa TF27_0 rfl) <| Vs (LdS TA24 TS24 rfl) <| Vs (Cf rfl rfl (g55 (z := p) inT) rfl) <| Vs (Pk rfl) <| Nx <| Cd rfl (fun hc1 => ?_) (fun hc1 => ?_)
  · replace hc1 := of_decide_eq_true hc1
    exact Sq <| Rg <| Vs (As rfl) <| Nx <| Re <| Tr <| Fi (l := [numB .i64 (0)]) (Rc (resVar_tmp rfl rfl) Rn) (sgn_zero hc1)
  · replace hc1 := of_decide_eq_false hc1
    refine Ks <| Tg <| Sq <| Sq <| Rg <| Vs (Fa TF27_0 rfl) <| Vs (Fa TF24_0 rfl) <| Vs (Ld TA4 rfl) <| Nx <| Cd rfl (fun hc2 => ?_) (fun hc2 => ?_)
    · replace hc2 := hc2
      exact Sq <| Rg <| Vs (As rfl) <| Nx <| Re <| Tr <| Fi (l := [numB .i64 ((-1))]) (Rc (resVar_tmp rfl rfl) Rn) (sgn_neg hc2)
    · replace hc2 := hc2
      exact Ks <| Tg <| Sq <| Rg <| Vs (As rfl) <| Nx <| Re <| Fi (l := [numB .i64 (1)]) (Rc (resVar_tmp rfl rfl) Rn) (sgn_pos hp hc1 hc2)
theorem g67 {p q r s : Int} (hp : inB p = true) (hq : inB q = true) (hr : inB r = true) (hs : inB s = true) (q0 : 0 < q) (s0 : 0 < s) : VF Try.prog 67 [.agg [boolB (zN (p)), u32S (zL (p))], .agg [boolB (zN (q)), u32S (zL (q))], .agg [boolB (zN (r)), u32S (zL (r))], .agg [boolB (zN (s)), u32S (zL (s))]] (numB .i64 (cmp3 (p * s) (r * q))) := by
  refine VF_of P_mixed Try.func67 rfl rfl (by kernel_rfl) <| Sq <| Rg <| Vs (Bx 0 rfl) <| Vs (Bx 1 rfl) <| Vs (Bx 2 rfl) <| Vs (Bx 3 rfl) <| Vs (As rfl) <| Nx <| Bk <| VCode.loop (α := (Int) × (Int) × (Int) × (Int)) (fun x_ => match x_ with | (n, d, m, f) => (4, sl [(4, .ptr 0 (0)), (5, .ptr 1 (0)), (6, .ptr 2 (0)), (7, .ptr 3 (0))], en [(0, ⟨2, [vB (zN (n)), vS (zL (n))], true⟩), (1, ⟨2, [vB (zN (d)), vS (zL (d))], true⟩), (2, ⟨2, [vB (zN (m)), vS (zL (m))], true⟩), (3, ⟨2, [vB (zN (f)), vS (zL (f))], true⟩)])) (fun x_ => match x_ with | (n, d, m, f) => CmpI (cmp3 (p * s) (r * q)) n d m f 1) (fun x_ => match x_ with | (n, d, m, f) => (d + f).toNat) (p, q, r, s) (CmpI.start q0 s0 hp hq hr hs rfl) Wk ?_
  rintro ⟨n, d, m, f⟩ hok
  obtain ⟨in1, in2, in3, in4⟩ := hok.i
  have m1 := fmod_in' in1 in2 hok.pd
  have m2 := fmod_in' in3 in4 hok.pf
  have k1 := fdiv_in in1 (Int.ne_of_gt hok.pd)
  have k2 := fdiv_in in3 (Int.ne_of_gt hok.pf)
  have z1 := hok.pd
  have z2 := hok.pf
  have z3 := (fm_range (n := n) hok.pd).2
  have z4 := (fm_range (n := n) hok.pd).1
  have z6 := (fm_range (n := m) hok.pf).2
  have z7 := (fm_range (n := m) hok.pf).1
  change VCode _ _ _ 4 (sl _) (en _) _
  refine Bk <| Sq <| Rg <| Vs (LdS TA24 TS24 rfl) <| Vs (LdS TA24 TS24 rfl) <| Vs (C0 rfl rfl (d19 (x := n) (y := d) inT inT (by first | with_reducible assumption | omega))) <| Vs (Mv rfl) <| Vs (Xt rfl) <| Vs (Xt rfl) <| Vs (Xt rfl) <| Vs (Al 11 TZ24 rfl) <| Vs (Al 12 TZ24 rfl) <| Vs (StS TS24 rfl) <| Vs (StS TS24 rfl) <| Vs (As rfl) <| Nx <| Sq <| Rg <| Vs (LdS TA24 TS24 rfl) <| Vs (LdS TA24 TS24 rfl) <| Vs (C0 rfl rfl (d19 (x := m) (y := f) inT inT (by first | with_reducible assumption | omega))) <| Vs (Mv rfl) <| Vs (Xt rfl) <| Vs (Xt rfl) <| Vs (Xt rfl) <| Vs (Al 23 TZ24 rfl) <| Vs (Al 24 TZ24 rfl) <| Vs (StS TS24 rfl) <| Vs (StS TS24 rfl) <| Vs (As rfl) <| Nx <| Sq <| Rg <| Vs (LdS TA24 TS24 rfl) <| Vs (LdS TA24 TS24 rfl) <| Vs (C0 rfl rfl (d34 (x := (n).fdiv (d)) (y := (m).fdiv (f)) inT inT)) <| Vs (Mv rfl) <| Vs (Xt rfl) <| Vs (Xt rfl) <| Vs (As rfl) <| Vs (As rfl) <| Nx <| Sq <| Sq <| Rg <| Vs (Mv rfl) <| Vs (Bi rfl) <| Nx <| Cd rfl (fun hc1 => ?_) (fun hc1 => ?_)
  · replace hc1 := bne_iff_ne.1 hc1
    exact Sq <| Rg <| Vs (Mv rfl) <| Vs (As rfl) <| Nx <| Re <| Tr <| Iq <| Or <| Iq <| Fi (l := [numB .i64 (cmp3 ((n).fdiv (d)) ((m).fdiv (f)))]) (Rc (resVar_tmp rfl rfl) Rn) (by rw [← hok.part hc1, Int.one_mul]; rfl)
  · replace hc1 := bne_eq_false_iff_eq.1 hc1
    refine Ks <| Tg <| Sq <| Sq <| Rg <| Vs (LdS TA24 TS24 rfl) <| Vs (Cf rfl rfl (g55 (z := (n).fmod (d)) inT) rfl) <| Vs (Mv rfl) <| Sp 42 rfl (fun hc2 => ?_) (fun hc2 => ?_)
    · replace hc2 := of_decide_eq_true hc2
      refine Vs (LdS TA24 TS24 rfl) <| Vs (Cf rfl rfl (g55 (z := (m).fmod (f)) inT) rfl) <| Vs (Pk rfl) <| Nx <| Cd rfl (fun hc3 => ?_) (fun hc3 => ?_)
      · replace hc3 := of_decide_eq_true hc3
        exact Sq <| Rg <| Vs (As rfl) <| Nx <| Re <| Tr <| Iq <| Or <| Iq <| Fi (l := [numB .i64 (0)]) (Rc (resVar_tmp rfl rfl) Rn) (congrArg (numB .i64) (hok.both hc1 hc2 hc3).symm)
      · replace hc3 := of_decide_eq_false hc3
        refine Ks <| Tg <| Sq <| Sq <| Rg <| Vs (LdS TA24 TS24 rfl) <| Vs (Cf rfl rfl (g55 (z := (n).fmod (d)) inT) rfl) <| Nx <| Cd rfl (fun hc4 => ?_) (fun hc4 => ?_)
        · replace hc4 := of_decide_eq_true hc4
          exact Sq <| Rg <| Vs (As rfl) <| Nx <| Re <| Tr <| Iq <| Or <| Iq <| Fi (l := [numB .i64 ((-1))]) (Rc (resVar_tmp rfl rfl) Rn) (congrArg (numB .i64) (hok.left hc1 hc2 hc3).symm)
        · replace hc4 := of_decide_eq_false hc4
          exact absurd hc2 hc4
    · replace hc2 := of_decide_eq_false hc2
      refine Sk rfl <| Sk rfl <| Vs (Pk rfl) <| Nx <| Cz rfl <| Ks <| Tg <| Sq <| Sq <| Rg <| Vs (LdS TA24 TS24 rfl) <| Vs (Cf rfl rfl (g55 (z := (n).fmod (d)) inT) rfl) <| Nx <| Cd rfl (fun hc5 => ?_) (fun hc5 => ?_)
      · replace hc5 := of_decide_eq_true hc5
        exact absurd hc5 hc2
      · replace hc5 := of_decide_eq_false hc5
        refine Ks <| Tg <| Sq <| Sq <| Rg <| Vs (LdS TA24 TS24 rfl) <| Vs (Cf rfl rfl (g55 (z := (m).fmod (f)) inT) rfl) <| Nx <| Cd rfl (fun hc6 => ?_) (fun hc6 => ?_)
        · replace hc6 := of_decide_eq_true hc6
          exact Sq <| Rg <| Vs (As rfl) <| Nx <| Re <| Tr <| Iq <| Or <| Iq <| Fi (l := [numB .i64 (1)]) (Rc (resVar_tmp rfl rfl) Rn) (congrArg (numB .i64) (hok.right hc1 hc2 hc6).symm)
        · replace hc6 := of_decide_eq_false hc6
          refine Ks <| Tg <| Rd (by kernel_rfl) <| Vl (LdS TA24 TS24 rfl) <| Vl (LdS TA24 TS24 rfl) <| Vl (LdS TA24 TS24 rfl) <| Vl (LdS TA24 TS24 rfl) <| Vl (StS TS24 rfl) <| Vl (StS TS24 rfl) <| Vl (StS TS24 rfl) <| Vl (StS TS24 rfl) <| ?_
          refine VLog.nil ⟨by kernel_rfl, ?_⟩
          exact Ig <| Go (f, m.fmod f, d, n.fmod d) (hok.swap hc1 hc2 hc6) Wk
theorem g66 (n : Bool) (A : List Int) (m : Bool) (D : List Int) (n2 : Bool) (A2 : List Int) (m2 : Bool) (D2 : List Int) (hA : A.length ≤ 9223372036854775807) (hD : D.length ≤ 9223372036854775807) (hA2 : A2.length ≤ 9223372036854775807) (hD2 : D2.length ≤ 9223372036854775807) (oA : ok32 A) (oD : ok32 D) (oA2 : ok32 A2) (oD2 : ok32 D2) : VF Try.prog 66 [.agg [boolB (n), u32S (A), boolB (m), u32S (D)], .agg [boolB (n2), u32S (A2), boolB (m2), u32S (D2)]] (boolB (vR n A m D && vR n2 A2 m2 D2)) := by
  refine VF_of P_mixed Try.func66 rfl rfl (by kernel_rfl) <| Sq <| Rg <| Vs (Bx 0 rfl) <| Vs (Bx 1 rfl) <| Vs (As rfl) <| Nx <| Sq <| Rg <| Vs (LdS TA27 TS27 rfl) <| Vs (Cf rfl rfl (g21 n A m D hA hD oA oD) rfl) <| Vs (As rfl) <| Nx <| Sq <| Rg <| Vs (LdS TA27 TS27 rfl) <| Vs (Cf rfl rfl (g21 n2 A2 m2 D2 hA2 hD2 oA2 oD2) rfl) <| Vs (As rfl) <| Nx <| Sq <| Rg <| Vs (Mv rfl) <| Vs (Mv rfl) <| Sp 12 rfl (fun hc1 => ?_) (fun hc1 => ?_)
  · replace hc1 := hc1
    exact Vs (Mv rfl) <| Vs (Pk rfl) <| Vs (As rfl) <| Nx <| Re <| Fi (l := [boolB (vR n2 A2 m2 D2)]) (Rc (resVar_tmp rfl rfl) Rn) (by rw [hc1]; rfl)
  · replace hc1 := hc1
    exact Sk rfl <| Vs (Pk rfl) <| Vs (As rfl) <| Nx <| Re <| Fi (l := [boolB (false)]) (Rc (resVar_tmp rfl rfl) Rn) (by rw [hc1]; rfl)
theorem g66q {p q r s : Int} (ha : okR p q) (hb : okR r s) : VF Try.prog 66 [qB p q, qB r s] (boolB true) := by
  have := g66 (zN p) (zL p) (zN q) (zL q) (zN r) (zL r) (zN s) (zL s) (len_zL' _) (len_zL' _) (len_zL' _) (len_zL' _) (ok32_zL _) (ok32_zL _) (ok32_zL _) (ok32_zL _)
  rw [vR_ok ha, vR_ok hb] at this
  exact this
theorem g31i (n : Bool) (A : List Int) (m : Bool) (D : List Int) (n2 : Bool) (A2 : List Int) (m2 : Bool) (D2 : List Int) (hA : A.length ≤ 9223372036854775807) (hD : D.length ≤ 9223372036854775807) (hA2 : A2.length ≤ 9223372036854775807) (hD2 : D2.length ≤ 9223372036854775807) (oA : ok32 A) (oD : ok32 D) (oA2 : ok32 A2) (oD2 : ok32 D2) (h : (vR n A m D && vR n2 A2 m2 D2) = false) : VF Try.prog 31 [.agg [boolB (n), u32S (A), boolB (m), u32S (D)], .agg [boolB (n2), u32S (A2), boolB (m2), u32S (D2)]] (.tup [numB .i64 0, numB .i64 1]) := by
  exact VF_of P_mixed Try.func31 rfl rfl (by kernel_rfl) <| Sq <| Rg <| Vs (Bx 0 rfl) <| Vs (Bx 1 rfl) <| Vs (As rfl) <| Vs (As rfl) <| Nx <| Sq <| Sq <| Rg <| Vs (LdS TA27 TS27 rfl) <| Vs (LdS TA27 TS27 rfl) <| Vs (Kb (show (vR n A m D && vR n2 A2 m2 D2) = false from h) (Cf rfl rfl (g66 n A m D n2 A2 m2 D2 hA hD hA2 hD2 oA oD oA2 oD2) rfl)) <| Vs (Un rfl) <| Nx <| Cy rfl <| Sq <| Rg <| Vs (As rfl) <| Vs (As rfl) <| Nx <| Re <| Tr <| Fi (l := [numB .i64 (0), numB .i64 (1)]) (Rc (resVar_tmp rfl rfl) (Rc (resVar_tmp rfl rfl) Rn)) rfl
theorem g31 {p q r s : Int} (ha : okR p q) (hb : okR r s) : VF Try.prog 31 [.agg [boolB (zN (p)), u32S (zL (p)), boolB (zN (q)), u32S (zL (q))], .agg [boolB (zN (r)), u32S (zL (r)), boolB (zN (s)), u32S (zL (s))]] (.tup [numB .i64 (cmp3 (p * s) (r * q)), numB .i64 0]) := by
  obtain ⟨q0, g0, hp, hq⟩ := ha
  obtain ⟨s0, g1, hr, hs⟩ := hb
  exact VF_of P_mixed Try.func31 rfl rfl (by kernel_rfl) <| Sq <| Rg <| Vs (Bx 0 rfl) <| Vs (Bx 1 rfl) <| Vs (As rfl) <| Vs (As rfl) <| Nx <| Sq <| Sq <| Rg <| Vs (LdS TA27 TS27 rfl) <| Vs (LdS TA27 TS27 rfl) <| Vs (Cf rfl rfl (g66q ⟨q0, g0, hp, hq⟩ ⟨s0, g1, hr, hs⟩) rfl) <| Vs (Un rfl) <| Nx <| Cz rfl <| Ks <| Tg <| Sq <| Rg <| Vs (Fa TF27_0 rfl) <| Vs (LdS TA24 TS24 rfl) <| Vs (Fa TF27_1 rfl) <| Vs (LdS TA24 TS24 rfl) <| Vs (Fa TF27_0 rfl) <| Vs (LdS TA24 TS24 rfl) <| Vs (Fa TF27_1 rfl) <| Vs (LdS TA24 TS24 rfl) <| Vs (Cf rfl rfl (g67 (p := p) (q := q) (r := r) (s := s) inT inT inT inT (by first | omega | assumption | (simp; done) | (simp; omega)) (by first | omega | assumption | (simp; done) | (simp; omega))) rfl) <| Vs (As rfl) <| Vs (As rfl) <| Nx <| Re <| Fi (l := [numB .i64 (cmp3 ((p) * (s)) ((r) * (q))), numB .i64 (0)]) (Rc (resVar_tmp rfl rfl) (Rc (resVar_tmp rfl rfl) Rn)) rfl
theorem g33i (n : Bool) (A : List Int) (m : Bool) (D : List Int) (hA : A.length ≤ 9223372036854775807) (hD : D.length ≤ 9223372036854775807) (oA : ok32 A) (oD : ok32 D) (k : Int) (h : vR n A m D = false) : VF Try.prog 33 [.agg [boolB (n), u32S (A), boolB (m), u32S (D)], numB .i64 (k)] (.tup [intB false [], numB .i64 1]) := by
  exact VF_of P_mixed Try.func33 rfl rfl (by kernel_rfl) <| Sq <| Rg <| Vs (Bx 0 rfl) <| Vs (Al 1 TZ24 rfl) <| Vs (As rfl) <| Nx <| Sq <| Rg <| Vs (LdS TA27 TS27 rfl) <| Vs (Kb (show vR n A m D = false from h) (Cf rfl rfl (g21 n A m D hA hD oA oD) rfl)) <| Vs (As rfl) <| Nx <| Sq <| Sq <| Rg <| Vs (Mv rfl) <| Vs (Un rfl) <| Nx <| Cy rfl <| Sq <| Rg <| Vs (Bd TQ24 rfl) <| Vs (StS TS24 rfl) <| Vs (As rfl) <| Nx <| Re <| Tr <| Fi (l := [.agg [boolB (false), u32S ([])], numB .i64 (1)]) (Rc (resVar_cell rfl rfl TA24 TS24 (Nat.le_of_ble_eq_true rfl) rfl) (Rc (resVar_tmp rfl rfl) Rn)) rfl
theorem g33 {p q : Int} (ha : okR p q) {k : Int} (k0 : -9223372036854775808 ≤ k) (k1 : k ≤ 9223372036854775807) : VF Try.prog 33 [.agg [boolB (zN (p)), u32S (zL (p)), boolB (zN (q)), u32S (zL (q))], numB .i64 (k)] (zR (flZ p q k)) := by
  obtain ⟨q0, g0, hp, hq⟩ := ha
  have q1 : q ≠ 0 := Int.ne_of_gt q0
  have k2 := fdiv_in hp q1
  refine VF_of P_mixed Try.func33 rfl rfl (by kernel_rfl) <| Sq <| Rg <| Vs (Bx 0 rfl) <| Vs (Al 1 TZ24 rfl) <| Vs (As rfl) <| Nx <| Sq <| Rg <| Vs (LdS TA27 TS27 rfl) <| Vs (Cf rfl rfl (g21q ⟨q0, g0, hp, hq⟩) rfl) <| Vs (As rfl) <| Nx <| Sq <| Sq <| Rg <| Vs (Mv rfl) <| Vs (Un rfl) <| Nx <| Cz rfl <| Ks <| Tg <| Sq <| Rg <| Vs (Fa TF27_0 rfl) <| Vs (LdS TA24 TS24 rfl) <| Vs (Al 10 TZ24 rfl) <| Vs (StS TS24 rfl) <| Nx <| Sq <| Sq <| Rg <| Vs (Mv rfl) <| Vs (Bi rfl) <| Nx <| Cd rfl (fun hc1 => ?_) (fun hc1 => ?_)
  · replace hc1 := of_decide_eq_true hc1
    refine Sq <| Rg <| Vs (LdS TA24 TS24 rfl) <| Vs (Mv rfl) <| Vs (C0 rfl rfl (d46 (x := p) (y := k) inT (by first | omega | assumption | (simp; done) | (simp; omega)) (by first | omega | assumption | (simp; done) | (simp; omega)))) <| Vs (Mv rfl) <| Vs (Xt rfl) <| Vs (Xt rfl) <| Vs (Al 20 TZ24 rfl) <| Vs (StS TS24 rfl) <| Vs (As rfl) <| Nx <| Sq <| Sq <| Rg <| Vs (Mv rfl) <| Vs (Bi rfl) <| Nx <| Cd rfl (fun hc2 => ?_) (fun hc2 => ?_)
    · replace hc2 := bne_iff_ne.1 hc2
      exact Sq <| Rg <| Vs (Bd TQ24 rfl) <| Vs (Mv rfl) <| Vs (StS TS24 rfl) <| Vs (As rfl) <| Nx <| Re <| Tr <| Tr <| Fi (l := [.agg [boolB (false), u32S ([])], numB .i64 (zE (shZ (p) (k)))]) (Rc (resVar_cell rfl rfl TA24 TS24 (Nat.le_of_ble_eq_true rfl) rfl) (Rc (resVar_tmp rfl rfl) Rn)) (fl_out (by omega) hc2)
    · replace hc2 := bne_eq_false_iff_eq.1 hc2
      refine Ks <| Tg <| Rg <| Vs (LdS TA24 TS24 rfl) <| Vs (StS TS24 rfl) <| Nx <| Sq <| Rg <| Vs (LdS TA24 TS24 rfl) <| Vs (Fa TF27_1 rfl) <| Vs (LdS TA24 TS24 rfl) <| Vs (C0 rfl rfl (d19 (x := shZ (p) (k)) (y := q) (by first | with_reducible exact hp | with_reducible exact zE_in.1 hc2) inT (by first | with_reducible assumption | omega))) <| Vs (Mv rfl) <| Vs (Xt rfl) <| Vs (Xt rfl) <| Vs (Xt rfl) <| Vs (Al 35 TZ24 rfl) <| Vs (Al 36 TZ24 rfl) <| Vs (StS TS24 rfl) <| Vs (StS TS24 rfl) <| Vs (As rfl) <| Nx <| Sq <| Sq <| Rg <| Vs (Mv rfl) <| Vs (Bi rfl) <| Nx <| Cd rfl (fun hc3 => ?_) (fun hc3 => ?_)
      · replace hc3 := of_decide_eq_true hc3
        exact Sq <| Rg <| Vs (LdS TA24 TS24 rfl) <| Vs (StS TS24 rfl) <| Vs (As rfl) <| Nx <| Re <| Tr <| Fi (l := [.agg [boolB (zN ((shZ (p) (k)).fdiv (q))), u32S (zL ((shZ (p) (k)).fdiv (q)))], numB .i64 (0)]) (Rc (resVar_cell rfl rfl TA24 TS24 (Nat.le_of_ble_eq_true rfl) rfl) (Rc (resVar_tmp rfl rfl) Rn)) (fl_in (by omega) hc2 q1)
      · replace hc3 := of_decide_eq_false hc3
        omega
  · replace hc1 := of_decide_eq_false hc1
    refine Ks <| Tg <| Sq <| Rg <| Vs (LdS TA24 TS24 rfl) <| Vs (Fa TF27_1 rfl) <| Vs (LdS TA24 TS24 rfl) <| Vs (C0 rfl rfl (d19 (x := p) (y := q) (by first | with_reducible exact hp | with_reducible exact zE_in.1 hc2) inT (by first | with_reducible assumption | omega))) <| Vs (Mv rfl) <| Vs (Xt rfl) <| Vs (Xt rfl) <| Vs (Xt rfl) <| Vs (Al 22 TZ24 rfl) <| Vs (Al 23 TZ24 rfl) <| Vs (StS TS24 rfl) <| Vs (StS TS24 rfl) <| Vs (As rfl) <| Nx <| Sq <| Sq <| Rg <| Vs (Mv rfl) <| Vs (Bi rfl) <| Nx <| Cd rfl (fun hc4 => ?_) (fun hc4 => ?_)
    · replace hc4 := of_decide_eq_true hc4
      exact Sq <| Rg <| Vs (LdS TA24 TS24 rfl) <| Vs (StS TS24 rfl) <| Vs (As rfl) <| Nx <| Re <| Tr <| Fi (l := [.agg [boolB (zN ((p).fdiv (q))), u32S (zL ((p).fdiv (q)))], numB .i64 (0)]) (Rc (resVar_cell rfl rfl TA24 TS24 (Nat.le_of_ble_eq_true rfl) rfl) (Rc (resVar_tmp rfl rfl) Rn)) (fl_nil hc1 hc4 k2)
    · replace hc4 := of_decide_eq_false hc4
      exact Ks <| Tg <| Sq <| Rg <| Vs (LdS TA24 TS24 rfl) <| Vs (Mv rfl) <| Vs (C0 rfl rfl (d46 (x := (p).fdiv (q)) (y := k) inT (by first | omega | assumption | (simp; done) | (simp; omega)) (by first | omega | assumption | (simp; done) | (simp; omega)))) <| Vs (Xt rfl) <| Vs (Xt rfl) <| Vs (StS TS24 rfl) <| Vs (As rfl) <| Nx <| Re <| Fi (l := [.agg [boolB (zN (shZ ((p).fdiv (q)) (k))), u32S (zL (shZ ((p).fdiv (q)) (k)))], numB .i64 (zE (shZ ((p).fdiv (q)) (k)))]) (Rc (resVar_cell rfl rfl TA24 TS24 (Nat.le_of_ble_eq_true rfl) rfl) (Rc (resVar_tmp rfl rfl) Rn)) (fl_low (by omega))
theorem g35i (n : Bool) (A : List Int) (m : Bool) (D : List Int) (hA : A.length ≤ 9223372036854775807) (hD : D.length ≤ 9223372036854775807) (oA : ok32 A) (oD : ok32 D) (h : vR n A m D = false) : VF Try.prog 35 [.agg [boolB (n), u32S (A), boolB (m), u32S (D)]] (.tup [qB 0 0, boolB false, numB .i64 1]) := by
  exact VF_of P_mixed Try.func35 rfl rfl (by kernel_rfl) <| Sq <| Rg <| Vs (Bx 0 rfl) <| Vs (Al 1 TZ27 rfl) <| Vs (As rfl) <| Vs (As rfl) <| Nx <| Sq <| Rg <| Vs (LdS TA27 TS27 rfl) <| Vs (Kb (show vR n A m D = false from h) (Cf rfl rfl (g21 n A m D hA hD oA oD) rfl)) <| Vs (As rfl) <| Nx <| Sq <| Sq <| Rg <| Vs (Mv rfl) <| Vs (Un rfl) <| Nx <| Cy rfl <| Sq <| Rg <| Vs (Bd TQ27 rfl) <| Vs (StS TS27 rfl) <| Vs (As rfl) <| Vs (As rfl) <| Nx <| Re <| Tr <| Fi (l := [.agg [boolB (false), u32S ([]), boolB (false), u32S ([])], boolB (false), numB .i64 (1)]) (Rc (resVar_cell rfl rfl TA27 TS27 (Nat.le_of_ble_eq_true rfl) rfl) (Rc (resVar_tmp rfl rfl) (Rc (resVar_tmp rfl rfl) Rn))) (by rw [qB_zero]; rfl)
theorem g35 {p q : Int} (ha : okR p q) : VF Try.prog 35 [.agg [boolB (zN (p)), u32S (zL (p)), boolB (zN (q)), u32S (zL (q))]] (sqRR p q) := by
  obtain ⟨q0, g0, hp, hq⟩ := ha
  refine VF_of P_mixed Try.func35 rfl rfl (by kernel_rfl) <| Sq <| Rg <| Vs (Bx 0 rfl) <| Vs (Al 1 TZ27 rfl) <| Vs (As rfl) <| Vs (As rfl) <| Nx <| Sq <| Rg <| Vs (LdS TA27 TS27 rfl) <| Vs (Cf rfl rfl (g21q ⟨q0, g0, hp, hq⟩) rfl) <| Vs (As rfl) <| Nx <| Sq <| Sq <| Rg <| Vs (Mv rfl) <| Vs (Un rfl) <| Nx <| Cz rfl <| Ks <| Tg <| Sq <| Sq <| Rg <| Vs (Fa TF27_0 rfl) <| Vs (Fa TF24_0 rfl) <| Vs (Ld TA4 rfl) <| Nx <| Cd rfl (fun hc1 => ?_) (fun hc1 => ?_)
  · replace hc1 := hc1
    exact Sq <| Rg <| Vs (Bd TQ27 rfl) <| Vs (StS TS27 rfl) <| Vs (As rfl) <| Vs (As rfl) <| Nx <| Re <| Tr <| Fi (l := [.agg [boolB (false), u32S ([]), boolB (false), u32S ([])], boolB (false), numB .i64 (5)]) (Rc (resVar_cell rfl rfl TA27 TS27 (Nat.le_of_ble_eq_true rfl) rfl) (Rc (resVar_tmp rfl rfl) (Rc (resVar_tmp rfl rfl) Rn))) (sq_neg (by have := zN_lt hc1; omega))
  · replace hc1 := hc1
    refine Ks <| Tg <| Sq <| Rg <| Vs (Fa TF27_0 rfl) <| Vs (LdS TA24 TS24 rfl) <| Vs (C0 rfl rfl (d45 (x := p) inT (zero_le hp hc1))) <| Vs (Mv rfl) <| Vs (Xt rfl) <| Vs (Xt rfl) <| Vs (Xt rfl) <| Vs (Al 19 TZ24 rfl) <| Vs (StS TS24 rfl) <| Vs (As rfl) <| Vs (As rfl) <| Nx <| Sq <| Rg <| Vs (Fa TF27_1 rfl) <| Vs (LdS TA24 TS24 rfl) <| Vs (C0 rfl rfl (d45 (x := q) inT (Int.le_of_lt q0))) <| Vs (Mv rfl) <| Vs (Xt rfl) <| Vs (Xt rfl) <| Vs (Xt rfl) <| Vs (Al 30 TZ24 rfl) <| Vs (StS TS24 rfl) <| Vs (As rfl) <| Vs (As rfl) <| Nx <| Sq <| Sq <| Rg <| Vs (Mv rfl) <| Vs (Un rfl) <| Vs (Mv rfl) <| Sp 37 rfl (fun hc2 => ?_) (fun hc2 => ?_)
    · replace hc2 := of_decide_eq_false (bnot_t hc2)
      exact Sk rfl <| Sk rfl <| Vs (Pk rfl) <| Nx <| Cy rfl <| Sq <| Rg <| Vs (Bd TQ27 rfl) <| Vs (StS TS27 rfl) <| Vs (As rfl) <| Vs (As rfl) <| Nx <| Re <| Tr <| Fi (l := [.agg [boolB (false), u32S ([]), boolB (false), u32S ([])], boolB (false), numB .i64 (0)]) (Rc (resVar_cell rfl rfl TA27 TS27 (Nat.le_of_ble_eq_true rfl) rfl) (Rc (resVar_tmp rfl rfl) (Rc (resVar_tmp rfl rfl) Rn))) (sq_no (zero_le hp hc1) (fun h => hc2 h.1))
    · replace hc2 := of_decide_eq_true (bnot_f hc2)
      refine Vs (Mv rfl) <| Vs (Un rfl) <| Vs (Pk rfl) <| Nx <| Cd rfl (fun hc3 => ?_) (fun hc3 => ?_)
      · replace hc3 := of_decide_eq_false (bnot_t hc3)
        exact Sq <| Rg <| Vs (Bd TQ27 rfl) <| Vs (StS TS27 rfl) <| Vs (As rfl) <| Vs (As rfl) <| Nx <| Re <| Tr <| Fi (l := [.agg [boolB (false), u32S ([]), boolB (false), u32S ([])], boolB (false), numB .i64 (0)]) (Rc (resVar_cell rfl rfl TA27 TS27 (Nat.le_of_ble_eq_true rfl) rfl) (Rc (resVar_tmp rfl rfl) (Rc (resVar_tmp rfl rfl) Rn))) (sq_no (zero_le hp hc1) (fun h => hc3 h.2))
      · replace hc3 := of_decide_eq_true (bnot_f hc3)
        exact Ks <| Tg <| Sq <| Rg <| Vs (LdS TA24 TS24 rfl) <| Vs (LdS TA24 TS24 rfl) <| Vs (Bd TQ27 rfl) <| Vs (StS TS27 rfl) <| Vs (As rfl) <| Vs (As rfl) <| Nx <| Re <| Fi (l := [.agg [boolB (zN (isq (p))), u32S (zL (isq (p))), boolB (zN (isq (q))), u32S (zL (isq (q)))], boolB (true), numB .i64 (0)]) (Rc (resVar_cell rfl rfl TA27 TS27 (Nat.le_of_ble_eq_true rfl) rfl) (Rc (resVar_tmp rfl rfl) (Rc (resVar_tmp rfl rfl) Rn))) (sq_yes (zero_le hp hc1) hc2 hc3)
end Go.VL

/- Walks over the Go functions, printed by a program of this session over the kit's print, and by hand. -/
set_option linter.unusedVariables false
set_option linter.unusedSimpArgs false
set_option maxRecDepth 100000
namespace Go.VL
open Go.Proofs
theorem g68 {p q r s : Int} (hp : inB p = true) (hq : inB q = true) (hr : inB r = true) (hs : inB s = true) (p0 : 0 ≤ p) (q0 : 0 < q) (s0 : 0 ≤ s) (lt : p * s < r * q) : VF Try.prog 68 [.agg [boolB (zN (p)), u32S (zL (p)), boolB (zN (q)), u32S (zL (q))], .agg [boolB (zN (r)), u32S (zL (r)), boolB (zN (s)), u32S (zL (s))]] (poR (cfQ p q r s)) := by
  refine VF_of P_mixed Try.func68 rfl rfl (by kernel_rfl) <| Sq <| Rg <| Vs (Bx 0 rfl) <| Vs (Bx 1 rfl) <| Vs (Al 2 TZ27 rfl) <| Vs (As rfl) <| Nx <| Sq <| Rd (by kernel_rfl) <| Vl (Fa TF27_0 rfl) <| Vl (LdS TA24 TS24 rfl) <| Vl (Fa TF27_1 rfl) <| Vl (LdS TA24 TS24 rfl) <| Vl (Fa TF27_0 rfl) <| Vl (LdS TA24 TS24 rfl) <| Vl (Fa TF27_1 rfl) <| Vl (LdS TA24 TS24 rfl) <| Vl (Al 12 TZ24 rfl) <| Vl (Al 13 TZ24 rfl) <| Vl (Al 14 TZ24 rfl) <| Vl (Al 15 TZ24 rfl) <| Vl (StS TS24 rfl) <| Vl (StS TS24 rfl) <| Vl (StS TS24 rfl) <| Vl (StS TS24 rfl) <| ?_
  refine VLog.nil ⟨by kernel_rfl, ?_⟩
  refine Tg <| Sq <| Rg <| Vs (C0 rfl rfl (d37 (n := 1) (by first | omega | assumption | (simp; done) | (simp; omega)) (by first | omega | assumption | (simp; done) | (simp; omega)))) <| Vs (Al 21 TZ24 rfl) <| Vs (StS TS24 rfl) <| Nx <| Sq <| Rg <| Vs (An rfl) <| Nx <| VCode.join (α := (List Int) × (Nat)) (fun x_ => match x_ with | (L, mm) => (91, sl [(4, .ptr 2 (0)), (10, .ptr 21 (0)), (11, .own 90 (mm))], en [(2, ⟨4, [vB (false), vS ([]), vB (false), vS ([])], true⟩), (21, ⟨2, [vB (zN (1)), vS (zL (1))], true⟩), (90, rowT 2 fZ (L))])) (fun x_ => match x_ with | (L, mm) => (cfP ((q + s).toNat + 1) p q r s = some L ∧ L.length = mm) ∧ 0 < mm ∧ mm ≤ 8194 ∧ ∀ z ∈ L, inB z = true) ?_ ?_
  · skip
    refine Bk <| VCode.loop (α := ((Int) × (Int) × (Int) × (Int)) ⊕ ((List Int) × (Nat) × (Int) × (Int) × (Int) × (Int))) (fun x_ => match x_ with | .inl (n, d, m, f) => (22, sl [(4, .ptr 2 (0)), (6, .ptr 12 (0)), (7, .ptr 13 (0)), (8, .ptr 14 (0)), (9, .ptr 15 (0)), (10, .ptr 21 (0)), (11, .b .nil)], en [(2, ⟨4, [vB (false), vS ([]), vB (false), vS ([])], true⟩), (12, ⟨2, [vB (zN (n)), vS (zL (n))], true⟩), (13, ⟨2, [vB (zN (d)), vS (zL (d))], true⟩), (14, ⟨2, [vB (zN (m)), vS (zL (m))], true⟩), (15, ⟨2, [vB (zN (f)), vS (zL (f))], true⟩), (21, ⟨2, [vB (zN (1)), vS (zL (1))], true⟩)]) | .inr (L, mm, n, d, m, f) => (91, sl [(4, .ptr 2 (0)), (6, .ptr 12 (0)), (7, .ptr 13 (0)), (8, .ptr 14 (0)), (9, .ptr 15 (0)), (10, .ptr 21 (0)), (11, .own 90 (mm))], en [(2, ⟨4, [vB (false), vS ([]), vB (false), vS ([])], true⟩), (12, ⟨2, [vB (zN (n)), vS (zL (n))], true⟩), (13, ⟨2, [vB (zN (d)), vS (zL (d))], true⟩), (14, ⟨2, [vB (zN (m)), vS (zL (m))], true⟩), (15, ⟨2, [vB (zN (f)), vS (zL (f))], true⟩), (21, ⟨2, [vB (zN (1)), vS (zL (1))], true⟩), (90, rowT 2 fZ (L))])) (fun x_ => match x_ with | .inl (n, d, m, f) => PosI (cfP ((q + s).toNat + 1) p q r s) [] n d m f | .inr (L, mm, n, d, m, f) => PosI (cfP ((q + s).toNat + 1) p q r s) L n d m f ∧ L.length = mm) (fun x_ => match x_ with | .inl (n, d, m, f) => (d + f).toNat | .inr (L, mm, n, d, m, f) => (d + f).toNat) (.inl (p, q, r, s)) (PosI.start p0 q0 s0 lt hp hq hr hs) Wk ?_
    rintro (⟨n, d, m, f⟩ | ⟨L, mm, n, d, m, f⟩) hok
    · change VCode _ _ _ 22 (sl _) (en _) _
      have z1 := hok.pd
      obtain ⟨i1, i2, i3, i4⟩ := hok.i
      have iq := fdiv_in i1 (Int.ne_of_gt hok.pd)
      obtain ⟨im, is⟩ := hok.more
      have hl := hok.len
      have z2 := hok.pf
      refine Bk <| Sq <| Rg <| Vs (LdS TA24 TS24 rfl) <| Vs (LdS TA24 TS24 rfl) <| Vs (C0 rfl rfl (d19 (x := n) (y := d) inT inT (by first | with_reducible assumption | omega))) <| Vs (Mv rfl) <| Vs (Xt rfl) <| Vs (Xt rfl) <| Vs (Xt rfl) <| Vs (Al 29 TZ24 rfl) <| Vs (Al 30 TZ24 rfl) <| Vs (StS TS24 rfl) <| Vs (StS TS24 rfl) <| Vs (As rfl) <| Nx <| Sq <| Rg <| Vs (LdS TA24 TS24 rfl) <| Vs (LdS TA24 TS24 rfl) <| Vs (C0 rfl rfl (d39 (x := (n).fdiv (d)) (y := 1) inT inT)) <| Vs (Mv rfl) <| Vs (Xt rfl) <| Vs (Xt rfl) <| Vs (Al 40 TZ24 rfl) <| Vs (StS TS24 rfl) <| Vs (As rfl) <| Nx <| Sq <| Sq <| Rg <| Vs (Mv rfl) <| Vs (Bi rfl) <| Nx <| Cd rfl (fun hc1 => ?_) (fun hc1 => ?_)
      · replace hc1 := bne_iff_ne.1 hc1
        exact Sq <| Rg <| Vs (Bd TQ27 rfl) <| Vs (Mv rfl) <| Vs (StS TS27 rfl) <| Vs (As rfl) <| Nx <| Re <| Tr <| Iq <| Or <| Iq <| Jr <| Fi (l := [.agg [boolB (false), u32S ([]), boolB (false), u32S ([])], numB .i64 (zE (((n).fdiv (d)) + (1)))]) (Rc (resVar_cell rfl rfl TA27 TS27 (Nat.le_of_ble_eq_true rfl) rfl) (Rc (resVar_tmp rfl rfl) Rn)) (po_none (show cfQ p q r s = none by rw [cfQ, hok.none' hc1]; rfl) hc1 (zE_or _))
      · replace hc1 := bne_eq_false_iff_eq.1 hc1
        have iN := zE_in.1 hc1
        refine Ks <| Tg <| Sq <| Sq <| Rg <| Vs (LdS TA24 TS24 rfl) <| Vs (Cf rfl rfl (g55 (z := f) inT) rfl) <| Vs (Mv rfl) <| Sp 55 rfl (fun hc2 => ?_) (fun hc2 => ?_)
        · replace hc2 := of_decide_eq_true hc2
          exact Sk rfl <| Sk rfl <| Sk rfl <| Sk rfl <| Sk rfl <| Sk rfl <| Vs (Pk rfl) <| Nx <| Cy rfl <| Sq <| Rg <| Vs (Mv rfl) <| Vs (LdS TA24 TS24 rfl) <| Vs (sq1 57 rfl (.buildS _ 1 _ 24 [.agg [vB (zN (((n).fdiv (d)) + (1))), vS (zL (((n).fdiv (d)) + (1)))]] 2 _ [vB (zN (((n).fdiv (d)) + (1))), vS (zL (((n).fdiv (d)) + (1)))] rfl TU96 TZ24 TS24 (List.cons_ne_nil _ _) (by decide) rfl rfl)) <| Vs (An1 58 TU96 TS24 TB24 TN24 (x1 := ((n).fdiv (d)) + (1)) (f := fZ) rfl fZ_len) <| Vs (As rfl) <| Nx <| Ke <| Te <| Io <| Oe <| Ih <| Jg ([((n).fdiv (d)) + (1)], 1) ⟨⟨hok.done hc1 (.inl hc2), rfl⟩, by decide, by decide, one_in iN⟩ (Wt [(90, 58)])
        · replace hc2 := of_decide_eq_false hc2
          refine Vs (LdS TA24 TS24 rfl) <| Vs (LdS TA24 TS24 rfl) <| Vs (LdS TA24 TS24 rfl) <| Vs (LdS TA24 TS24 rfl) <| Vs (Cf rfl rfl (g67 (p := ((n).fdiv (d)) + (1)) (q := 1) (r := m) (s := f) inT inT inT inT (by first | omega | assumption | (simp; done) | (simp; omega)) (by first | omega | assumption | (simp; done) | (simp; omega))) rfl) <| Vs (Bi rfl) <| Vs (Pk rfl) <| Nx <| Cd rfl (fun hc3 => ?_) (fun hc3 => ?_)
          · replace hc3 := of_decide_eq_true hc3
            exact Sq <| Rg <| Vs (Mv rfl) <| Vs (LdS TA24 TS24 rfl) <| Vs (sq1 57 rfl (.buildS _ 1 _ 24 [.agg [vB (zN (((n).fdiv (d)) + (1))), vS (zL (((n).fdiv (d)) + (1)))]] 2 _ [vB (zN (((n).fdiv (d)) + (1))), vS (zL (((n).fdiv (d)) + (1)))] rfl TU96 TZ24 TS24 (List.cons_ne_nil _ _) (by decide) rfl rfl)) <| Vs (An1 58 TU96 TS24 TB24 TN24 (x1 := ((n).fdiv (d)) + (1)) (f := fZ) rfl fZ_len) <| Vs (As rfl) <| Nx <| Ke <| Te <| Io <| Oe <| Ih <| Jg ([((n).fdiv (d)) + (1)], 1) ⟨⟨hok.done hc1 (.inr (by have h9 := cmp3_lt.1 hc3; rwa [Int.mul_one] at h9)), rfl⟩, by decide, by decide, one_in iN⟩ (Wt [(90, 58)])
          · replace hc3 := of_decide_eq_false hc3
            refine Ks <| Tg <| Sq <| Rg <| Vs (Mv rfl) <| Vs (LdS TA24 TS24 rfl) <| Vs (sq1 57 rfl (.buildS _ 1 _ 24 [.agg [vB (zN ((n).fdiv (d))), vS (zL ((n).fdiv (d)))]] 2 _ [vB (zN ((n).fdiv (d))), vS (zL ((n).fdiv (d)))] rfl TU96 TZ24 TS24 (List.cons_ne_nil _ _) (by decide) rfl rfl)) <| Vs (An1 58 TU96 TS24 TB24 TN24 (x1 := (n).fdiv (d)) (f := fZ) rfl fZ_len) <| Vs (As rfl) <| Nx <| Sq <| Rg <| Vs (LdS TA24 TS24 rfl) <| Vs (LdS TA24 TS24 rfl) <| Vs (C0 rfl rfl (d30 (x := (n).fdiv (d)) (y := f) inT inT)) <| Vs (Mv rfl) <| Vs (Xt rfl) <| Vs (Xt rfl) <| Vs (Al 66 TZ24 rfl) <| Vs (StS TS24 rfl) <| Vs (As rfl) <| Nx <| Sq <| Sq <| Rg <| Vs (Mv rfl) <| Vs (Bi rfl) <| Nx <| Cd rfl (fun hc4 => ?_) (fun hc4 => ?_)
            · replace hc4 := bne_iff_ne.1 hc4
              exact absurd (zE_in.2 im) hc4
            · replace hc4 := bne_eq_false_iff_eq.1 hc4
              refine Ks <| Tg <| Sq <| Rg <| Vs (LdS TA24 TS24 rfl) <| Vs (LdS TA24 TS24 rfl) <| Vs (C0 rfl rfl (d41 (x := m) (y := ((n).fdiv (d)) * (f)) inT inT)) <| Vs (Mv rfl) <| Vs (Xt rfl) <| Vs (Xt rfl) <| Vs (Al 77 TZ24 rfl) <| Vs (StS TS24 rfl) <| Vs (As rfl) <| Nx <| Sq <| Sq <| Rg <| Vs (Mv rfl) <| Vs (Bi rfl) <| Nx <| Cd rfl (fun hc5 => ?_) (fun hc5 => ?_)
              · replace hc5 := bne_iff_ne.1 hc5
                exact absurd (zE_in.2 is) hc5
              · replace hc5 := bne_eq_false_iff_eq.1 hc5
                refine Ks <| Tg <| Rd (by kernel_rfl) <| Vl (LdS TA24 TS24 rfl) <| Vl (LdS TA24 TS24 rfl) <| Vl (LdS TA24 TS24 rfl) <| Vl (LdS TA24 TS24 rfl) <| Vl (StS TS24 rfl) <| Vl (StS TS24 rfl) <| Vl (StS TS24 rfl) <| Vl (StS TS24 rfl) <| ?_
                refine VLog.nil ⟨by kernel_rfl, ?_⟩
                exact Ig <| Go (.inr ([(n).fdiv (d)], 1, f, m - n.fdiv d * f, d, n.fmod d)) ⟨hok.next hc1 hc2 (fun h9 => hc3 (cmp3_lt.2 (by rw [Int.mul_one]; exact h9))), rfl⟩ (Wt [(90, 58)]) (hok.mu (fun h9 => hc3 (cmp3_lt.2 (by rw [Int.mul_one]; exact h9))))
    · change VCode _ _ _ 91 (sl _) (en _) _
      obtain ⟨hok, hm⟩ := hok
      have z1 := hok.pd
      obtain ⟨i1, i2, i3, i4⟩ := hok.i
      have iq := fdiv_in i1 (Int.ne_of_gt hok.pd)
      obtain ⟨im, is⟩ := hok.more
      have hl := hok.len
      have z2 := hok.pf
      refine Bk <| Sq <| Rg <| Vs (LdS TA24 TS24 rfl) <| Vs (LdS TA24 TS24 rfl) <| Vs (C0 rfl rfl (d19 (x := n) (y := d) inT inT (by first | with_reducible assumption | omega))) <| Vs (Mv rfl) <| Vs (Xt rfl) <| Vs (Xt rfl) <| Vs (Xt rfl) <| Vs (Al 98 TZ24 rfl) <| Vs (Al 99 TZ24 rfl) <| Vs (StS TS24 rfl) <| Vs (StS TS24 rfl) <| Vs (As rfl) <| Nx <| Sq <| Rg <| Vs (LdS TA24 TS24 rfl) <| Vs (LdS TA24 TS24 rfl) <| Vs (C0 rfl rfl (d39 (x := (n).fdiv (d)) (y := 1) inT inT)) <| Vs (Mv rfl) <| Vs (Xt rfl) <| Vs (Xt rfl) <| Vs (Al 109 TZ24 rfl) <| Vs (StS TS24 rfl) <| Vs (As rfl) <| Nx <| Sq <| Sq <| Rg <| Vs (Mv rfl) <| Vs (Bi rfl) <| Nx <| Cd rfl (fun hc6 => ?_) (fun hc6 => ?_)
      · replace hc6 := bne_iff_ne.1 hc6
        exact Sq <| Rg <| Vs (Bd TQ27 rfl) <| Vs (Mv rfl) <| Vs (StS TS27 rfl) <| Vs (As rfl) <| Nx <| Re <| Tr <| Iq <| Or <| Iq <| Jr <| Fi (l := [.agg [boolB (false), u32S ([]), boolB (false), u32S ([])], numB .i64 (zE (((n).fdiv (d)) + (1)))]) (Rc (resVar_cell rfl rfl TA27 TS27 (Nat.le_of_ble_eq_true rfl) rfl) (Rc (resVar_tmp rfl rfl) Rn)) (po_none (show cfQ p q r s = none by rw [cfQ, hok.none' hc6]; rfl) hc6 (zE_or _))
      · replace hc6 := bne_eq_false_iff_eq.1 hc6
        have iN := zE_in.1 hc6
        refine Ks <| Tg <| Sq <| Sq <| Rg <| Vs (LdS TA24 TS24 rfl) <| Vs (Cf rfl rfl (g55 (z := f) inT) rfl) <| Vs (Mv rfl) <| Sp 55 rfl (fun hc7 => ?_) (fun hc7 => ?_)
        · replace hc7 := of_decide_eq_true hc7
          exact Sk rfl <| Sk rfl <| Sk rfl <| Sk rfl <| Sk rfl <| Sk rfl <| Vs (Pk rfl) <| Nx <| Cy rfl <| Sq <| Rg <| Vs (Mv rfl) <| Vs (LdS TA24 TS24 rfl) <| Vs (sq1 126 rfl (.buildS _ 1 _ 24 [.agg [vB (zN (((n).fdiv (d)) + (1))), vS (zL (((n).fdiv (d)) + (1)))]] 2 _ [vB (zN (((n).fdiv (d)) + (1))), vS (zL (((n).fdiv (d)) + (1)))] rfl TU96 TZ24 TS24 (List.cons_ne_nil _ _) (by decide) rfl rfl)) <| Vs (Ao1 127 TU96 TS24 TB24 TN24 (x1 := ((n).fdiv (d)) + (1)) (f := fZ) rfl fZ_len) <| Vs (As rfl) <| Nx <| Ke <| Te <| Io <| Oe <| Ih <| Jg ((L) ++ [((n).fdiv (d)) + (1)], (mm) + 1) ⟨⟨hok.done hc6 (.inl hc7), by simp [hm]⟩, by omega, by omega, app_in hok.ins iN⟩ (Wt [(90, 127)])
        · replace hc7 := of_decide_eq_false hc7
          refine Vs (LdS TA24 TS24 rfl) <| Vs (LdS TA24 TS24 rfl) <| Vs (LdS TA24 TS24 rfl) <| Vs (LdS TA24 TS24 rfl) <| Vs (Cf rfl rfl (g67 (p := ((n).fdiv (d)) + (1)) (q := 1) (r := m) (s := f) inT inT inT inT (by first | omega | assumption | (simp; done) | (simp; omega)) (by first | omega | assumption | (simp; done) | (simp; omega))) rfl) <| Vs (Bi rfl) <| Vs (Pk rfl) <| Nx <| Cd rfl (fun hc8 => ?_) (fun hc8 => ?_)
          · replace hc8 := of_decide_eq_true hc8
            exact Sq <| Rg <| Vs (Mv rfl) <| Vs (LdS TA24 TS24 rfl) <| Vs (sq1 126 rfl (.buildS _ 1 _ 24 [.agg [vB (zN (((n).fdiv (d)) + (1))), vS (zL (((n).fdiv (d)) + (1)))]] 2 _ [vB (zN (((n).fdiv (d)) + (1))), vS (zL (((n).fdiv (d)) + (1)))] rfl TU96 TZ24 TS24 (List.cons_ne_nil _ _) (by decide) rfl rfl)) <| Vs (Ao1 127 TU96 TS24 TB24 TN24 (x1 := ((n).fdiv (d)) + (1)) (f := fZ) rfl fZ_len) <| Vs (As rfl) <| Nx <| Ke <| Te <| Io <| Oe <| Ih <| Jg ((L) ++ [((n).fdiv (d)) + (1)], (mm) + 1) ⟨⟨hok.done hc6 (.inr (by have h9 := cmp3_lt.1 hc8; rwa [Int.mul_one] at h9)), by simp [hm]⟩, by omega, by omega, app_in hok.ins iN⟩ (Wt [(90, 127)])
          · replace hc8 := of_decide_eq_false hc8
            refine Ks <| Tg <| Sq <| Rg <| Vs (Mv rfl) <| Vs (LdS TA24 TS24 rfl) <| Vs (sq1 126 rfl (.buildS _ 1 _ 24 [.agg [vB (zN ((n).fdiv (d))), vS (zL ((n).fdiv (d)))]] 2 _ [vB (zN ((n).fdiv (d))), vS (zL ((n).fdiv (d)))] rfl TU96 TZ24 TS24 (List.cons_ne_nil _ _) (by decide) rfl rfl)) <| Vs (Ao1 127 TU96 TS24 TB24 TN24 (x1 := (n).fdiv (d)) (f := fZ) rfl fZ_len) <| Vs (As rfl) <| Nx <| Sq <| Rg <| Vs (LdS TA24 TS24 rfl) <| Vs (LdS TA24 TS24 rfl) <| Vs (C0 rfl rfl (d30 (x := (n).fdiv (d)) (y := f) inT inT)) <| Vs (Mv rfl) <| Vs (Xt rfl) <| Vs (Xt rfl) <| Vs (Al 135 TZ24 rfl) <| Vs (StS TS24 rfl) <| Vs (As rfl) <| Nx <| Sq <| Sq <| Rg <| Vs (Mv rfl) <| Vs (Bi rfl) <| Nx <| Cd rfl (fun hc9 => ?_) (fun hc9 => ?_)
            · replace hc9 := bne_iff_ne.1 hc9
              exact absurd (zE_in.2 im) hc9
            · replace hc9 := bne_eq_false_iff_eq.1 hc9
              refine Ks <| Tg <| Sq <| Rg <| Vs (LdS TA24 TS24 rfl) <| Vs (LdS TA24 TS24 rfl) <| Vs (C0 rfl rfl (d41 (x := m) (y := ((n).fdiv (d)) * (f)) inT inT)) <| Vs (Mv rfl) <| Vs (Xt rfl) <| Vs (Xt rfl) <| Vs (Al 146 TZ24 rfl) <| Vs (StS TS24 rfl) <| Vs (As rfl) <| Nx <| Sq <| Sq <| Rg <| Vs (Mv rfl) <| Vs (Bi rfl) <| Nx <| Cd rfl (fun hc10 => ?_) (fun hc10 => ?_)
              · replace hc10 := bne_iff_ne.1 hc10
                exact absurd (zE_in.2 is) hc10
              · replace hc10 := bne_eq_false_iff_eq.1 hc10
                refine Ks <| Tg <| Rd (by kernel_rfl) <| Vl (LdS TA24 TS24 rfl) <| Vl (LdS TA24 TS24 rfl) <| Vl (LdS TA24 TS24 rfl) <| Vl (LdS TA24 TS24 rfl) <| Vl (StS TS24 rfl) <| Vl (StS TS24 rfl) <| Vl (StS TS24 rfl) <| Vl (StS TS24 rfl) <| ?_
                refine VLog.nil ⟨by kernel_rfl, ?_⟩
                exact Ig <| Go (.inr ((L) ++ [(n).fdiv (d)], (mm) + 1, f, m - n.fdiv d * f, d, n.fmod d)) ⟨hok.next hc6 hc7 (fun h9 => hc8 (cmp3_lt.2 (by rw [Int.mul_one]; exact h9))), by simp [hm]⟩ (Wt [(90, 127)]) (hok.mu (fun h9 => hc8 (cmp3_lt.2 (by rw [Int.mul_one]; exact h9))))
  · rintro ⟨L, mm⟩ hok
    obtain ⟨⟨hR, hm⟩, m0, m1, hi⟩ := hok
    change VCode _ _ _ 91 (sl _) (en _) _
    refine Sq <| Rd (by kernel_rfl) <| Vl (Mv rfl) <| Vl (Mv rfl) <| Vl (Lo TU96 rfl) <| Vl (Bo rfl suI) <| Vl (IT TU96 TS24 rfl) <| Vl (LT fZ_len TA24 TS24 rfl (gd (d := 0) (by first | omega | (simp; done) | (simp; omega))) rfl) <| Vl (LdS TA24 TS24 rfl) <| Vl (Bd TQ27 rfl) <| Vl (Al 99 TZ27 rfl) <| Vl (StS TS27 rfl) <| ?_
    refine VLog.nil ⟨by kernel_rfl, ?_⟩
    refine Tg <| Sq <| Sq <| Rg <| Vs (Mv rfl) <| Vs (Lo TU96 rfl) <| Vs (Bo rfl suI) <| Vs (As rfl) <| Nx <| Bk <| VCode.loop (α := (Int) × (Int) × (Int)) (fun x_ => match x_ with | (i, a, b) => (100, sl [(4, .ptr 2 (0)), (11, .own 90 (mm)), (21, .ptr 99 (0)), (22, vI .i64 (i))], en [(2, ⟨4, [vB (false), vS ([]), vB (false), vS ([])], true⟩), (90, rowT 2 fZ (L)), (99, ⟨4, [vB (zN (a)), vS (zL (a)), vB (zN (b)), vS (zL (b))], true⟩)])) (fun x_ => match x_ with | (i, a, b) => FoldI (cfL (cfP ((q + s).toNat + 1) p q r s)) L (i + 1).toNat a b ∧ -1 ≤ i ∧ i < L.length) (fun x_ => match x_ with | (i, a, b) => (i + 1).toNat) ((((mm : Nat) : Int) - 2), L.getD ((((mm : Nat) : Int) - 1)).toNat 0, 1) ⟨fold0 hR hm m0 hi, by omega, by omega⟩ (Wt []) ?_
    rintro ⟨i, a, b⟩ hok2
    obtain ⟨hF, i0, i1⟩ := hok2
    obtain ⟨ia, ib⟩ := hF.i
    have ie := getD_in hi i.toNat
    change VCode _ _ _ 100 (sl _) (en _) _
    refine Sq <| Sq <| Rg <| Vs (Mv rfl) <| Vs (Bi rfl) <| Nx <| Cd rfl (fun hc11 => ?_) (fun hc11 => ?_)
    · replace hc11 := of_decide_eq_true hc11
      have hF1 := foldi (i := i) (by omega) hF
      refine Ks <| Tg <| Sq <| Bk <| Sq <| Rd (by kernel_rfl) <| Vl (Mv rfl) <| Vl (Mv rfl) <| Vl (IT TU96 TS24 rfl) <| Vl (LT fZ_len TA24 TS24 rfl (gd (d := 0) (by first | omega | (simp; done) | (simp; omega))) rfl) <| Vl (Fa TF27_0 rfl) <| Vl (LdS TA24 TS24 rfl) <| Vl (C0 rfl rfl (d30 (x := (L).getD ((i).toNat) 0) (y := a) inT inT)) <| Vl (Mv rfl) <| Vl (Xt rfl) <| Vl (Xt rfl) <| Vl (Al 112 TZ24 rfl) <| Vl (StS TS24 rfl) <| Vl (As rfl) <| ?_
      refine VLog.nil ⟨by kernel_rfl, ?_⟩
      refine Tg <| Sq <| Sq <| Rg <| Vs (Mv rfl) <| Vs (Bi rfl) <| Nx <| Cd rfl (fun hc12 => ?_) (fun hc12 => ?_)
      · replace hc12 := bne_iff_ne.1 hc12
        exact Sq <| Rg <| Vs (Bd TQ27 rfl) <| Vs (Mv rfl) <| Vs (StS TS27 rfl) <| Vs (As rfl) <| Nx <| Re <| Tr <| Iq <| Tr <| Or <| Iq <| Tr <| Fi (l := [.agg [boolB (false), u32S ([]), boolB (false), u32S ([])], numB .i64 (zE (((L).getD ((i).toNat) 0) * (a)))]) (Rc (resVar_cell rfl rfl TA27 TS27 (Nat.le_of_ble_eq_true rfl) rfl) (Rc (resVar_tmp rfl rfl) Rn)) (po_none (show cfQ p q r s = none from hF1.no1 hc12) hc12 (zE_or _))
      · replace hc12 := bne_eq_false_iff_eq.1 hc12
        have iT := zE_in.1 hc12
        refine Ks <| Tg <| Sq <| Rg <| Vs (LdS TA24 TS24 rfl) <| Vs (Fa TF27_1 rfl) <| Vs (LdS TA24 TS24 rfl) <| Vs (C0 rfl rfl (d39 (x := ((L).getD ((i).toNat) 0) * (a)) (y := b) inT inT)) <| Vs (Mv rfl) <| Vs (Xt rfl) <| Vs (Xt rfl) <| Vs (Al 124 TZ24 rfl) <| Vs (StS TS24 rfl) <| Vs (As rfl) <| Nx <| Sq <| Sq <| Rg <| Vs (Mv rfl) <| Vs (Bi rfl) <| Nx <| Cd rfl (fun hc13 => ?_) (fun hc13 => ?_)
        · replace hc13 := bne_iff_ne.1 hc13
          exact Sq <| Rg <| Vs (Bd TQ27 rfl) <| Vs (Mv rfl) <| Vs (StS TS27 rfl) <| Vs (As rfl) <| Nx <| Re <| Tr <| Iq <| Tr <| Or <| Iq <| Tr <| Fi (l := [.agg [boolB (false), u32S ([]), boolB (false), u32S ([])], numB .i64 (zE ((((L).getD ((i).toNat) 0) * (a)) + (b)))]) (Rc (resVar_cell rfl rfl TA27 TS27 (Nat.le_of_ble_eq_true rfl) rfl) (Rc (resVar_tmp rfl rfl) Rn)) (po_none (show cfQ p q r s = none from hF1.no2 hc12 hc13) hc13 (zE_or _))
        · replace hc13 := bne_eq_false_iff_eq.1 hc13
          exact Ks <| Tg <| Rg <| Vs (LdS TA24 TS24 rfl) <| Vs (Fa TF27_0 rfl) <| Vs (LdS TA24 TS24 rfl) <| Vs (Bd TQ27 rfl) <| Vs (StS TS27 rfl) <| VList.nil <| Ig <| Tg <| Rg <| Vs (Mv rfl) <| Vs (Bo rfl suI) <| Vs (As rfl) <| VList.nil <| Go (i - 1, (L).getD ((i)).toNat 0 * a + b, a) ⟨foldn (hF1.next hc12 hc13), by omega, by omega⟩ (Wt [])
    · replace hc11 := of_decide_eq_false hc11
      exact Ke <| Te <| Oe <| Ih <| Tg <| Sq <| Rg <| Vs (LdS TA27 TS27 rfl) <| Vs (StS TS27 rfl) <| Vs (As rfl) <| Nx <| Re <| Fi (l := [.agg [boolB (zN (a)), u32S (zL (a)), boolB (zN (b)), u32S (zL (b))], numB .i64 (0)]) (Rc (resVar_cell rfl rfl TA27 TS27 (Nat.le_of_ble_eq_true rfl) rfl) (Rc (resVar_tmp rfl rfl) Rn)) (po_some (show cfQ p q r s = some (a, b) from foldz (i := i) (by omega) hF))
theorem g24i (n : Bool) (A : List Int) (m : Bool) (D : List Int) (n2 : Bool) (A2 : List Int) (m2 : Bool) (D2 : List Int) (hA : A.length ≤ 9223372036854775807) (hD : D.length ≤ 9223372036854775807) (hA2 : A2.length ≤ 9223372036854775807) (hD2 : D2.length ≤ 9223372036854775807) (oA : ok32 A) (oD : ok32 D) (oA2 : ok32 A2) (oD2 : ok32 D2) (h : (vR n A m D && vR n2 A2 m2 D2) = false) : VF Try.prog 24 [.agg [boolB (n), u32S (A), boolB (m), u32S (D)], .agg [boolB (n2), u32S (A2), boolB (m2), u32S (D2)]] (rR 0 0 1) := by
  exact VF_of P_mixed Try.func24 rfl rfl (by kernel_rfl) <| Sq <| Rg <| Vs (Bx 0 rfl) <| Vs (Bx 1 rfl) <| Vs (Al 2 TZ27 rfl) <| Vs (As rfl) <| Nx <| Sq <| Sq <| Rg <| Vs (LdS TA27 TS27 rfl) <| Vs (LdS TA27 TS27 rfl) <| Vs (Kb (show (vR n A m D && vR n2 A2 m2 D2) = false from h) (Cf rfl rfl (g66 n A m D n2 A2 m2 D2 hA hD hA2 hD2 oA oD oA2 oD2) rfl)) <| Vs (Un rfl) <| Nx <| Cy rfl <| Sq <| Rg <| Vs (Bd TQ27 rfl) <| Vs (StS TS27 rfl) <| Vs (As rfl) <| Nx <| Re <| Tr <| Fi (l := [.agg [boolB (false), u32S ([]), boolB (false), u32S ([])], numB .i64 (1)]) (Rc (resVar_cell rfl rfl TA27 TS27 (Nat.le_of_ble_eq_true rfl) rfl) (Rc (resVar_tmp rfl rfl) Rn)) (by rw [rR, qB_zero]; rfl)
theorem g24 {p q r s : Int} (ha : okR p q) (hb : okR r s) : VF Try.prog 24 [.agg [boolB (zN (p)), u32S (zL (p)), boolB (zN (q)), u32S (zL (q))], .agg [boolB (zN (r)), u32S (zL (r)), boolB (zN (s)), u32S (zL (s))]] (siR p q r s) := by
  obtain ⟨q0, g0, hp, hq⟩ := ha
  obtain ⟨s0, g1, hr, hs⟩ := hb
  have pi := po_ins (p := -r) (q := s) (r := -p) (s := q)
  refine VF_of P_mixed Try.func24 rfl rfl (by kernel_rfl) <| Sq <| Rg <| Vs (Bx 0 rfl) <| Vs (Bx 1 rfl) <| Vs (Al 2 TZ27 rfl) <| Vs (As rfl) <| Nx <| Sq <| Sq <| Rg <| Vs (LdS TA27 TS27 rfl) <| Vs (LdS TA27 TS27 rfl) <| Vs (Cf rfl rfl (g66q ⟨q0, g0, hp, hq⟩ ⟨s0, g1, hr, hs⟩) rfl) <| Vs (Un rfl) <| Nx <| Cz rfl <| Ks <| Tg <| Sq <| Sq <| Rg <| Vs (Fa TF27_0 rfl) <| Vs (LdS TA24 TS24 rfl) <| Vs (Fa TF27_1 rfl) <| Vs (LdS TA24 TS24 rfl) <| Vs (Fa TF27_0 rfl) <| Vs (LdS TA24 TS24 rfl) <| Vs (Fa TF27_1 rfl) <| Vs (LdS TA24 TS24 rfl) <| Vs (Cf rfl rfl (g67 (p := p) (q := q) (r := r) (s := s) inT inT inT inT (q0) (s0)) rfl) <| Vs (Bi rfl) <| Nx <| Cd rfl (fun hc1 => ?_) (fun hc1 => ?_)
  · replace hc1 := of_decide_eq_true hc1
    exact Sq <| Rg <| Vs (Bd TQ27 rfl) <| Vs (StS TS27 rfl) <| Vs (As rfl) <| Nx <| Re <| Tr <| Fi (l := [.agg [boolB (false), u32S ([]), boolB (false), u32S ([])], numB .i64 (1)]) (Rc (resVar_cell rfl rfl TA27 TS27 (Nat.le_of_ble_eq_true rfl) rfl) (Rc (resVar_tmp rfl rfl) Rn)) (si_no hc1)
  · replace hc1 := of_decide_eq_false hc1
    have lt := si_lt hc1
    refine Ks <| Tg <| Sq <| Sq <| Rg <| Vs (Fa TF27_0 rfl) <| Vs (LdS TA24 TS24 rfl) <| Vs (Cf rfl rfl (g55 (z := r) inT) rfl) <| Vs (Un rfl) <| Vs (Mv rfl) <| Sp 28 rfl (fun hc2 => ?_) (fun hc2 => ?_)
    · replace hc2 := of_decide_eq_false (bnot_t hc2)
      refine Vs (Fa TF27_0 rfl) <| Vs (Fa TF24_0 rfl) <| Vs (Ld TA4 rfl) <| Vs (Un rfl) <| Vs (Pk rfl) <| Vs (Mv rfl) <| Sp 34 rfl (fun hc3 => ?_) (fun hc3 => ?_)
      · replace hc3 := (bnot_t hc3)
        refine Vs (Fa TF27_0 rfl) <| Vs (Fa TF24_0 rfl) <| Vs (Ld TA4 rfl) <| Vs (Mv rfl) <| Sp 38 rfl (fun hc4 => ?_) (fun hc4 => ?_)
        · replace hc4 := hc4
          refine Sk rfl <| Sk rfl <| Sk rfl <| Vs (Pk rfl) <| Vs (Pk rfl) <| Nx <| Cy rfl <| Sq <| Sq <| Rg <| Vs (Fa TF27_0 rfl) <| Vs (Fa TF24_0 rfl) <| Vs (Ld TA4 rfl) <| Nx <| Cd rfl (fun hc5 => ?_) (fun hc5 => ?_)
          · replace hc5 := hc5
            exact Sq <| Rg <| Vs (C0 rfl rfl (d37 (n := 0) (by first | omega | assumption | (simp; done) | (simp; omega)) (by first | omega | assumption | (simp; done) | (simp; omega)))) <| Vs (C0 rfl rfl (d37 (n := 1) (by first | omega | assumption | (simp; done) | (simp; omega)) (by first | omega | assumption | (simp; done) | (simp; omega)))) <| Vs (Bd TQ27 rfl) <| Vs (StS TS27 rfl) <| Vs (As rfl) <| Nx <| Re <| Tr <| Tr <| Fi (l := [.agg [boolB (zN (0)), u32S (zL (0)), boolB (zN (1)), u32S (zL (1))], numB .i64 (0)]) (Rc (resVar_cell rfl rfl TA27 TS27 (Nat.le_of_ble_eq_true rfl) rfl) (Rc (resVar_tmp rfl rfl) Rn)) (si_mid' lt (zN_lt hc5) (by have := zero_le hr hc3; omega))
          · replace hc5 := hc5
            rw [hc4] at hc5; cases hc5
        · replace hc4 := hc4
          refine Vs (Fa TF27_0 rfl) <| Vs (LdS TA24 TS24 rfl) <| Vs (Cf rfl rfl (g55 (z := p) inT) rfl) <| Vs (Pk rfl) <| Vs (Pk rfl) <| Nx <| Cd rfl (fun hc6 => ?_) (fun hc6 => ?_)
          · replace hc6 := of_decide_eq_true hc6
            refine Sq <| Sq <| Rg <| Vs (Fa TF27_0 rfl) <| Vs (Fa TF24_0 rfl) <| Vs (Ld TA4 rfl) <| Nx <| Cd rfl (fun hc7 => ?_) (fun hc7 => ?_)
            · replace hc7 := hc7
              rw [hc4] at hc7; cases hc7
            · replace hc7 := hc7
              exact Ks <| Tg <| Sq <| Rg <| Vs (LdS TA27 TS27 rfl) <| Vs (LdS TA27 TS27 rfl) <| Vs (C0 rfl rfl (g68 (p := p) (q := q) (r := r) (s := s) inT inT inT inT (by first | exact zero_le hp hc4 | exact zero_le hp hc9 | exact zero_le hp hc11) (by first | omega | assumption | (simp; done) | (simp; omega)) (Int.le_of_lt s0) (lt))) <| Vs (Xt rfl) <| Vs (Xt rfl) <| Vs (StS TS27 rfl) <| Vs (As rfl) <| Nx <| Re <| Tr <| Fi (l := [.agg [boolB (zN (poN (cfQ (p) (q) (r) (s)))), u32S (zL (poN (cfQ (p) (q) (r) (s)))), boolB (zN (poD (cfQ (p) (q) (r) (s)))), u32S (zL (poD (cfQ (p) (q) (r) (s))))], numB .i64 (poE (cfQ (p) (q) (r) (s)))]) (Rc (resVar_cell rfl rfl TA27 TS27 (Nat.le_of_ble_eq_true rfl) rfl) (Rc (resVar_tmp rfl rfl) Rn)) (si_pos lt (mt cmp3_lt.1 (by have := zero_le hp hc4; omega)))
          · replace hc6 := of_decide_eq_false hc6
            refine Ks <| Tg <| Sq <| Sq <| Rg <| Vs (Fa TF27_0 rfl) <| Vs (Fa TF24_0 rfl) <| Vs (Ld TA4 rfl) <| Nx <| Cd rfl (fun hc8 => ?_) (fun hc8 => ?_)
            · replace hc8 := hc8
              rw [hc4] at hc8; cases hc8
            · replace hc8 := hc8
              exact Ks <| Tg <| Sq <| Rg <| Vs (LdS TA27 TS27 rfl) <| Vs (LdS TA27 TS27 rfl) <| Vs (C0 rfl rfl (g68 (p := p) (q := q) (r := r) (s := s) inT inT inT inT (by first | exact zero_le hp hc4 | exact zero_le hp hc9 | exact zero_le hp hc11) (by first | omega | assumption | (simp; done) | (simp; omega)) (Int.le_of_lt s0) (lt))) <| Vs (Xt rfl) <| Vs (Xt rfl) <| Vs (StS TS27 rfl) <| Vs (As rfl) <| Nx <| Re <| Fi (l := [.agg [boolB (zN (poN (cfQ (p) (q) (r) (s)))), u32S (zL (poN (cfQ (p) (q) (r) (s)))), boolB (zN (poD (cfQ (p) (q) (r) (s)))), u32S (zL (poD (cfQ (p) (q) (r) (s))))], numB .i64 (poE (cfQ (p) (q) (r) (s)))]) (Rc (resVar_cell rfl rfl TA27 TS27 (Nat.le_of_ble_eq_true rfl) rfl) (Rc (resVar_tmp rfl rfl) Rn)) (si_pos lt (mt cmp3_lt.1 (by have := zero_le hp hc4; omega)))
      · replace hc3 := (bnot_f hc3)
        refine Sk rfl <| Sk rfl <| Sk rfl <| Sk rfl <| Sk rfl <| Sk rfl <| Sk rfl <| Sk rfl <| Vs (Pk rfl) <| Nx <| Cz rfl <| Ks <| Tg <| Sq <| Sq <| Rg <| Vs (Fa TF27_0 rfl) <| Vs (Fa TF24_0 rfl) <| Vs (Ld TA4 rfl) <| Nx <| Cd rfl (fun hc9 => ?_) (fun hc9 => ?_)
        · replace hc9 := hc9
          refine Sq <| Rd (by kernel_rfl) <| Vl (Fa TF27_0 rfl) <| Vl (LdS TA24 TS24 rfl) <| Vl (C0 rfl rfl (g69 (z := r) (hr))) <| Vl (Fa TF27_1 rfl) <| Vl (LdS TA24 TS24 rfl) <| Vl (Bd TQ27 rfl) <| Vl (Fa TF27_0 rfl) <| Vl (LdS TA24 TS24 rfl) <| Vl (C0 rfl rfl (g69 (z := p) (hp))) <| Vl (Fa TF27_1 rfl) <| Vl (LdS TA24 TS24 rfl) <| Vl (Bd TQ27 rfl) <| Vl (C0 rfl rfl (g68 (p := -(r)) (q := s) (r := -(p)) (s := q) inT inT inT inT (by first | omega | (have := zN_lt hc3; omega)) (by first | omega | assumption | (simp; done) | (simp; omega)) (Int.le_of_lt q0) (turn_lt lt))) <| Vl (Mv rfl) <| Vl (Xt rfl) <| Vl (Xt rfl) <| Vl (Al 57 TZ27 rfl) <| Vl (StS TS27 rfl) <| Vl (As rfl) <| ?_
          refine VLog.nil ⟨by kernel_rfl, ?_⟩
          refine Tg <| Sq <| Sq <| Rg <| Vs (Mv rfl) <| Vs (Bi rfl) <| Nx <| Cd rfl (fun hc10 => ?_) (fun hc10 => ?_)
          · replace hc10 := bne_iff_ne.1 hc10
            exact Sq <| Rg <| Vs (Bd TQ27 rfl) <| Vs (Mv rfl) <| Vs (StS TS27 rfl) <| Vs (As rfl) <| Nx <| Re <| Tr <| Tr <| Fi (l := [.agg [boolB (false), u32S ([]), boolB (false), u32S ([])], numB .i64 (poE (cfQ (-(r)) (s) (-(p)) (q)))]) (Rc (resVar_cell rfl rfl TA27 TS27 (Nat.le_of_ble_eq_true rfl) rfl) (Rc (resVar_tmp rfl rfl) Rn)) (si_neg1 lt (cmp3_lt.2 (zN_lt hc9)) (mt cmp3_gt.1 (by have := zN_lt hc3; omega)) hc10)
          · replace hc10 := bne_eq_false_iff_eq.1 hc10
            refine Ks <| Tg <| Sq <| Rd (by kernel_rfl) <| Vl (Fa TF27_0 rfl) <| Vl (LdS TA24 TS24 rfl) <| Vl (C0 rfl rfl (g69 (z := poN (cfQ (-(r)) (s) (-(p)) (q))) (pi.1))) <| Vl (Fa TF27_1 rfl) <| Vl (LdS TA24 TS24 rfl) <| Vl (Bd TQ27 rfl) <| Vl (StS TS27 rfl) <| Vl (As rfl) <| ?_
            refine VLog.nil ⟨by kernel_rfl, ?_⟩
            exact Tg <| Re <| Tr <| Fi (l := [.agg [boolB (zN (-(poN (cfQ (-(r)) (s) (-(p)) (q))))), u32S (zL (-(poN (cfQ (-(r)) (s) (-(p)) (q))))), boolB (zN (poD (cfQ (-(r)) (s) (-(p)) (q)))), u32S (zL (poD (cfQ (-(r)) (s) (-(p)) (q))))], numB .i64 (0)]) (Rc (resVar_cell rfl rfl TA27 TS27 (Nat.le_of_ble_eq_true rfl) rfl) (Rc (resVar_tmp rfl rfl) Rn)) (si_neg2 lt (cmp3_lt.2 (zN_lt hc9)) (mt cmp3_gt.1 (by have := zN_lt hc3; omega)) hc10)
        · replace hc9 := hc9
          exact Ks <| Tg <| Sq <| Rg <| Vs (LdS TA27 TS27 rfl) <| Vs (LdS TA27 TS27 rfl) <| Vs (C0 rfl rfl (g68 (p := p) (q := q) (r := r) (s := s) inT inT inT inT (by first | exact zero_le hp hc4 | exact zero_le hp hc9 | exact zero_le hp hc11) (by first | omega | assumption | (simp; done) | (simp; omega)) (Int.le_of_lt s0) (lt))) <| Vs (Xt rfl) <| Vs (Xt rfl) <| Vs (StS TS27 rfl) <| Vs (As rfl) <| Nx <| Re <| Fi (l := [.agg [boolB (zN (poN (cfQ (p) (q) (r) (s)))), u32S (zL (poN (cfQ (p) (q) (r) (s)))), boolB (zN (poD (cfQ (p) (q) (r) (s)))), u32S (zL (poD (cfQ (p) (q) (r) (s))))], numB .i64 (poE (cfQ (p) (q) (r) (s)))]) (Rc (resVar_cell rfl rfl TA27 TS27 (Nat.le_of_ble_eq_true rfl) rfl) (Rc (resVar_tmp rfl rfl) Rn)) (si_pos lt (mt cmp3_lt.1 (by have := zero_le hp hc9; omega)))
    · replace hc2 := of_decide_eq_true (bnot_f hc2)
      refine Sk rfl <| Sk rfl <| Sk rfl <| Sk rfl <| Vs (Pk rfl) <| Vs (Mv rfl) <| Sk rfl <| Sk rfl <| Sk rfl <| Sk rfl <| Sk rfl <| Sk rfl <| Sk rfl <| Sk rfl <| Vs (Pk rfl) <| Nx <| Cz rfl <| Ks <| Tg <| Sq <| Sq <| Rg <| Vs (Fa TF27_0 rfl) <| Vs (Fa TF24_0 rfl) <| Vs (Ld TA4 rfl) <| Nx <| Cd rfl (fun hc11 => ?_) (fun hc11 => ?_)
      · replace hc11 := hc11
        refine Sq <| Rd (by kernel_rfl) <| Vl (Fa TF27_0 rfl) <| Vl (LdS TA24 TS24 rfl) <| Vl (C0 rfl rfl (g69 (z := r) (hr))) <| Vl (Fa TF27_1 rfl) <| Vl (LdS TA24 TS24 rfl) <| Vl (Bd TQ27 rfl) <| Vl (Fa TF27_0 rfl) <| Vl (LdS TA24 TS24 rfl) <| Vl (C0 rfl rfl (g69 (z := p) (hp))) <| Vl (Fa TF27_1 rfl) <| Vl (LdS TA24 TS24 rfl) <| Vl (Bd TQ27 rfl) <| Vl (C0 rfl rfl (g68 (p := -(r)) (q := s) (r := -(p)) (s := q) inT inT inT inT (by first | omega | (have := zN_lt hc3; omega)) (by first | omega | assumption | (simp; done) | (simp; omega)) (Int.le_of_lt q0) (turn_lt lt))) <| Vl (Mv rfl) <| Vl (Xt rfl) <| Vl (Xt rfl) <| Vl (Al 57 TZ27 rfl) <| Vl (StS TS27 rfl) <| Vl (As rfl) <| ?_
        refine VLog.nil ⟨by kernel_rfl, ?_⟩
        refine Tg <| Sq <| Sq <| Rg <| Vs (Mv rfl) <| Vs (Bi rfl) <| Nx <| Cd rfl (fun hc12 => ?_) (fun hc12 => ?_)
        · replace hc12 := bne_iff_ne.1 hc12
          exact Sq <| Rg <| Vs (Bd TQ27 rfl) <| Vs (Mv rfl) <| Vs (StS TS27 rfl) <| Vs (As rfl) <| Nx <| Re <| Tr <| Tr <| Fi (l := [.agg [boolB (false), u32S ([]), boolB (false), u32S ([])], numB .i64 (poE (cfQ (-(r)) (s) (-(p)) (q)))]) (Rc (resVar_cell rfl rfl TA27 TS27 (Nat.le_of_ble_eq_true rfl) rfl) (Rc (resVar_tmp rfl rfl) Rn)) (si_neg1 lt (cmp3_lt.2 (zN_lt hc11)) (mt cmp3_gt.1 (by omega)) hc12)
        · replace hc12 := bne_eq_false_iff_eq.1 hc12
          refine Ks <| Tg <| Sq <| Rd (by kernel_rfl) <| Vl (Fa TF27_0 rfl) <| Vl (LdS TA24 TS24 rfl) <| Vl (C0 rfl rfl (g69 (z := poN (cfQ (-(r)) (s) (-(p)) (q))) (pi.1))) <| Vl (Fa TF27_1 rfl) <| Vl (LdS TA24 TS24 rfl) <| Vl (Bd TQ27 rfl) <| Vl (StS TS27 rfl) <| Vl (As rfl) <| ?_
          refine VLog.nil ⟨by kernel_rfl, ?_⟩
          exact Tg <| Re <| Tr <| Fi (l := [.agg [boolB (zN (-(poN (cfQ (-(r)) (s) (-(p)) (q))))), u32S (zL (-(poN (cfQ (-(r)) (s) (-(p)) (q))))), boolB (zN (poD (cfQ (-(r)) (s) (-(p)) (q)))), u32S (zL (poD (cfQ (-(r)) (s) (-(p)) (q))))], numB .i64 (0)]) (Rc (resVar_cell rfl rfl TA27 TS27 (Nat.le_of_ble_eq_true rfl) rfl) (Rc (resVar_tmp rfl rfl) Rn)) (si_neg2 lt (cmp3_lt.2 (zN_lt hc11)) (mt cmp3_gt.1 (by omega)) hc12)
      · replace hc11 := hc11
        exact Ks <| Tg <| Sq <| Rg <| Vs (LdS TA27 TS27 rfl) <| Vs (LdS TA27 TS27 rfl) <| Vs (C0 rfl rfl (g68 (p := p) (q := q) (r := r) (s := s) inT inT inT inT (by first | exact zero_le hp hc4 | exact zero_le hp hc9 | exact zero_le hp hc11) (by first | omega | assumption | (simp; done) | (simp; omega)) (Int.le_of_lt s0) (lt))) <| Vs (Xt rfl) <| Vs (Xt rfl) <| Vs (StS TS27 rfl) <| Vs (As rfl) <| Nx <| Re <| Fi (l := [.agg [boolB (zN (poN (cfQ (p) (q) (r) (s)))), u32S (zL (poN (cfQ (p) (q) (r) (s)))), boolB (zN (poD (cfQ (p) (q) (r) (s)))), u32S (zL (poD (cfQ (p) (q) (r) (s))))], numB .i64 (poE (cfQ (p) (q) (r) (s)))]) (Rc (resVar_cell rfl rfl TA27 TS27 (Nat.le_of_ble_eq_true rfl) rfl) (Rc (resVar_tmp rfl rfl) Rn)) (si_pos lt (mt cmp3_lt.1 (by have := zero_le hp hc11; omega)))
end Go.VL

/- Walks over the Go functions, printed by a program of this session over the kit's print, and by hand. -/
set_option linter.unusedVariables false
set_option linter.unusedSimpArgs false
set_option maxRecDepth 100000
namespace Go.VL
open Go.Proofs
theorem g4w {n : Bool} {A : List Int} {m : Bool} {D : List Int} {n2 : Bool} {A2 : List Int} {m2 : Bool} {D2 : List Int} {p q e : Int} (i1 : inB p = true) (i2 : inB q = true) (h23 : VF Try.prog 23 [ratB n A m D, ratB n2 A2 m2 D2] (rR p q e)) (h24 : VF Try.prog 24 [ratB n A m D, ratB n2 A2 m2 D2] (rR p q e)) : VF Try.prog 4 [.agg [boolB (n), u32S (A), boolB (m), u32S (D)], .agg [boolB (n2), u32S (A2), boolB (m2), u32S (D2)]] (boolB true) := by
  exact VF_of P_mixed Try.func4 rfl rfl (by kernel_rfl) <| Sq <| Rg <| Vs (Bx 0 rfl) <| Vs (Bx 1 rfl) <| Vs (As rfl) <| Nx <| Sq <| Rg <| Vs (Cf rfl rfl (g15) rfl) <| Vs (As rfl) <| Nx <| Sq <| Rg <| Vs (LdS TA27 TS27 rfl) <| Vs (LdS TA27 TS27 rfl) <| Vs (C0 rfl rfl (h23)) <| Vs (Mv rfl) <| Vs (Xt rfl) <| Vs (Xt rfl) <| Vs (Al 11 TZ27 rfl) <| Vs (StS TS27 rfl) <| Vs (As rfl) <| Nx <| Sq <| Rg <| Vs (LdS TA27 TS27 rfl) <| Vs (LdS TA27 TS27 rfl) <| Vs (C0 rfl rfl (h24)) <| Vs (Mv rfl) <| Vs (Xt rfl) <| Vs (Xt rfl) <| Vs (Al 20 TZ27 rfl) <| Vs (StS TS27 rfl) <| Vs (As rfl) <| Nx <| Sq <| Rg <| Vs (Mv rfl) <| Vs (Mv rfl) <| Vs (Mv rfl) <| Vs (Mv rfl) <| Vs (Kb (show (e == e) = true from (decide_eq_true rfl)) (Bi rfl)) <| Vs (Pk rfl) <| Vs (Mv rfl) <| Vs (LdS TA27 TS27 rfl) <| Vs (LdS TA27 TS27 rfl) <| Vs (Cf rfl rfl (g22t (p := p) (q := q) inT inT) rfl) <| Vs (Pk rfl) <| Vs (As rfl) <| Nx <| Re <| Fi (l := [boolB (true)]) (Rc (resVar_tmp rfl rfl) Rn) rfl
theorem g4 (n : Bool) (A : List Int) (m : Bool) (D : List Int) (n2 : Bool) (A2 : List Int) (m2 : Bool) (D2 : List Int) (hA : A.length ≤ 9223372036854775807) (hD : D.length ≤ 9223372036854775807) (hA2 : A2.length ≤ 9223372036854775807) (hD2 : D2.length ≤ 9223372036854775807) (oA : ok32 A) (oD : ok32 D) (oA2 : ok32 A2) (oD2 : ok32 D2) : VF Try.prog 4 [ratB n A m D, ratB n2 A2 m2 D2] (boolB true) := by
  cases h : (vR n A m D && vR n2 A2 m2 D2) with
  | false => exact g4w in_zero in_zero (g23i n A m D n2 A2 m2 D2 hA hD hA2 hD2 oA oD oA2 oD2 h) (g24i n A m D n2 A2 m2 D2 hA hD hA2 hD2 oA oD oA2 oD2 h)
  | true =>
    rw [Bool.and_eq_true] at h
    obtain ⟨p, q, e1, e2, e3, e4, ok⟩ := as_q oA oD h.1
    obtain ⟨r, s, e5, e6, e7, e8, ok2⟩ := as_q oA2 oD2 h.2
    rw [e1, e2, e3, e4, e5, e6, e7, e8]
    have h23 := g23 ok ok2
    have h24 := g24 ok ok2
    obtain ⟨x, y, e, hx, hy, he⟩ := si_parts (p := p) (q := q) (r := r) (s := s)
    rw [he] at h23 h24
    exact g4w hx hy h23 h24
end Go.VL

set_option linter.unusedVariables false
set_option linter.unusedSimpArgs false
set_option maxRecDepth 100000
namespace Go.Proofs.Ytnabpemjcidhdaa
open Go.ChangeShapes Go.WideShapes Go.ChangeAt Go.RowKit Go.VL

theorem rationalMatchesSimplest_lifted (os : Os) (started : os.Started) (H : Type) (enc : TypeId × Value → H) :
    ReturnsInHanded {} Try.checked os 4 .any (Rows.rationalMatchesSimplestSpec.pre6 enc Try.prog Try.f4 Rows.rationalMatchesSimplestRow.domain false) (Rows.rationalMatchesSimplestSpec.post enc Try.prog Try.f4 false true false false) := by
  refine returnsInHanded_of_change (C := Try.checked) Try_own started (by kernel_rfl) Try.func4
    (ChangeSpec.witness6 (enc := enc) (C := Try.checked) false ⟨#[], #[.agg #[.bool false, .slice none 0 0, .bool false, .slice none 0 0], .agg #[.bool false, .slice none 0 0, .bool false, .slice none 0 0]], []⟩ 8 (by kernel_rfl) (by kernel_rfl) (by kernel_rfl) (by kernel_rfl)) ?_
  intro W base args ds gs before hval0 hW hcnd _
  have hval : ∀ (j : Nat) t v, Try.f4.params[j]? = some t → args[j]? = some v → Value.okWide Try.prog W .any base t v := hval0
  have hW' := hW
  obtain ⟨p, q, hA0, hV, rfl, hfz, hnd⟩ := hW
  have hA : DataW.TrodAll enc Try.prog W 0 (fun _ => true) true Try.f4.params.toList args.toList ds p := hA0
  have hA1 := hA
  rw [Try.params4] at hA hval
  obtain ⟨v0, v1, d0, d1, p0, p1, rfl, rfl, rfl, h0, h1⟩ := trodAll_two hA
  obtain ⟨rfl, rfl⟩ := trodVars_none hV
  obtain ⟨n0, A0, m0, D0, r0, ⟨o0, s0⟩, l0, k0⟩ := open_rat (hval 0 27 v0 rfl rfl) h0
  obtain ⟨n1, A1, m1, D1, r1, ⟨o1, s1⟩, l1, k1⟩ := open_rat (hval 1 27 v1 rfl rfl) h1
  simp only [List.append_nil] at hW'
  have hlt : ∀ x ∈ p0 ++ p1, x.block < W.heap.size := fun x hx => hW'.lt x hx
  have hread : ∀ t ∈ Try.f4.params.toList, Try.prog.readableRec t = true ∧ t < Try.prog.types.size := by rw [Try.params4]; exact types_cons T27 (types_cons T27 (types_nil))
  refine ((g4 n0 A0 m0 D0 n1 A1 m1 D1 l0 k0 l1 k1 o0 s0 o1 s1).runs (xs := [v0, v1]) rfl (reps_cons r0 (reps_cons r1 reps_nil))).mono fun e W' ⟨he, hb⟩ => ?_
  subst he
  exact ⟨_, rfl, post_of_below (pa := _) (pv := []) hW' (fun _ _ _ => trodAll_mk1 shut_true) (fun sp hsp => args_stay Try_laidOut hb hread hA1 hlt hsp) (fun _ _ => rfl) (by simp) hb (ok_one (by kernel_rfl) rfl ok_true)⟩

theorem rationalMatchesSimplest_facts : joinedFacts Try.pinned.checked.prog 4 Try.f4 Rows.rationalMatchesSimplestSpec Rows.rationalMatchesSimplestRow = true := by
  unfold joinedFacts
  rw [head_may, head_lifts, head_make]
  kernel_rfl

theorem rationalMatchesSimplest_holds : Rows.RationalMatchesSimplestSaid :=
  OpenClaim.holds_of_wide 4 Try.f4 rfl rfl rfl rfl rfl rfl rfl ⟨rfl, rfl, rfl, rfl, rfl⟩ rfl rfl rfl rfl rfl (by kernel_rfl) Try.func4 rationalMatchesSimplest_facts
    (of_decide_eq_true (by kernel_rfl)) (by unfold Func.isWrapper; rw [if_neg (of_decide_eq_false (by kernel_rfl))]; exact ⟨rfl, rfl⟩)
    (fun os started H enc _ => rationalMatchesSimplest_lifted os started H enc)

end Go.Proofs.Ytnabpemjcidhdaa
