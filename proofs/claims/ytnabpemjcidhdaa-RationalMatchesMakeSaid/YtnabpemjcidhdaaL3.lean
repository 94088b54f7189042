/- RationalMatchesMake returns true for every input and leaves the input as it was. No condition. -/
import Derived.Test.YtnabpemjcidhdaaK4
/- Plain laws of rationals: what the functions return stays in bounds. No program. -/
set_option linter.unusedVariables false
namespace Go.VL
section
variable {x y p q r s : Int}
theorem rdS_in (h : inB x = true) : inB (rdS x y) = true := by
  unfold rdS; split
  · exact (in_neg x).trans h
  · exact h
theorem rdN_in (hx : inB x = true) : inB (rdN x y) = true := by
  unfold rdN
  by_cases h : rdG x y = 0
  · rw [h, Int.fdiv_zero]; exact in_zero
  · exact fdiv_in (rdS_in hx) h
theorem rdD_in (hy : inB y = true) : inB (rdD x y) = true := by
  unfold rdD
  by_cases h : rdG x y = 0
  · rw [h, Int.fdiv_zero]; exact in_zero
  · exact fdiv_in (rdS_in hy) h
theorem mkN_in (hx : inB x = true) : inB (mkN x y) = true := by
  unfold mkN; split
  · exact in_zero
  · exact rdN_in hx
theorem mkD_in (hy : inB y = true) : inB (mkD x y) = true := by
  unfold mkD; split
  · exact in_zero
  · exact rdD_in hy
end
end Go.VL

/- Walks over the Go functions, printed by a program of this session over the kit's print, and by hand. -/
set_option linter.unusedVariables false
set_option linter.unusedSimpArgs false
set_option maxRecDepth 100000
namespace Go.VL
open Go.Proofs
theorem g69 {z : Int} (hz : inB z = true) : VF Try.prog 69 [.agg [boolB (zN (z)), u32S (zL (z))]] (iB (-z)) := by
  refine VF_of P_mixed Try.func69 rfl rfl (by kernel_rfl) <| Sq <| Rg <| Vs (Bx 0 rfl) <| Vs (Al 1 TZ24 rfl) <| Nx <| Sq <| Sq <| Rg <| Vs (LdS TA24 TS24 rfl) <| Vs (Cf rfl rfl (g55 (z := z) inT) rfl) <| Nx <| Cd rfl (fun hc1 => ?_) (fun hc1 => ?_)
  · replace hc1 := of_decide_eq_true hc1
    exact Sq <| Rg <| Vs (LdS TA24 TS24 rfl) <| Vs (StS TS24 rfl) <| Nx <| Re <| Tr <| Fi (l := [.agg [boolB (zN (z)), u32S (zL (z))]]) (Rc (resVar_cell rfl rfl TA24 TS24 (Nat.le_of_ble_eq_true rfl) rfl) Rn) (retZ (by omega))
  · replace hc1 := of_decide_eq_false hc1
    exact Ks <| Tg <| Sq <| Rg <| Vs (Fa TF24_0 rfl) <| Vs (Ld TA4 rfl) <| Vs (Un rfl) <| Vs (Fa TF24_1 rfl) <| Vs (Ld TA22 rfl) <| Vs (Bd TQ24 rfl) <| Vs (StS TS24 rfl) <| Nx <| Re <| Fi (l := [.agg [boolB ((!zN (z))), u32S (zL (z))]]) (Rc (resVar_cell rfl rfl TA24 TS24 (Nat.le_of_ble_eq_true rfl) rfl) Rn) (negR (mt (by have := zL_nil hz; omega) hc1))
theorem g56 {x y : Int} (hx : inB x = true) (hy : inB y = true) (h0 : y ≠ 0) : VF Try.prog 56 [.agg [boolB (zN (x)), u32S (zL (x))], .agg [boolB (zN (y)), u32S (zL (y))]] (qB (rdN x y) (rdD x y)) := by
  have nx : inB (-x) = true := (in_neg x).trans hx
  have ny : inB (-y) = true := (in_neg y).trans hy
  have gi := rdG_in hx hy
  have gn := rdG_ne x h0
  refine VF_of P_mixed Try.func56 rfl rfl (by kernel_rfl) <| Sq <| Rg <| Vs (Bx 0 rfl) <| Vs (Bx 1 rfl) <| Vs (Al 2 TZ27 rfl) <| Nx <| Sq <| Rg <| Vs (LdS TA24 TS24 rfl) <| Vs (LdS TA24 TS24 rfl) <| Vs (C0 rfl rfl (d32 (x := x) (y := y) inT inT)) <| Vs (Mv rfl) <| Vs (Xt rfl) <| Vs (Xt rfl) <| Vs (Al 9 TZ24 rfl) <| Vs (StS TS24 rfl) <| Vs (As rfl) <| Nx <| Sq <| Sq <| Rg <| Vs (Fa TF24_0 rfl) <| Vs (Ld TA4 rfl) <| Nx <| Cd rfl (fun hc1 => ?_) (fun hc1 => ?_)
  · (try simp at hc1)
    have hy0 : y < 0 := zN_lt hc1
    exact Sq <| Rg <| Vs (LdS TA24 TS24 rfl) <| Vs (C0 rfl rfl (g69 (z := x) inT)) <| Vs (StS TS24 rfl) <| Nx <| Rg <| Vs (LdS TA24 TS24 rfl) <| Vs (C0 rfl rfl (g69 (z := y) inT)) <| Vs (StS TS24 rfl) <| Nx <| Sq <| Rg <| Vs (LdS TA24 TS24 rfl) <| Vs (LdS TA24 TS24 rfl) <| Vs (C0 rfl rfl (d19 (x := -(x)) (y := rdG (x) (y)) inT inT (by first | with_reducible assumption | omega))) <| Vs (Mv rfl) <| Vs (Xt rfl) <| Vs (Xt rfl) <| Vs (Xt rfl) <| Vs (Al 27 TZ24 rfl) <| Vs (Al 28 TZ24 rfl) <| Vs (StS TS24 rfl) <| Vs (StS TS24 rfl) <| Vs (As rfl) <| Nx <| Sq <| Rg <| Vs (LdS TA24 TS24 rfl) <| Vs (LdS TA24 TS24 rfl) <| Vs (C0 rfl rfl (d19 (x := -(y)) (y := rdG (x) (y)) inT inT (by first | with_reducible assumption | omega))) <| Vs (Mv rfl) <| Vs (Xt rfl) <| Vs (Xt rfl) <| Vs (Xt rfl) <| Vs (Al 39 TZ24 rfl) <| Vs (Al 40 TZ24 rfl) <| Vs (StS TS24 rfl) <| Vs (StS TS24 rfl) <| Vs (As rfl) <| Nx <| Sq <| Rg <| Vs (LdS TA24 TS24 rfl) <| Vs (LdS TA24 TS24 rfl) <| Vs (Bd TQ27 rfl) <| Vs (StS TS27 rfl) <| Nx <| Re <| Fi (l := [.agg [boolB (zN ((-(x)).fdiv (rdG (x) (y)))), u32S (zL ((-(x)).fdiv (rdG (x) (y)))), boolB (zN ((-(y)).fdiv (rdG (x) (y)))), u32S (zL ((-(y)).fdiv (rdG (x) (y))))]]) (Rc (resVar_cell rfl rfl TA27 TS27 (Nat.le_of_ble_eq_true rfl) rfl) Rn) (rdR1 hy0)
  · (try simp at hc1)
    have hy0 : ¬ y < 0 := zN_ge hy hc1
    exact Ks <| Tg <| Sq <| Rg <| Vs (LdS TA24 TS24 rfl) <| Vs (LdS TA24 TS24 rfl) <| Vs (C0 rfl rfl (d19 (x := x) (y := rdG (x) (y)) inT inT (by first | with_reducible assumption | omega))) <| Vs (Mv rfl) <| Vs (Xt rfl) <| Vs (Xt rfl) <| Vs (Xt rfl) <| Vs (Al 21 TZ24 rfl) <| Vs (Al 22 TZ24 rfl) <| Vs (StS TS24 rfl) <| Vs (StS TS24 rfl) <| Vs (As rfl) <| Nx <| Sq <| Rg <| Vs (LdS TA24 TS24 rfl) <| Vs (LdS TA24 TS24 rfl) <| Vs (C0 rfl rfl (d19 (x := y) (y := rdG (x) (y)) inT inT (by first | with_reducible assumption | omega))) <| Vs (Mv rfl) <| Vs (Xt rfl) <| Vs (Xt rfl) <| Vs (Xt rfl) <| Vs (Al 33 TZ24 rfl) <| Vs (Al 34 TZ24 rfl) <| Vs (StS TS24 rfl) <| Vs (StS TS24 rfl) <| Vs (As rfl) <| Nx <| Sq <| Rg <| Vs (LdS TA24 TS24 rfl) <| Vs (LdS TA24 TS24 rfl) <| Vs (Bd TQ27 rfl) <| Vs (StS TS27 rfl) <| Nx <| Re <| Fi (l := [.agg [boolB (zN ((x).fdiv (rdG (x) (y)))), u32S (zL ((x).fdiv (rdG (x) (y)))), boolB (zN ((y).fdiv (rdG (x) (y)))), u32S (zL ((y).fdiv (rdG (x) (y))))]]) (Rc (resVar_cell rfl rfl TA27 TS27 (Nat.le_of_ble_eq_true rfl) rfl) Rn) (rdR3 hy0)
theorem g17i (n : Bool) (A : List Int) (m : Bool) (D : List Int) (hA : A.length ≤ 9223372036854775807) (hD : D.length ≤ 9223372036854775807) (h : (validB n A && validB m D) = false) : VF Try.prog 17 [.agg [boolB (n), u32S (A)], .agg [boolB (m), u32S (D)]] (rR 0 0 1) := by
  refine VF_of P_mixed Try.func17 rfl rfl (by kernel_rfl) <| Sq <| Rg <| Vs (Bx 0 rfl) <| Vs (Bx 1 rfl) <| Vs (Al 2 TZ27 rfl) <| Vs (As rfl) <| Nx <| Sq <| Rg <| Vs (LdS TA24 TS24 rfl) <| Vs (Cf rfl rfl (f26 n A hA) rfl) <| Vs (As rfl) <| Nx <| Sq <| Rg <| Vs (LdS TA24 TS24 rfl) <| Vs (Cf rfl rfl (f26 m D hD) rfl) <| Vs (As rfl) <| Nx <| Sq <| Sq <| Rg <| Vs (Mv rfl) <| Vs (Un rfl) <| Vs (Mv rfl) <| Sp 14 rfl (fun hc1 => ?_) (fun hc1 => ?_)
  · replace hc1 := (bnot_t hc1)
    exact Sk rfl <| Sk rfl <| Vs (Pk rfl) <| Nx <| Cy rfl <| Sq <| Rg <| Vs (Bd TQ27 rfl) <| Vs (StS TS27 rfl) <| Vs (As rfl) <| Nx <| Re <| Tr <| Fi (l := [.agg [boolB (false), u32S ([]), boolB (false), u32S ([])], numB .i64 (1)]) (Rc (resVar_cell rfl rfl TA27 TS27 (Nat.le_of_ble_eq_true rfl) rfl) (Rc (resVar_tmp rfl rfl) Rn)) (by rw [rR, qB_zero]; rfl)
  · replace hc1 := (bnot_f hc1)
    refine Vs (Mv rfl) <| Vs (Un rfl) <| Vs (Pk rfl) <| Nx <| Cd rfl (fun hc2 => ?_) (fun hc2 => ?_)
    · replace hc2 := (bnot_t hc2)
      exact Sq <| Rg <| Vs (Bd TQ27 rfl) <| Vs (StS TS27 rfl) <| Vs (As rfl) <| Nx <| Re <| Tr <| Fi (l := [.agg [boolB (false), u32S ([]), boolB (false), u32S ([])], numB .i64 (1)]) (Rc (resVar_cell rfl rfl TA27 TS27 (Nat.le_of_ble_eq_true rfl) rfl) (Rc (resVar_tmp rfl rfl) Rn)) (by rw [rR, qB_zero]; rfl)
    · replace hc2 := (bnot_f hc2)
      simp [hc1, hc2] at h
theorem g17 {x y : Int} (hx : inB x = true) (hy : inB y = true) : VF Try.prog 17 [.agg [boolB (zN (x)), u32S (zL (x))], .agg [boolB (zN (y)), u32S (zL (y))]] (rR (mkN x y) (mkD x y) (mkE y)) := by
  refine VF_of P_mixed Try.func17 rfl rfl (by kernel_rfl) <| Sq <| Rg <| Vs (Bx 0 rfl) <| Vs (Bx 1 rfl) <| Vs (Al 2 TZ27 rfl) <| Vs (As rfl) <| Nx <| Sq <| Rg <| Vs (LdS TA24 TS24 rfl) <| Vs (Cf rfl rfl (d26 (x)) rfl) <| Vs (As rfl) <| Nx <| Sq <| Rg <| Vs (LdS TA24 TS24 rfl) <| Vs (Cf rfl rfl (d26 (y)) rfl) <| Vs (As rfl) <| Nx <| Sq <| Sq <| Rg <| Vs (Mv rfl) <| Vs (Un rfl) <| Vs (Mv rfl) <| Vs (Mv rfl) <| Vs (Un rfl) <| Vs (Pk rfl) <| Nx <| Cz rfl <| Ks <| Tg <| Sq <| Sq <| Rg <| Vs (LdS TA24 TS24 rfl) <| Vs (Cf rfl rfl (g55 (z := y) inT) rfl) <| Nx <| Cd rfl (fun hc1 => ?_) (fun hc1 => ?_)
  · replace hc1 := of_decide_eq_true hc1
    exact Sq <| Rg <| Vs (Bd TQ27 rfl) <| Vs (StS TS27 rfl) <| Vs (As rfl) <| Nx <| Re <| Tr <| Fi (l := [.agg [boolB (false), u32S ([]), boolB (false), u32S ([])], numB .i64 (4)]) (Rc (resVar_cell rfl rfl TA27 TS27 (Nat.le_of_ble_eq_true rfl) rfl) (Rc (resVar_tmp rfl rfl) Rn)) (mkR0 hc1)
  · replace hc1 := of_decide_eq_false hc1
    exact Ks <| Tg <| Sq <| Rg <| Vs (LdS TA24 TS24 rfl) <| Vs (LdS TA24 TS24 rfl) <| Vs (C0 rfl rfl (g56 (x := x) (y := y) inT inT (by first | with_reducible assumption | omega))) <| Vs (StS TS27 rfl) <| Vs (As rfl) <| Nx <| Re <| Fi (l := [.agg [boolB (zN (rdN (x) (y))), u32S (zL (rdN (x) (y))), boolB (zN (rdD (x) (y))), u32S (zL (rdD (x) (y)))], numB .i64 (0)]) (Rc (resVar_cell rfl rfl TA27 TS27 (Nat.le_of_ble_eq_true rfl) rfl) (Rc (resVar_tmp rfl rfl) Rn)) (mkR1 hc1)
theorem g19 {k d : Int} (k0 : -9223372036854775808 ≤ k) (k1 : k ≤ 9223372036854775807) (d0 : -9223372036854775808 ≤ d) (d1 : d ≤ 9223372036854775807) : VF Try.prog 19 [numB .i64 (k), numB .i64 (d)] (rR (mkN k d) (mkD k d) (mkE d)) := by
  have i1 := in_i64 k0 k1
  have i2 := in_i64 d0 d1
  exact VF_of P_mixed Try.func19 rfl rfl (by kernel_rfl) <| Sq <| Rg <| Vs (Al 0 TZ27 rfl) <| Vs (As rfl) <| Nx <| Sq <| Rg <| Vs (Mv rfl) <| Vs (C0 rfl rfl (d37 (n := k) (by first | omega | assumption | (simp; done) | (simp; omega)) (by first | omega | assumption | (simp; done) | (simp; omega)))) <| Vs (Mv rfl) <| Vs (C0 rfl rfl (d37 (n := d) (by first | omega | assumption | (simp; done) | (simp; omega)) (by first | omega | assumption | (simp; done) | (simp; omega)))) <| Vs (C0 rfl rfl (g17 (x := k) (y := d) inT inT)) <| Vs (Xt rfl) <| Vs (Xt rfl) <| Vs (StS TS27 rfl) <| Vs (As rfl) <| Nx <| Re <| Fi (l := [.agg [boolB (zN (mkN (k) (d))), u32S (zL (mkN (k) (d))), boolB (zN (mkD (k) (d))), u32S (zL (mkD (k) (d)))], numB .i64 (mkE (d))]) (Rc (resVar_cell rfl rfl TA27 TS27 (Nat.le_of_ble_eq_true rfl) rfl) (Rc (resVar_tmp rfl rfl) Rn)) rfl
end Go.VL

/- Walks over the Go functions, printed by a program of this session over the kit's print, and by hand. -/
set_option linter.unusedVariables false
set_option linter.unusedSimpArgs false
set_option maxRecDepth 100000
namespace Go.VL
open Go.Proofs
theorem g3w {n : Bool} {A : List Int} {m : Bool} {D : List Int} {k d : Int} {p q e p2 q2 e2 : Int} {v : Bool} (i1 : inB p = true) (i2 : inB q = true) (i3 : inB p2 = true) (i4 : inB q2 = true) (h20 : VF Try.prog 20 [ratB n A m D] (boolB v)) (h21 : VF Try.prog 21 [ratB n A m D] (boolB v)) (h16 : VF Try.prog 16 [intB n A, intB m D] (rR p q e)) (h17 : VF Try.prog 17 [intB n A, intB m D] (rR p q e)) (h18 : VF Try.prog 18 [numB .i64 k, numB .i64 d] (rR p2 q2 e2)) (h19 : VF Try.prog 19 [numB .i64 k, numB .i64 d] (rR p2 q2 e2)) : VF Try.prog 3 [.agg [boolB (n), u32S (A)], .agg [boolB (m), u32S (D)], numB .i64 (k), numB .i64 (d)] (boolB true) := by
  refine VF_of P_mixed Try.func3 rfl rfl (by kernel_rfl) <| Sq <| Rg <| Vs (Bx 0 rfl) <| Vs (Bx 1 rfl) <| Vs (As rfl) <| Nx <| Sq <| Rg <| Vs (Cf rfl rfl (g15) rfl) <| Vs (As rfl) <| Nx <| Sq <| Rg <| Vs (LdS TA24 TS24 rfl) <| Vs (LdS TA24 TS24 rfl) <| Vs (Bd TQ27 rfl) <| Vs (Al 8 TZ27 rfl) <| Vs (StS TS27 rfl) <| Nx <| Sq <| Rg <| Vs (LdS TA24 TS24 rfl) <| Vs (LdS TA24 TS24 rfl) <| Vs (C0 rfl rfl (h16)) <| Vs (Mv rfl) <| Vs (Xt rfl) <| Vs (Xt rfl) <| Vs (Al 16 TZ27 rfl) <| Vs (StS TS27 rfl) <| Vs (As rfl) <| Nx <| Sq <| Rg <| Vs (LdS TA24 TS24 rfl) <| Vs (LdS TA24 TS24 rfl) <| Vs (C0 rfl rfl (h17)) <| Vs (Mv rfl) <| Vs (Xt rfl) <| Vs (Xt rfl) <| Vs (Al 25 TZ27 rfl) <| Vs (StS TS27 rfl) <| Vs (As rfl) <| Nx <| Sq <| Rg <| Vs (Mv rfl) <| Vs (Mv rfl) <| Vs (C0 rfl rfl (h18)) <| Vs (Mv rfl) <| Vs (Xt rfl) <| Vs (Xt rfl) <| Vs (Al 34 TZ27 rfl) <| Vs (StS TS27 rfl) <| Vs (As rfl) <| Nx <| Sq <| Rg <| Vs (Mv rfl) <| Vs (Mv rfl) <| Vs (C0 rfl rfl (h19)) <| Vs (Mv rfl) <| Vs (Xt rfl) <| Vs (Xt rfl) <| Vs (Al 43 TZ27 rfl) <| Vs (StS TS27 rfl) <| Vs (As rfl) <| Nx <| Sq <| Rd (by kernel_rfl) <| ?_
  refine Vl (Mv rfl) <| Vl (Mv rfl) <| Vl (LdS TA27 TS27 rfl) <| Vl (C0 rfl rfl (h20)) <| Vl (LdS TA27 TS27 rfl) <| Vl (C0 rfl rfl (h21)) <| Vl (Kb (show (v == v) = true from (by simp)) (Bb TU4 rfl)) <| Vl (Pk rfl) <| Vl (Mv rfl) <| Vl (Mv rfl) <| Vl (Mv rfl) <| Vl (Kb (show (e == e) = true from (decide_eq_true rfl)) (Bi rfl)) <| Vl (Pk rfl) <| Vl (Mv rfl) <| Vl (LdS TA27 TS27 rfl) <| Vl (LdS TA27 TS27 rfl) <| Vl (Cf rfl rfl (g22t (p := p) (q := q) inT inT) rfl) <| Vl (Pk rfl) <| Vl (Mv rfl) <| Vl (Mv rfl) <| Vl (Mv rfl) <| Vl (Kb (show (e2 == e2) = true from (decide_eq_true rfl)) (Bi rfl)) <| Vl (Pk rfl) <| Vl (Mv rfl) <| Vl (LdS TA27 TS27 rfl) <| Vl (LdS TA27 TS27 rfl) <| Vl (Cf rfl rfl (g22t (p := p2) (q := q2) inT inT) rfl) <| Vl (Pk rfl) <| Vl (As rfl) <| ?_
  refine VLog.nil ⟨by kernel_rfl, ?_⟩
  exact Tg <| Re <| Fi (l := [boolB (true)]) (Rc (resVar_tmp rfl rfl) Rn) rfl
theorem g3 (n : Bool) (A : List Int) (m : Bool) (D : List Int) (hA : A.length ≤ 9223372036854775807) (hD : D.length ≤ 9223372036854775807) (oA : ok32 A) (oD : ok32 D) (k : Int) (k0 : -9223372036854775808 ≤ k) (k1 : k ≤ 9223372036854775807) (d : Int) (d0 : -9223372036854775808 ≤ d) (d1 : d ≤ 9223372036854775807) : VF Try.prog 3 [intB n A, intB m D, numB .i64 k, numB .i64 d] (boolB true) := by
  have h20 := g20 n A m D hA hD oA oD
  have h21 := g21 n A m D hA hD oA oD
  have h18 := g18 k0 k1 d0 d1
  have h19 := g19 k0 k1 d0 d1
  have j1 : inB (mkN k d) = true := mkN_in (in_i64 k0 k1)
  have j2 : inB (mkD k d) = true := mkD_in (in_i64 d0 d1)
  cases h : (validB n A && validB m D) with
  | false => exact g3w in_zero in_zero j1 j2 h20 h21 (g16i n A m D hA hD h) (g17i n A m D hA hD h) h18 h19
  | true =>
    rw [Bool.and_eq_true] at h
    obtain ⟨x, e1, e2, hx⟩ := as_z oA h.1
    obtain ⟨y, e3, e4, hy⟩ := as_z oD h.2
    rw [e1, e2, e3, e4] at h20 h21 ⊢
    exact g3w (mkN_in hx) (mkD_in hy) j1 j2 h20 h21 (g16 hx hy) (g17 hx hy) h18 h19
end Go.VL

set_option linter.unusedVariables false
set_option linter.unusedSimpArgs false
set_option maxRecDepth 100000
namespace Go.Proofs.Ytnabpemjcidhdaa
open Go.ChangeShapes Go.WideShapes Go.ChangeAt Go.RowKit Go.VL

theorem rationalMatchesMake_lifted (os : Os) (started : os.Started) (H : Type) (enc : TypeId × Value → H) :
    ReturnsInHanded {} Try.checked os 3 .any (Rows.rationalMatchesMakeSpec.pre6 enc Try.prog Try.f3 Rows.rationalMatchesMakeRow.domain false) (Rows.rationalMatchesMakeSpec.post enc Try.prog Try.f3 false true false false) := by
  refine returnsInHanded_of_change (C := Try.checked) Try_own started (by kernel_rfl) Try.func3
    (ChangeSpec.witness6 (enc := enc) (C := Try.checked) false ⟨#[], #[.agg #[.bool false, .slice none 0 0], .agg #[.bool false, .slice none 0 0], .int .i64 0, .int .i64 0], []⟩ 8 (by kernel_rfl) (by kernel_rfl) (by kernel_rfl) (by kernel_rfl)) ?_
  intro W base args ds gs before hval0 hW hcnd _
  have hval : ∀ (j : Nat) t v, Try.f3.params[j]? = some t → args[j]? = some v → Value.okWide Try.prog W .any base t v := hval0
  have hW' := hW
  obtain ⟨p, q, hA0, hV, rfl, hfz, hnd⟩ := hW
  have hA : DataW.TrodAll enc Try.prog W 0 (fun _ => true) true Try.f3.params.toList args.toList ds p := hA0
  have hA1 := hA
  rw [Try.params3] at hA hval
  obtain ⟨v0, v1, v2, v3, d0, d1, d2, d3, p0, p1, p2, p3, rfl, rfl, rfl, h0, h1, h2, h3⟩ := trodAll_four hA
  obtain ⟨rfl, rfl⟩ := trodVars_none hV
  obtain ⟨n0, A0, r0, o0, l0⟩ := open_api (hval 0 24 v0 rfl rfl) h0
  obtain ⟨n1, A1, r1, o1, l1⟩ := open_api (hval 1 24 v1 rfl rfl) h1
  obtain ⟨k2, r2, a2, b2⟩ := open_i64 (hval 2 3 v2 rfl rfl) h2
  obtain ⟨k3, r3, a3, b3⟩ := open_i64 (hval 3 3 v3 rfl rfl) h3
  simp only [List.append_nil] at hW'
  have hlt : ∀ x ∈ p0 ++ p1 ++ p2 ++ p3, x.block < W.heap.size := fun x hx => hW'.lt x hx
  have hread : ∀ t ∈ Try.f3.params.toList, Try.prog.readableRec t = true ∧ t < Try.prog.types.size := by rw [Try.params3]; exact types_cons T24 (types_cons T24 (types_cons T3 (types_cons T3 (types_nil))))
  refine ((g3 n0 A0 n1 A1 l0 l1 o0 o1 k2 a2 b2 k3 a3 b3).runs (xs := [v0, v1, v2, v3]) rfl (reps_cons r0 (reps_cons r1 (reps_cons r2 (reps_cons r3 reps_nil))))).mono fun e W' ⟨he, hb⟩ => ?_
  subst he
  exact ⟨_, rfl, post_of_below (pa := _) (pv := []) hW' (fun _ _ _ => trodAll_mk1 shut_true) (fun sp hsp => args_stay Try_laidOut hb hread hA1 hlt hsp) (fun _ _ => rfl) (by simp) hb (ok_one (by kernel_rfl) rfl ok_true)⟩

theorem rationalMatchesMake_facts : joinedFacts Try.pinned.checked.prog 3 Try.f3 Rows.rationalMatchesMakeSpec Rows.rationalMatchesMakeRow = true := by
  unfold joinedFacts
  rw [head_may, head_lifts, head_make]
  kernel_rfl

theorem rationalMatchesMake_holds : Rows.RationalMatchesMakeSaid :=
  OpenClaim.holds_of_wide 3 Try.f3 rfl rfl rfl rfl rfl rfl rfl ⟨rfl, rfl, rfl, rfl, rfl⟩ rfl rfl rfl rfl rfl (by kernel_rfl) Try.func3 rationalMatchesMake_facts
    (of_decide_eq_true (by kernel_rfl)) (by unfold Func.isWrapper; rw [if_neg (of_decide_eq_false (by kernel_rfl))]; exact ⟨rfl, rfl⟩)
    (fun os started H enc _ => rationalMatchesMake_lifted os started H enc)

end Go.Proofs.Ytnabpemjcidhdaa
