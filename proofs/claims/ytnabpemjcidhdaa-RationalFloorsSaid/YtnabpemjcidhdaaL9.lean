/- RationalFloors returns true for every input and leaves the input as it was. No condition. -/
import Derived.Test.YtnabpemjcidhdaaK4
/- Plain laws of rationals: integer parts of numbers times powers of two. No program. -/
set_option linter.unusedVariables false
set_option linter.unusedSimpArgs false
set_option exponentiation.threshold 5000
namespace Go.VL
section
variable {a b c d p q k n : Int} {x y : Rat}
theorem divInt_le (hb : 0 < b) (hd : 0 < d) : Rat.divInt a b ≤ Rat.divInt c d ↔ a * d ≤ c * b := by
  have h1 : Rat.divInt a b ≤ Rat.divInt c d ↔ 0 ≤ Rat.divInt c d - Rat.divInt a b := by grind
  rw [h1, Rat.divInt_sub_divInt _ _ (by omega) (by omega), Rat.divInt_nonneg_iff_of_pos_right (Int.mul_pos hd hb)]
  omega
theorem divInt_lt (hb : 0 < b) (hd : 0 < d) : Rat.divInt a b < Rat.divInt c d ↔ a * d < c * b := by
  have h1 : Rat.divInt a b < Rat.divInt c d ↔ ¬ Rat.divInt c d ≤ Rat.divInt a b := by grind
  rw [h1, divInt_le hd hb]; omega
/-- The powers that scale. -/
def upZ (k : Int) : Int := shZ 1 (if 0 > k then 0 else k)
def dnZ (k : Int) : Int := shZ 1 (if 0 > -k then 0 else -k)
theorem upZ_eq (k : Int) : upZ k = 2 ^ k.toNat := by
  unfold upZ
  split
  · rw [shZ_up (by omega), show k.toNat = (0 : Int).toNat by omega]; simp
  · rw [shZ_up (by omega)]; simp
theorem dnZ_eq (k : Int) : dnZ k = 2 ^ (-k).toNat := by
  unfold dnZ
  split
  · rw [shZ_up (by omega), show (-k).toNat = (0 : Int).toNat by omega]; simp
  · rw [shZ_up (by omega)]; simp
theorem pow_bdZ (j : Nat) : bdZ (j + 1) ((2 : Int) ^ j) := by
  unfold bdZ
  rw [Int.natAbs_pow, show (2 : Int).natAbs = 2 from rfl]
  exact Nat.pow_lt_pow_right (by decide) (by omega)
theorem upZ_bd (h : k ≤ 200) : bdZ 201 (upZ k) := by rw [upZ_eq]; exact bdZ_mono (pow_bdZ _) (by omega)
theorem dnZ_bd (h : -200 ≤ k) : bdZ 201 (dnZ k) := by rw [dnZ_eq]; exact bdZ_mono (pow_bdZ _) (by omega)
theorem upZ_pos (k : Int) : 0 < upZ k := by rw [upZ_eq]; exact Int.pow_pos (by decide)
theorem dnZ_pos (k : Int) : 0 < dnZ k := by rw [dnZ_eq]; exact Int.pow_pos (by decide)
theorem fdiv_rng (hq : 0 < q) : n.fdiv q * q ≤ n ∧ n < (n.fdiv q + 1) * q := by
  have h1 := fm_eq n q
  obtain ⟨h2, h3⟩ := fm_range (n := n) hq
  rw [Int.add_mul, Int.one_mul, Int.mul_comm (n.fdiv q)]
  omega
/-- What Floor yields is the integer part. -/
theorem fl_rng (hq : 0 < q) (hk : inB (shZ p k) = true) : flZ p q k * (q * dnZ k) ≤ p * upZ k ∧ p * upZ k < (flZ p q k + 1) * (q * dnZ k) := by
  rw [upZ_eq, dnZ_eq]
  unfold flZ
  by_cases h0 : k ≤ 0
  · rw [if_pos h0, show k.toNat = 0 by omega, Int.pow_zero, Int.mul_one]
    have hD : (0 : Int) < 2 ^ (-k).toNat := Int.pow_pos (by decide)
    have e : shZ (p.fdiv q) k = (p.fdiv q).fdiv (2 ^ (-k).toNat) := by
      have := shZ_down (z := p.fdiv q) (k := -k) (by omega)
      rwa [Int.neg_neg] at this
    rw [e]
    generalize (2 : Int) ^ (-k).toNat = D at *
    obtain ⟨a1, a2⟩ := fdiv_rng (n := p) hq
    obtain ⟨b1, b2⟩ := fdiv_rng (n := p.fdiv q) hD
    generalize p.fdiv q = m at *
    generalize m.fdiv D = F at *
    have c1 : F * D * q ≤ m * q := Int.mul_le_mul_of_nonneg_right b1 (by omega)
    have c2 : (m + 1) * q ≤ (F + 1) * D * q := Int.mul_le_mul_of_nonneg_right (by omega) (by omega)
    rw [Int.mul_comm q D, ← Int.mul_assoc, ← Int.mul_assoc]
    omega
  · rw [if_neg h0, if_pos hk, shZ_up (by omega), show (-k).toNat = 0 by omega, Int.pow_zero, Int.mul_one]
    exact fdiv_rng hq
theorem shZ_bd {j : Nat} (h : bdZ j p) (h1 : k ≤ 200) : bdZ (j + 201) (shZ p k) := by
  unfold shZ
  split
  · exact bdZ_mono (bdZ_mul h (pow_bdZ k.toNat)) (by omega)
  · have hD : (0 : Int) ≤ 2 ^ (-k).toNat := Int.le_of_lt (Int.pow_pos (by decide))
    rw [Int.fdiv_eq_ediv_of_nonneg _ hD]
    refine bdZ_mono (k := j + 201) ?_ (Nat.le_refl _)
    refine bdZ_mono (j := j) ?_ (by omega)
    unfold bdZ at *
    exact Nat.lt_of_le_of_lt (Int.natAbs_ediv_le_natAbs _ _) h
theorem fdiv_bd {j : Nat} (h : bdZ j p) (hq : 0 < q) : bdZ j (p.fdiv q) := by
  rw [Int.fdiv_eq_ediv_of_nonneg _ (Int.le_of_lt hq)]
  unfold bdZ at *
  exact Nat.lt_of_le_of_lt (Int.natAbs_ediv_le_natAbs _ _) h
theorem fl_bd {j : Nat} (h : bdZ j p) (hq : 0 < q) (h1 : k ≤ 200) : bdZ (j + 201) (flZ p q k) := by
  unfold flZ
  split
  · exact shZ_bd (fdiv_bd h hq) h1
  · split
    · exact fdiv_bd (shZ_bd h h1) hq
    · exact shZ_bd h h1
def scR (k : Int) : Rat := Rat.divInt (upZ k) (dnZ k)
theorem scR_bd (h0 : -200 ≤ k) (h1 : k ≤ 200) : bdR 201 (scR k) := bd_of (upZ_bd h1) (dnZ_bd h0) (Int.ne_of_gt (dnZ_pos k))
theorem int_bd {j : Nat} (h : bdZ (j + 1) n) : bdR (j + 1) (Rat.divInt n 1) := by
  refine bd_of h ?_ (by decide)
  unfold bdZ
  exact Nat.one_lt_two_pow (by omega)
theorem mul_sc (x : Rat) (k : Int) : x * scR k = Rat.divInt (nu x * upZ k) (de x * dnZ k) := by
  rw [scR, ← Rat.divInt_mul_divInt, rat_nd]
theorem fl_lo (hk : inB (shZ (nu x) k) = true) : cmpR (Rat.divInt (flZ (nu x) (de x) k) 1) (x * scR k) ≤ 0 := by
  have h := (fl_rng (p := nu x) (q := de x) (de_pos x) hk).1
  have h1 : Rat.divInt (flZ (nu x) (de x) k) 1 ≤ x * scR k := by
    rw [mul_sc, divInt_le (by decide) (Int.mul_pos (de_pos x) (dnZ_pos k))]; omega
  have := mt cmpR_gt.1 (show ¬ x * scR k < Rat.divInt (flZ (nu x) (de x) k) 1 by grind)
  omega
theorem fl_hi (hk : inB (shZ (nu x) k) = true) : cmpR (x * scR k) (Rat.divInt (flZ (nu x) (de x) k + 1) 1) < 0 := by
  have h := (fl_rng (p := nu x) (q := de x) (de_pos x) hk).2
  rw [cmpR_lt, mul_sc, divInt_lt (Int.mul_pos (de_pos x) (dnZ_pos k)) (by decide)]; omega
theorem one_bd (j : Nat) : bdZ (j + 1) (1 : Int) := by unfold bdZ; exact Nat.one_lt_two_pow (by omega)
end
end Go.VL

/- Walks over the Go functions, printed by a program of this session over the kit's print, and by hand. -/
set_option linter.unusedVariables false
set_option linter.unusedSimpArgs false
set_option maxRecDepth 100000
namespace Go.VL
open Go.Proofs
section
variable {x : Rat} {j : Nat} {k n d : Int}
theorem x32 (hx : bdR j x) (k0 : -200 ≤ k) (k1 : k ≤ 200) (h : j + 201 ≤ 4096 := by decide) : VF Try.prog 32 [qR x, numB .i64 k] (.tup [iB (flZ (nu x) (de x) k), numB .i64 0]) := by
  have e := g32 (k := k) (okR_x hx (by omega)) (by omega) (by omega)
  rw [zR_in (bdZ_in (fl_bd hx.1 (de_pos x) k1) h)] at e
  exact e
theorem x41 (z : Int) (k0 : -9223372036854775808 ≤ k) (k1 : k ≤ 9223372036854775807) (hz : shZ 1 k = z) (hi : inB z = true) : VF Try.prog 41 [iB 1, numB .i64 k] (.tup [iB z, numB .i64 0]) := by
  have e := c27 (x := 1) (y := k) in_one k0 k1
  rw [hz, zR_in hi] at e
  exact e
theorem x16 (hn : inB n = true) (hd : inB d = true) (h0 : d ≠ 0) : VF Try.prog 16 [iB n, iB d] (.tup [qR (Rat.divInt n d), numB .i64 0]) := by
  have e := g16 hn hd
  rw [mkN, mkD, mkE, if_neg h0, if_neg h0, if_neg h0, rd_num h0, rd_den h0] at e
  exact e
theorem x43 (hn : inB n = true) (hd : inB (n + 1) = true) : VF Try.prog 43 [iB n, iB 1] (.tup [iB (n + 1), numB .i64 0]) := by
  have e := c38 (x := n) (y := 1) hn in_one
  rw [zR_in hd] at e
  exact e
end
theorem g9i (n : Bool) (A : List Int) (m : Bool) (D : List Int) (k : Int) (k0 : -9223372036854775808 ≤ k) (k1 : k ≤ 9223372036854775807) (hv : VF Try.prog 29 [ratB n A m D, ratB n A m D, ratB n A m D, numB .i64 16] (boolB false)) : VF Try.prog 9 [.agg [boolB (n), u32S (A), boolB (m), u32S (D)], numB .i64 (k)] (boolB true) := by
  exact VF_of P_mixed Try.func9 rfl rfl (by kernel_rfl) <| Sq <| Rg <| Vs (Bx 0 rfl) <| Vs (As rfl) <| Nx <| Sq <| Rg <| Vs (Cf rfl rfl (g15) rfl) <| Vs (As rfl) <| Nx <| Sq <| Sq <| Rg <| Vs (LdS TA27 TS27 rfl) <| Vs (LdS TA27 TS27 rfl) <| Vs (LdS TA27 TS27 rfl) <| Vs (Cf rfl rfl (hv) rfl) <| Vs (Un rfl) <| Vs (Mv rfl) <| Sk rfl <| Sk rfl <| Vs (Pk rfl) <| Vs (Mv rfl) <| Sk rfl <| Sk rfl <| Vs (Pk rfl) <| Nx <| Cy rfl <| Sq <| Rg <| Vs (Mv rfl) <| Vs (As rfl) <| Nx <| Re <| Tr <| Fi (l := [boolB (true)]) (Rc (resVar_tmp rfl rfl) Rn) rfl
theorem g9v {a : Rat} (ba : bdR 512 a) (k : Int) (k0 : -9223372036854775808 ≤ k) (k1 : k ≤ 9223372036854775807) (hv : VF Try.prog 29 [qR a, qR a, qR a, numB .i64 16] (boolB true)) : VF Try.prog 9 [.agg [boolB (zN (nu (a))), u32S (zL (nu (a))), boolB (zN (de (a))), u32S (zL (de (a)))], numB .i64 (k)] (boolB true) := by
  refine VF_of P_mixed Try.func9 rfl rfl (by kernel_rfl) <| Sq <| Rg <| Vs (Bx 0 rfl) <| Vs (As rfl) <| Nx <| Sq <| Rg <| Vs (Cf rfl rfl (g15) rfl) <| Vs (As rfl) <| Nx <| Sq <| Sq <| Rg <| Vs (LdS TA27 TS27 rfl) <| Vs (LdS TA27 TS27 rfl) <| Vs (LdS TA27 TS27 rfl) <| Vs (Cf rfl rfl (hv) rfl) <| Vs (Un rfl) <| Vs (Mv rfl) <| Vs (Mv rfl) <| Vs (Bi rfl) <| Vs (Pk rfl) <| Vs (Mv rfl) <| Sp 36 rfl (fun hc1 => ?_) (fun hc1 => ?_)
  · replace hc1 := of_decide_eq_true hc1
    exact Sk rfl <| Sk rfl <| Vs (Pk rfl) <| Nx <| Cy rfl <| Sq <| Rg <| Vs (Mv rfl) <| Vs (As rfl) <| Nx <| Re <| Tr <| Fi (l := [boolB (true)]) (Rc (resVar_tmp rfl rfl) Rn) rfl
  · replace hc1 := of_decide_eq_false hc1
    refine Vs (Mv rfl) <| Vs (Bi rfl) <| Vs (Pk rfl) <| Nx <| Cd rfl (fun hc2 => ?_) (fun hc2 => ?_)
    · replace hc2 := of_decide_eq_true hc2
      exact Sq <| Rg <| Vs (Mv rfl) <| Vs (As rfl) <| Nx <| Re <| Tr <| Fi (l := [boolB (true)]) (Rc (resVar_tmp rfl rfl) Rn) rfl
    · replace hc2 := of_decide_eq_false hc2
      refine Ks <| Tg <| Sq <| ?_
      have hu := bdZ_in (upZ_bd (k := k) (by omega))
      have hd := bdZ_in (dnZ_bd (k := k) (by omega))
      have bs := scR_bd (k := k) (by omega) (by omega)
      have bF := fl_bd (k := k) ba.1 (de_pos a) (by omega)
      have b1 := one_bd 712
      have bF1 := bdZ_add bF b1
      have hF := bdZ_in bF
      have hF1 := bdZ_in bF1
      have hs := bdZ_in (shZ_bd (k := k) ba.1 (by omega))
      refine Rg <| Vs (LdS TA27 TS27 rfl) <| Vs (Mv rfl) <| Vs (C0 rfl rfl (x32 ba (by omega) (by omega))) <| Vs (Mv rfl) <| Vs (Xt rfl) <| Vs (Xt rfl) <| Vs (Al 23 TZ24 rfl) <| Vs (StS TS24 rfl) <| Vs (As rfl) <| Nx <| Sq <| Rg <| Vs (C0 rfl rfl (c28 (n := 1) (by first | omega | assumption | (simp; done) | (simp; omega)) (by first | omega | assumption | (simp; done) | (simp; omega)))) <| Vs (Mv rfl) <| Vs (Mx rfl) <| Vs (C0 rfl rfl (x41 (upZ k) (by split <;> omega) (by split <;> omega) rfl hu)) <| Vs (Mv rfl) <| Vs (Xt rfl) <| Vs (Xt rfl) <| Vs (Al 33 TZ24 rfl) <| Vs (StS TS24 rfl) <| Vs (As rfl) <| Nx <| Sq <| Rg <| Vs (C0 rfl rfl (c28 (n := 1) (by first | omega | assumption | (simp; done) | (simp; omega)) (by first | omega | assumption | (simp; done) | (simp; omega)))) <| Vs (Mv rfl) <| Vs (Uo rfl (nvI (h := (by omega)))) <| Vs (Mx rfl) <| Vs (C0 rfl rfl (x41 (dnZ k) (by split <;> omega) (by split <;> omega) rfl hd)) <| Vs (Mv rfl) <| Vs (Xt rfl) <| Vs (Xt rfl) <| Vs (Al 44 TZ24 rfl) <| Vs (StS TS24 rfl) <| Vs (As rfl) <| Nx <| Sq <| Rg <| Vs (LdS TA24 TS24 rfl) <| Vs (LdS TA24 TS24 rfl) <| Vs (C0 rfl rfl (x16 hu hd (Int.ne_of_gt (dnZ_pos k)))) <| Vs (Mv rfl) <| Vs (Xt rfl) <| Vs (Xt rfl) <| Vs (Al 53 TZ27 rfl) <| Vs (StS TS27 rfl) <| Vs (As rfl) <| Nx <| Sq <| Rg <| Vs (LdS TA27 TS27 rfl) <| Vs (LdS TA27 TS27 rfl) <| Vs (C0 rfl rfl (x40 ba bs)) <| Vs (Mv rfl) <| Vs (Xt rfl) <| Vs (Xt rfl) <| Vs (Al 62 TZ27 rfl) <| Vs (StS TS27 rfl) <| Vs (As rfl) <| Nx <| Sq <| Rd (by kernel_rfl) <| Vl (LdS TA24 TS24 rfl) <| Vl (C0 rfl rfl (c28 (n := 1) (by first | omega | assumption | (simp; done) | (simp; omega)) (by first | omega | assumption | (simp; done) | (simp; omega)))) <| Vl (C0 rfl rfl (x43 hF hF1)) <| Vl (Mv rfl) <| Vl (Xt rfl) <| Vl (Xt rfl) <| ?_
      refine Vl (Al 71 TZ24 rfl) <| Vl (StS TS24 rfl) <| Vl (As rfl) <| ?_
      refine VLog.nil ⟨by kernel_rfl, ?_⟩
      refine Tg <| Sq <| Rd (by kernel_rfl) <| Vl (LdS TA24 TS24 rfl) <| Vl (C0 rfl rfl (c28 (n := 1) (by first | omega | assumption | (simp; done) | (simp; omega)) (by first | omega | assumption | (simp; done) | (simp; omega)))) <| Vl (C0 rfl rfl (x16 hF in_one (by decide))) <| Vl (Mv rfl) <| Vl (Xt rfl) <| Vl (Xt rfl) <| Vl (Al 80 TZ27 rfl) <| Vl (StS TS27 rfl) <| Vl (As rfl) <| ?_
      refine VLog.nil ⟨by kernel_rfl, ?_⟩
      refine Tg <| Sq <| Rd (by kernel_rfl) <| Vl (LdS TA24 TS24 rfl) <| Vl (C0 rfl rfl (c28 (n := 1) (by first | omega | assumption | (simp; done) | (simp; omega)) (by first | omega | assumption | (simp; done) | (simp; omega)))) <| Vl (C0 rfl rfl (x16 hF1 in_one (by decide))) <| Vl (Mv rfl) <| Vl (Xt rfl) <| Vl (Xt rfl) <| Vl (Al 89 TZ27 rfl) <| Vl (StS TS27 rfl) <| Vl (As rfl) <| ?_
      refine VLog.nil ⟨by kernel_rfl, ?_⟩
      exact Tg <| Sq <| Sq <| Rg <| Vs (Mv rfl) <| Vs (Bi (c := .bool false) rfl) <| Vs (Mv rfl) <| Vs (Mv rfl) <| Vs (Bi (c := .bool false) rfl) <| Vs (Pk rfl) <| Vs (Mv rfl) <| Vs (Mv rfl) <| Vs (Bi (c := .bool false) rfl) <| Vs (Pk rfl) <| Vs (Mv rfl) <| Vs (Mv rfl) <| Vs (Bi (c := .bool false) rfl) <| Vs (Pk rfl) <| Vs (Mv rfl) <| Vs (Mv rfl) <| Vs (Bi (c := .bool false) rfl) <| Vs (Pk rfl) <| Vs (Mv rfl) <| Vs (Mv rfl) <| Vs (Bi (c := .bool false) rfl) <| Vs (Pk rfl) <| Vs (Mv rfl) <| Vs (Mv rfl) <| Vs (Bi (c := .bool false) rfl) <| Vs (Pk rfl) <| Vs (Mv rfl) <| Vs (Mv rfl) <| Vs (Bi (c := .bool false) rfl) <| Vs (Pk rfl) <| Nx <| Cz rfl <| Ks <| Tg <| Sq <| Rg <| Vs (LdS TA27 TS27 rfl) <| Vs (LdS TA27 TS27 rfl) <| Vs (Cf rfl rfl (x30 (int_bd (j := 713) (bdZ_mono bF (by decide))) (bdR_mul ba bs)) rfl) <| Vs (Mv rfl) <| Vs (Xt rfl) <| Vs (Xt rfl) <| Vs (As rfl) <| Vs (As rfl) <| Nx <| Sq <| Rg <| Vs (LdS TA27 TS27 rfl) <| Vs (LdS TA27 TS27 rfl) <| Vs (Cf rfl rfl (x30 (bdR_mul ba bs) (int_bd bF1)) rfl) <| Vs (Mv rfl) <| Vs (Xt rfl) <| Vs (Xt rfl) <| Vs (As rfl) <| Vs (As rfl) <| Nx <| Sq <| Rg <| Vs (Mv rfl) <| Vs (Mv rfl) <| Vs (Mv rfl) <| Vs (Bi (c := .bool true) rfl) <| Vs (Pk rfl) <| Vs (Mv rfl) <| Vs (Mv rfl) <| Vs (Bi (c := .bool true) rfl) <| Vs (Pk rfl) <| Vs (Mv rfl) <| Vs (Mv rfl) <| Vs (Kb (show decide (cmpR (Rat.divInt (flZ (nu a) (de a) k) 1) ((a * scR k)) ≤ 0) = true from (decide_eq_true (fl_lo hs))) (Bi rfl)) <| Vs (Pk rfl) <| Vs (Mv rfl) <| Vs (Mv rfl) <| Vs (Kb (show decide (cmpR ((a * scR k)) (Rat.divInt (flZ (nu a) (de a) k + 1) 1) < 0) = true from (decide_eq_true (fl_hi hs))) (Bi rfl)) <| Vs (Pk rfl) <| Vs (As rfl) <| Nx <| Re <| Fi (l := [boolB (true)]) (Rc (resVar_tmp rfl rfl) Rn) rfl
theorem g9 (n : Bool) (A : List Int) (m : Bool) (D : List Int) (hA : A.length ≤ 9223372036854775807) (hD : D.length ≤ 9223372036854775807) (oA : ok32 A) (oD : ok32 D) (k : Int) (k0 : -9223372036854775808 ≤ k) (k1 : k ≤ 9223372036854775807) : VF Try.prog 9 [ratB n A m D, numB .i64 (k)] (boolB true) := by
  have h := g29 n A m D n A m D n A m D hA hD hA hD hA hD oA oD oA oD oA oD 16
  cases e : v3 n A m D n A m D n A m D 16 with
  | false => rw [e] at h; exact g9i n A m D k k0 k1 h
  | true =>
    rw [e] at h
    obtain ⟨c0, c1, c2⟩ := v3_get e
    obtain ⟨a, ⟨e01, e02, e03, e04⟩, ba⟩ := v_rat 16 oA oD c0.1 c0.2
    rw [e01, e02, e03, e04] at h ⊢
    exact g9v ba k k0 k1 h
end Go.VL

set_option linter.unusedVariables false
set_option linter.unusedSimpArgs false
set_option maxRecDepth 100000
namespace Go.Proofs.Ytnabpemjcidhdaa
open Go.ChangeShapes Go.WideShapes Go.ChangeAt Go.RowKit Go.VL

theorem rationalFloors_lifted (os : Os) (started : os.Started) (H : Type) (enc : TypeId × Value → H) :
    ReturnsInHanded {} Try.checked os 9 .any (Rows.rationalFloorsSpec.pre6 enc Try.prog Try.f9 Rows.rationalFloorsRow.domain false) (Rows.rationalFloorsSpec.post enc Try.prog Try.f9 false true false false) := by
  refine returnsInHanded_of_change (C := Try.checked) Try_own started (by kernel_rfl) Try.func9
    (ChangeSpec.witness6 (enc := enc) (C := Try.checked) false ⟨#[], #[.agg #[.bool false, .slice none 0 0, .bool false, .slice none 0 0], .int .i64 0], []⟩ 8 (by kernel_rfl) (by kernel_rfl) (by kernel_rfl) (by kernel_rfl)) ?_
  intro W base args ds gs before hval0 hW hcnd _
  have hval : ∀ (j : Nat) t v, Try.f9.params[j]? = some t → args[j]? = some v → Value.okWide Try.prog W .any base t v := hval0
  have hW' := hW
  obtain ⟨p, q, hA0, hV, rfl, hfz, hnd⟩ := hW
  have hA : DataW.TrodAll enc Try.prog W 0 (fun _ => true) true Try.f9.params.toList args.toList ds p := hA0
  have hA1 := hA
  rw [Try.params9] at hA hval
  obtain ⟨v0, v1, d0, d1, p0, p1, rfl, rfl, rfl, h0, h1⟩ := trodAll_two hA
  obtain ⟨rfl, rfl⟩ := trodVars_none hV
  obtain ⟨n0, A0, m0, D0, r0, ⟨o0, s0⟩, l0, k0⟩ := open_rat (hval 0 27 v0 rfl rfl) h0
  obtain ⟨k1, r1, a1, b1⟩ := open_i64 (hval 1 3 v1 rfl rfl) h1
  simp only [List.append_nil] at hW'
  have hlt : ∀ x ∈ p0 ++ p1, x.block < W.heap.size := fun x hx => hW'.lt x hx
  have hread : ∀ t ∈ Try.f9.params.toList, Try.prog.readableRec t = true ∧ t < Try.prog.types.size := by rw [Try.params9]; exact types_cons T27 (types_cons T3 (types_nil))
  refine ((g9 n0 A0 m0 D0 l0 k0 o0 s0 k1 a1 b1).runs (xs := [v0, v1]) rfl (reps_cons r0 (reps_cons r1 reps_nil))).mono fun e W' ⟨he, hb⟩ => ?_
  subst he
  exact ⟨_, rfl, post_of_below (pa := _) (pv := []) hW' (fun _ _ _ => trodAll_mk1 shut_true) (fun sp hsp => args_stay Try_laidOut hb hread hA1 hlt hsp) (fun _ _ => rfl) (by simp) hb (ok_one (by kernel_rfl) rfl ok_true)⟩

theorem rationalFloors_facts : joinedFacts Try.pinned.checked.prog 9 Try.f9 Rows.rationalFloorsSpec Rows.rationalFloorsRow = true := by
  unfold joinedFacts
  rw [head_may, head_lifts, head_make]
  kernel_rfl

theorem rationalFloors_holds : Rows.RationalFloorsSaid :=
  OpenClaim.holds_of_wide 9 Try.f9 rfl rfl rfl rfl rfl rfl rfl ⟨rfl, rfl, rfl, rfl, rfl⟩ rfl rfl rfl rfl rfl (by kernel_rfl) Try.func9 rationalFloors_facts
    (of_decide_eq_true (by kernel_rfl)) (by unfold Func.isWrapper; rw [if_neg (of_decide_eq_false (by kernel_rfl))]; exact ⟨rfl, rfl⟩)
    (fun os started H enc _ => rationalFloors_lifted os started H enc)

end Go.Proofs.Ytnabpemjcidhdaa
