/- IntegerEuclid returns true for every input and leaves the input as it was. No condition. -/
import Derived.Test.YtipajnobkladeaaK3
/- Plain laws that the statements about rings and orders of integers need. No program here. -/
set_option linter.unusedVariables false
set_option linter.unusedSimpArgs false
namespace Go.VL

theorem same_gg {ok ok' : Bool} {z z' : Int} (h : ok = true) (h' : ok' = true) (e : z = z') : sameB (gN ok z) (gL ok z) (gN ok' z') (gL ok' z') = true := by
  subst e; rw [h, h']; exact sameB_refl _ _
theorem gz {ok : Bool} {z : Int} (h : gE ok z = 0) : zOf (gN ok z) (gL ok z) = z := zOf_gg (gE_zero.1 h).1 (gE_zero.1 h).2
theorem go {ok : Bool} {z : Int} (h : gE ok z = 0) : ok = true := (gE_zero.1 h).1
theorem ring_add {o1 o2 o3 o4 : Bool} {a b c : Int} (e : gE o1 (a + b) = 0) (f : gE o2 (zOf (gN o1 (a + b)) (gL o1 (a + b)) + c) = 0) (g : gE o3 (b + c) = 0) (h : gE o4 (a + zOf (gN o3 (b + c)) (gL o3 (b + c))) = 0) :
    sameB (gN o2 (zOf (gN o1 (a + b)) (gL o1 (a + b)) + c)) (gL o2 (zOf (gN o1 (a + b)) (gL o1 (a + b)) + c)) (gN o4 (a + zOf (gN o3 (b + c)) (gL o3 (b + c)))) (gL o4 (a + zOf (gN o3 (b + c)) (gL o3 (b + c)))) = true :=
  same_gg (go f) (go h) (by rw [gz e, gz g]; omega)
theorem ring_mul {o1 o2 o3 o4 : Bool} {a b c : Int} (e : gE o1 (a * b) = 0) (f : gE o2 (zOf (gN o1 (a * b)) (gL o1 (a * b)) * c) = 0) (g : gE o3 (b * c) = 0) (h : gE o4 (a * zOf (gN o3 (b * c)) (gL o3 (b * c))) = 0) :
    sameB (gN o2 (zOf (gN o1 (a * b)) (gL o1 (a * b)) * c)) (gL o2 (zOf (gN o1 (a * b)) (gL o1 (a * b)) * c)) (gN o4 (a * zOf (gN o3 (b * c)) (gL o3 (b * c)))) (gL o4 (a * zOf (gN o3 (b * c)) (gL o3 (b * c)))) = true :=
  same_gg (go f) (go h) (by rw [gz e, gz g, Int.mul_assoc])
theorem ring_dist {o1 o2 o3 o4 o5 : Bool} {a b c : Int} (e : gE o1 (a * b) = 0) (f : gE o2 (a * c) = 0) (g : gE o3 (b + c) = 0) (h : gE o4 (a * zOf (gN o3 (b + c)) (gL o3 (b + c))) = 0)
    (i : gE o5 (zOf (gN o1 (a * b)) (gL o1 (a * b)) + zOf (gN o2 (a * c)) (gL o2 (a * c))) = 0) :
    sameB (gN o4 (a * zOf (gN o3 (b + c)) (gL o3 (b + c)))) (gL o4 (a * zOf (gN o3 (b + c)) (gL o3 (b + c)))) (gN o5 (zOf (gN o1 (a * b)) (gL o1 (a * b)) + zOf (gN o2 (a * c)) (gL o2 (a * c)))) (gL o5 (zOf (gN o1 (a * b)) (gL o1 (a * b)) + zOf (gN o2 (a * c)) (gL o2 (a * c)))) = true :=
  same_gg (go h) (go i) (by rw [gz e, gz f, gz g, Int.mul_add])
theorem ring_dist' {o1 o2 o3 o4 o5 : Bool} {a b c : Int} (e : gE o1 (a * b) = 0) (f : gE o2 (a * c) = 0) (g : gE o3 (b - c) = 0) (h : gE o4 (a * zOf (gN o3 (b - c)) (gL o3 (b - c))) = 0)
    (i : gE o5 (zOf (gN o1 (a * b)) (gL o1 (a * b)) - zOf (gN o2 (a * c)) (gL o2 (a * c))) = 0) :
    sameB (gN o4 (a * zOf (gN o3 (b - c)) (gL o3 (b - c)))) (gL o4 (a * zOf (gN o3 (b - c)) (gL o3 (b - c)))) (gN o5 (zOf (gN o1 (a * b)) (gL o1 (a * b)) - zOf (gN o2 (a * c)) (gL o2 (a * c)))) (gL o5 (zOf (gN o1 (a * b)) (gL o1 (a * b)) - zOf (gN o2 (a * c)) (gL o2 (a * c)))) = true :=
  same_gg (go h) (go i) (by rw [gz e, gz f, gz g, Int.mul_sub])
theorem comm_E {u v : Bool} {x y : Int} (h : x = y) : gE (u && v) x = gE (v && u) y := by rw [Bool.and_comm, h]
theorem comm_same {u v : Bool} {x y : Int} (h : x = y) : sameB (gN (u && v) x) (gL (u && v) x) (gN (v && u) y) (gL (v && u) y) = true := by rw [Bool.and_comm, h]; exact sameB_refl _ _
theorem cmp3_anti (a b : Int) : cmp3 a b = -cmp3 b a := by
  unfold cmp3
  rcases Int.lt_trichotomy a b with h | h | h
  · rw [if_pos h, if_neg (by omega), if_neg (by omega)]
  · subst h; simp
  · rw [if_neg (by omega), if_neg (by omega), if_pos h]; rfl
theorem cmp3_le {a b : Int} : cmp3 a b ≤ 0 ↔ a ≤ b := by unfold cmp3; split <;> (try split) <;> omega
theorem cmp3_gt {a b : Int} : cmp3 a b > 0 ↔ b < a := by unfold cmp3; split <;> (try split) <;> omega
theorem cmp3_le' {a b : Int} : cmp3 a b ≥ 0 ↔ b ≤ a := by unfold cmp3; split <;> (try split) <;> omega
theorem cmp_same {n m : Bool} {A B : List Int} (oA : ok32 A) (oB : ok32 B) (va : validB n A = true) (vb : validB m B = true) : (cmp3 (zOf n A) (zOf m B) == 0) = sameB n A m B := by
  rw [Bool.eq_iff_iff, beq_iff_eq, cmp3_zero, sameB_iff]
  refine ⟨fun h => ?_, fun h => by rw [h.1, h.2]⟩
  have e1 := z_of oA va
  have e2 := z_of oB vb
  rw [h] at e1
  exact ⟨e1.1.symm.trans e2.1, e1.2.symm.trans e2.2⟩
theorem cmp3_shift {a b : Int} (c : Int) : cmp3 (a + c) (b + c) = cmp3 a b := by
  unfold cmp3
  rcases Int.lt_trichotomy a b with h | h | h
  · rw [if_pos h, if_pos (by omega)]
  · subst h; simp
  · rw [if_neg (by omega), if_neg (by omega), if_neg (by omega), if_neg (by omega)]
theorem in_zero : inB 0 = true := small_in (by decide) (by decide)
theorem ord_diff {o : Bool} {a b : Int} (h : gE o (a - b) = 0) : cC (validB (gN o (a - b)) (gL o (a - b)) && validB (zN 0) (zL 0)) (zOf (gN o (a - b)) (gL o (a - b))) (zOf (zN 0) (zL 0)) = cmp3 a b := by
  rw [valid_gg, valid_zz, cC_true (ok := true && true) rfl, gz h, zOf_z in_zero]
  have := cmp3_shift (a := a - b) (b := 0) b
  rw [show a - b + b = a by omega, show 0 + b = b by omega] at this
  exact this.symm
theorem ord_add {o1 o2 : Bool} {a b c : Int} (h1 : gE o1 (a + c) = 0) (h2 : gE o2 (b + c) = 0) :
    cC (validB (gN o1 (a + c)) (gL o1 (a + c)) && validB (gN o2 (b + c)) (gL o2 (b + c))) (zOf (gN o1 (a + c)) (gL o1 (a + c))) (zOf (gN o2 (b + c)) (gL o2 (b + c))) = cmp3 a b := by
  rw [valid_gg, valid_gg, cC_true (ok := true && true) rfl, gz h1, gz h2]
  exact cmp3_shift c
theorem beq_bool {x y : Bool} (h : x = y) : (x == y) = true := by subst h; simp
theorem vv {u v : Bool} (h1 : u = true) (h2 : v = true) : (u && v) = true := by rw [h1, h2]; rfl
end Go.VL

/- Plain laws that the statements about squares and division of integers need. No program here. -/
set_option linter.unusedVariables false
set_option linter.unusedSimpArgs false
namespace Go.VL

theorem in_le {x y : Int} (h : inB y = true) (h0 : 0 ≤ x) (h1 : x ≤ y) : inB x = true := by
  unfold inB at *; rw [decide_eq_true_iff] at *; omega
theorem in_abs {x : Int} (h0 : 0 ≤ x) (h1 : x < limit) : inB x = true := by unfold inB; rw [decide_eq_true_iff]; omega
theorem in_lt {x : Int} (h : inB x = true) : x < limit := by unfold inB at h; rw [decide_eq_true_iff] at h; omega
theorem four_limit : 16 < limit := by
  unfold limit
  have h3 := pow_mono (show 1 ≤ 128 by omega)
  have h4 : (4294967296 : Int) ^ 1 = 4294967296 := rfl
  rw [h4] at h3; omega
section sq
variable {n : Bool} {A : List Int}
theorem sq_z (va : validB n A = true) (oA : ok32 A) (hn : n = false) : 0 ≤ zOf n A ∧ inB (zOf n A) = true ∧ sqOk (validB n A) (zOf n A) = true := by
  have h := val_nonneg oA
  have e : zOf n A = val A := by rw [hn]; rfl
  refine ⟨by omega, in_of_valid oA va, ?_⟩
  unfold sqOk; rw [va]; simp; omega
theorem sq_in {z : Int} (h0 : 0 ≤ z) (hz : inB z = true) : inB (isq z) = true ∧ inB (isq z * isq z) = true ∧ inB (isq z + 1) = true := by
  obtain ⟨s0, s1, s2⟩ := isq_spec h0
  have h1 := isq_le h0
  refine ⟨in_le hz s0 h1, in_le hz (Int.mul_nonneg s0 s0) s1, ?_⟩
  by_cases h : isq z ≤ 2
  · have := four_limit; exact in_abs (by omega) (by omega)
  · have h2 := Int.mul_le_mul_of_nonneg_left (show 2 ≤ isq z by omega) s0
    exact in_le hz (by omega) (by omega)
theorem sq_x (va : validB n A = true) (oA : ok32 A) (hn : n = false) : zOf (gN (sqOk (validB n A) (zOf n A)) (isq (zOf n A))) (gL (sqOk (validB n A) (zOf n A)) (isq (zOf n A))) = isq (zOf n A) := by
  obtain ⟨h1, h2, h3⟩ := sq_z va oA hn
  exact zOf_gg h3 (sq_in h1 h2).1
theorem sqE_zero (va : validB n A = true) (oA : ok32 A) (hn : n = false) : sqE (validB n A) (zOf n A) = 0 := by
  obtain ⟨h1, h2, h3⟩ := sq_z va oA hn
  unfold sqE; rw [if_pos va, if_neg (by omega)]
end sq
theorem gE_in {ok : Bool} {z : Int} (h : ok = true) (hz : inB z = true) : gE ok z = 0 := gE_zero.2 ⟨h, hz⟩
theorem in_one : inB 1 = true := small_in (by decide) (by decide)
theorem isq_sq {z : Int} (h : 0 ≤ z) : isq (z * z) = z := isq_uniq h (Int.le_refl _) (by rw [Int.add_mul, Int.mul_add]; omega)
theorem gE_two {ok : Bool} {z : Int} (h : ok = true) (h2 : gE ok z ≠ 2) : gE ok z = 0 := by
  unfold gE at *; rw [if_pos h] at *; unfold zE at *; split <;> simp_all
/-- The quotient of two integers in the range is in the range. -/
theorem fdiv_in {x y : Int} (hx : inB x = true) (hy : y ≠ 0) : inB (x.fdiv y) = true := by
  obtain ⟨n, a, ha, rfl⟩ : ∃ (n : Bool) (a : Int), 0 ≤ a ∧ x = sg n a := by
    by_cases h : x < 0
    · exact ⟨true, -x, by omega, by simp [sg]⟩
    · exact ⟨false, x, by omega, by simp [sg]⟩
  obtain ⟨m, b, hb, rfl⟩ : ∃ (m : Bool) (b : Int), 0 < b ∧ y = sg m b := by
    by_cases h : y < 0
    · exact ⟨true, -y, by omega, by simp [sg]⟩
    · exact ⟨false, y, by omega, by simp [sg]⟩
  rw [inB_sg ha, decide_eq_true_iff] at hx
  have q0 := Int.ediv_nonneg ha (Int.le_of_lt hb)
  have q1 := Int.ediv_le_self b ha
  by_cases h : n = m
  · subst h
    rw [(fdiv_same ha hb).1]; exact in_abs q0 (by omega)
  · by_cases hr : a % b = 0
    · rw [(fdiv_even h ha hb hr).1]
      unfold inB; rw [decide_eq_true_iff]; omega
    · rw [(fdiv_odd h ha hb hr).1]
      have hb1 : b ≠ 1 := fun e => hr (by rw [e]; exact Int.emod_one _)
      have h2 : a / b * 2 ≤ a := by
        have h3 := Int.mul_ediv_self_le (x := a) (k := b) (by omega)
        have h4 := Int.mul_le_mul_of_nonneg_right (show 2 ≤ b by omega) q0
        rw [Int.mul_comm (a / b) 2]; omega
      have h5 : a ≠ 0 := fun e => hr (by rw [e]; exact Int.zero_emod _)
      unfold inB; rw [decide_eq_true_iff]; omega
theorem fmod_in {x y : Int} (hy : y ≠ 0) (hyb : inB y = true) : inB (x.fmod y) = true ∧ ((x.fmod y).natAbs < y.natAbs) ∧ (x.fmod y = 0 ∨ (x.fmod y < 0 ↔ y < 0)) := by
  have h : (x.fmod y).natAbs < y.natAbs ∧ (x.fmod y = 0 ∨ (x.fmod y < 0 ↔ y < 0)) := by
    obtain ⟨n, a, ha, rfl⟩ : ∃ (n : Bool) (a : Int), 0 ≤ a ∧ x = sg n a := by
      by_cases h : x < 0
      · exact ⟨true, -x, by omega, by simp [sg]⟩
      · exact ⟨false, x, by omega, by simp [sg]⟩
    obtain ⟨m, b, hb, rfl⟩ : ∃ (m : Bool) (b : Int), 0 < b ∧ y = sg m b := by
      by_cases h : y < 0
      · exact ⟨true, -y, by omega, by simp [sg]⟩
      · exact ⟨false, y, by omega, by simp [sg]⟩
    have m0 := Int.emod_nonneg a (show b ≠ 0 by omega)
    have m1 := Int.emod_lt_of_pos a hb
    by_cases h : n = m
    · subst h
      rw [(fdiv_same ha hb).2]
      cases n <;> simp [sg] <;> omega
    · by_cases hr : a % b = 0
      · rw [(fdiv_even h ha hb hr).2, hr]
        cases m <;> simp [sg] <;> omega
      · rw [(fdiv_odd h ha hb hr).2]
        cases m <;> simp [sg] <;> omega
  refine ⟨?_, h⟩
  unfold inB at *; rw [decide_eq_true_iff] at *; omega
theorem sq_c {ok v : Bool} {x q w : Int} (hx : x = q) (ho : ok = true) (hq : inB (q * q) = true) (hv : v = true) : cC (validB (gN ok (x * x)) (gL ok (x * x)) && v) (zOf (gN ok (x * x)) (gL ok (x * x))) w = cmp3 (q * q) w := by
  subst hx; rw [valid_gg, hv, cC_true (ok := true && true) rfl, zOf_gg ho hq]
theorem sq_d {ok v : Bool} {x q w : Int} (hx : x = q) (ho : ok = true) (h2 : gE ok (x * x) ≠ 2) (hv : v = true) : cC (validB (gN ok (x * x)) (gL ok (x * x)) && v) (zOf (gN ok (x * x)) (gL ok (x * x))) w = cmp3 (q * q) w := by
  have h := gE_two ho h2
  subst hx; rw [valid_gg, hv, cC_true (ok := true && true) rfl, gz h]
theorem cmp3_one {a w : Int} (h : w < a) : cmp3 a w = 1 := by unfold cmp3; rw [if_neg (by omega), if_neg (by omega)]
theorem sq_is {v : Bool} {z : Int} (h : sqOk v z = true) : sqB v z = (cmp3 (isq z * isq z) z == 0) := by
  rw [sqB, h, Bool.true_and, Bool.eq_iff_iff, beq_iff_eq, cmp3_zero, decide_eq_true_iff]
theorem sqE_pos {v : Bool} {z : Int} (h : v = true) (hz : 0 ≤ z) : sqE v z = 0 := by unfold sqE; rw [if_pos h, if_neg (by omega)]
theorem sqB_sq {v : Bool} {z' z : Int} (h : v = true) (e : z' = z * z) (hz : 0 ≤ z) : sqB v z' = true := by
  subst e
  have h1 := Int.mul_nonneg hz hz
  unfold sqB sqOk
  rw [h, isq_sq hz]; simp; exact h1
theorem sq_back {v n : Bool} {z' : Int} {A : List Int} (h : v = true) (e : z' = zOf n A * zOf n A) (hz : 0 ≤ zOf n A) (oA : ok32 A) (va : validB n A = true) : sameB (gN (sqOk v z') (isq z')) (gL (sqOk v z') (isq z')) n A = true := by
  subst e
  have h1 := Int.mul_nonneg hz hz
  have h2 : sqOk v (zOf n A * zOf n A) = true := by unfold sqOk; rw [h]; simp; exact h1
  rw [h2, isq_sq hz, (gg_yes rfl).1, (gg_yes rfl).2, (z_of oA va).1, (z_of oA va).2]
  exact sameB_refl _ _
/-- Division. -/
theorem dmE_bad {ok : Bool} {x y : Int} (h : ok = false) : dmE ok x y = 1 := by unfold dmE; rw [h]; rfl
theorem dmE_nil {ok : Bool} {x y : Int} (h : ok = true) (hy : y = 0) : dmE ok x y = 4 := by unfold dmE; rw [if_pos h, if_pos hy]
theorem dmE_yes {ok : Bool} {x y : Int} (h : ok = true) (hx : inB x = true) (hy : y ≠ 0) : dmE ok x y = 0 := by unfold dmE; rw [if_pos h, if_neg hy]; exact zE_in.2 (fdiv_in hx hy)
theorem okQ_yes {ok : Bool} {x y : Int} (h : ok = true) (hx : inB x = true) (hy : y ≠ 0) : okQ ok x y = true := by unfold okQ; rw [h, fdiv_in hx hy]; simp [hy]
theorem zOf_len {n : Bool} {A : List Int} (h : (A.length : Int) = 0) : zOf n A = 0 := by
  have : A = [] := List.length_eq_zero_iff.1 (by omega)
  subst this; cases n <;> rfl
theorem zOf_ne {n : Bool} {A : List Int} (oA : ok32 A) (v : validB n A = true) (h : (A.length : Int) ≠ 0) : zOf n A ≠ 0 := by
  obtain ⟨nA, lA, sA⟩ := valid_norm oA v
  have := norm_pos nA (fun e => h (by rw [e]; rfl))
  intro hc
  have := sg_zero.1 hc
  omega
theorem zOf_mag {n : Bool} {A : List Int} : zOf false A = val A := rfl
theorem val_abs {n : Bool} {A : List Int} (oA : ok32 A) : val A = ((zOf n A).natAbs : Int) := (sg_abs (val_nonneg oA)).symm
/-- A magnitude is a valid integer. -/
theorem valid_mag {n : Bool} {A : List Int} (v : validB n A = true) : validB false A = true := by
  by_cases h : A.length = 0
  · rw [validB_nil h]; rfl
  · unfold validB at *; rw [if_neg h] at *; exact v
theorem cE_yes {ok : Bool} (h : ok = true) : cE ok = 0 := cE_true h
theorem div_less {okr m : Bool} {r y : Int} {B : List Int} (oB : ok32 B) (vB' : validB m B = true) (ho : okr = true) (hr : inB r = true) (hy : y = zOf m B) (h : r.natAbs < y.natAbs) : cC (validB false (gL okr r) && validB false B) (zOf false (gL okr r)) (zOf false B) = -1 := by
  rw [valid_mag (n := gN okr r) (valid_gg okr r), valid_mag vB', cC_true (ok := true && true) rfl, zOf_mag (n := false), zOf_mag (n := false), val_abs (n := gN okr r) (ok32_gL _ _), val_abs (n := m) oB, zOf_gg ho hr]
  subst hy
  unfold cmp3; rw [if_pos (by omega)]
theorem div_sign {okr m : Bool} {r : Int} {B : List Int} (vB' : validB m B = true) (ho : okr = true) (hr : inB r = true) (h : r = 0 ∨ (r < 0 ↔ zOf m B < 0)) (hy : zOf m B ≠ 0)
    (hc : cC (validB (gN okr r) (gL okr r) && validB (zN 0) (zL 0)) (zOf (gN okr r) (gL okr r)) (zOf (zN 0) (zL 0)) ≠ 0) :
    cC (validB (gN okr r) (gL okr r) && validB (zN 0) (zL 0)) (zOf (gN okr r) (gL okr r)) (zOf (zN 0) (zL 0)) = cC (validB m B && validB (zN 0) (zL 0)) (zOf m B) (zOf (zN 0) (zL 0)) := by
  rw [valid_gg, valid_zz, cC_true (ok := true && true) rfl, zOf_gg ho hr, zOf_z in_zero] at *
  rw [vB', cC_true (ok := true && true) rfl]
  rw [Ne, cmp3_zero] at hc
  have h' := h.resolve_left hc
  unfold cmp3
  by_cases h0 : r < 0
  · rw [if_pos h0, if_pos (h'.1 h0)]
  · rw [if_neg h0, if_neg hc, if_neg (fun hh => h0 (h'.2 hh)), if_neg hy]
theorem div_back {g n o1 o2 : Bool} {x y : Int} {A : List Int} (oA : ok32 A) (va : validB n A = true) (hx : x = zOf n A) (hg : g = true) (hq : inB (x.fdiv y) = true) (hr : inB (x.fmod y) = true)
    (h1 : gE o1 (zOf (gN g (x.fdiv y)) (gL g (x.fdiv y)) * y) = 0)
    (h2 : gE o2 (zOf (gN o1 (zOf (gN g (x.fdiv y)) (gL g (x.fdiv y)) * y)) (gL o1 (zOf (gN g (x.fdiv y)) (gL g (x.fdiv y)) * y)) + zOf (gN g (x.fmod y)) (gL g (x.fmod y))) = 0) :
    sameB (gN o2 (zOf (gN o1 (zOf (gN g (x.fdiv y)) (gL g (x.fdiv y)) * y)) (gL o1 (zOf (gN g (x.fdiv y)) (gL g (x.fdiv y)) * y)) + zOf (gN g (x.fmod y)) (gL g (x.fmod y))))
      (gL o2 (zOf (gN o1 (zOf (gN g (x.fdiv y)) (gL g (x.fdiv y)) * y)) (gL o1 (zOf (gN g (x.fdiv y)) (gL g (x.fdiv y)) * y)) + zOf (gN g (x.fmod y)) (gL g (x.fmod y)))) n A = true := by
  have e : zOf (gN o1 (zOf (gN g (x.fdiv y)) (gL g (x.fdiv y)) * y)) (gL o1 (zOf (gN g (x.fdiv y)) (gL g (x.fdiv y)) * y)) + zOf (gN g (x.fmod y)) (gL g (x.fmod y)) = zOf n A := by
    rw [gz h1, zOf_gg hg hq, zOf_gg hg hr, ← hx]
    rw [Int.fmod_def x y, Int.mul_comm y]; omega
  rw [e, go h2, (gg_yes rfl).1, (gg_yes rfl).2, (z_of oA va).1, (z_of oA va).2]
  exact sameB_refl _ _
end Go.VL

/- Plain laws that the statements about divisors and shifts of integers need. No program here. -/
set_option linter.unusedVariables false
set_option linter.unusedSimpArgs false
namespace Go.VL

theorem gcd_in {x y : Int} (hx : inB x = true) (hy : inB y = true) : inB ((Int.gcd x y : Nat) : Int) = true := by
  unfold inB at *
  rw [decide_eq_true_iff] at *
  by_cases h : y = 0
  · subst h; rw [Int.gcd_zero_right]; omega
  · have h1 : Int.gcd x y ≤ y.natAbs := Nat.le_of_dvd (by omega) (Nat.gcd_dvd_right _ _)
    omega
theorem gcd_pos {x y : Int} (h : y ≠ 0) : ((Int.gcd x y : Nat) : Int) ≠ 0 := by
  have : 0 < Int.gcd x y := Nat.gcd_pos_of_pos_right _ (by omega)
  omega
theorem fmod_split (x y : Int) : x = x.fmod y + y * x.fdiv y := by rw [Int.fmod_def]; omega
theorem gcd_fmod (x y : Int) : Int.gcd y (x.fmod y) = Int.gcd x y := by
  have a1 := Int.gcd_dvd_left y (x.fmod y)
  have a2 := Int.gcd_dvd_right y (x.fmod y)
  have b1 := Int.gcd_dvd_left x y
  have b2 := Int.gcd_dvd_right x y
  have h1 : ((Int.gcd y (x.fmod y) : Nat) : Int) ∣ x := by
    have h : ((Int.gcd y (x.fmod y) : Nat) : Int) ∣ x.fmod y + y * x.fdiv y := Int.dvd_add a2 (Int.dvd_mul_of_dvd_left a1)
    rwa [← fmod_split] at h
  have h2 : ((Int.gcd x y : Nat) : Int) ∣ x.fmod y := by
    rw [Int.fmod_def]; exact Int.dvd_sub b1 (Int.dvd_mul_of_dvd_left b2)
  have k1 := Int.dvd_coe_gcd h1 a1
  have k2 := Int.dvd_coe_gcd b2 h2
  exact Nat.dvd_antisymm (Int.natCast_dvd_natCast.1 k1) (Int.natCast_dvd_natCast.1 k2)
theorem fmod_dvd {x g : Int} (h : g ∣ x) (hg : 0 ≤ g) : x.fmod g = 0 := by
  rw [Int.fmod_eq_emod_of_nonneg x hg]; exact Int.emod_eq_zero_of_dvd h
theorem gL_zero (ok : Bool) : gL ok 0 = [] := by
  cases ok <;> simp [gL, zL, in_zero, dg_zero]
theorem gcd_abs (x y z : Int) : ((Int.gcd (x * z) (y * z) : Nat) : Int) = ((Int.gcd x y : Nat) : Int) * (z.natAbs : Int) := by
  rw [Int.gcd_mul_right, Int.natCast_mul]
section eu
variable {n m k : Bool} {A B C : List Int} {x y : Int}
theorem eu_x {o : Bool} {w G : Int} (hG : G = ((Int.gcd x y : Nat) : Int)) (h : w = x ∨ w = y) : ((gL o (w.fmod G)).length : Int) = 0 := by
  have hd : G ∣ w := by
    subst hG
    rcases h with h | h
    · rw [h]; exact Int.gcd_dvd_left x y
    · rw [h]; exact Int.gcd_dvd_right x y
  rw [fmod_dvd hd (by omega), gL_zero]; rfl
theorem eu_mul {o1 o2 o3 o4 : Bool} {z g c : Int} (h1 : o1 = true) (h2 : o2 = true) (hp : gE o3 (x * z) = 0) (hq : gE o4 (y * z) = 0) (hg : g = ((Int.gcd x y : Nat) : Int)) (hc : c = (z.natAbs : Int)) :
    gE o1 ((Int.gcd (zOf (gN o3 (x * z)) (gL o3 (x * z))) (zOf (gN o4 (y * z)) (gL o4 (y * z))) : Nat) : Int) = 0 ∧ gE o2 (g * c) = 0 ∧
      sameB (gN o1 ((Int.gcd (zOf (gN o3 (x * z)) (gL o3 (x * z))) (zOf (gN o4 (y * z)) (gL o4 (y * z))) : Nat) : Int)) (gL o1 ((Int.gcd (zOf (gN o3 (x * z)) (gL o3 (x * z))) (zOf (gN o4 (y * z)) (gL o4 (y * z))) : Nat) : Int)) (gN o2 (g * c)) (gL o2 (g * c)) = true := by
  subst hg; subst hc
  rw [gz hp, gz hq]
  have hi := gcd_in (gE_zero.1 hp).2 (gE_zero.1 hq).2
  refine ⟨gE_in h1 hi, ?_, same_gg h1 h2 (gcd_abs x y z)⟩
  rw [← gcd_abs]; exact gE_in h2 hi
end eu
/-- Shifts. -/
theorem shZ_up {z k : Int} (h : 0 ≤ k) : shZ z k = z * 2 ^ k.toNat := by unfold shZ; rw [if_pos h]
theorem shZ_down {z k : Int} (h : 0 ≤ k) : shZ z (-k) = z.fdiv (2 ^ k.toNat) := by
  unfold shZ
  by_cases h0 : k = 0
  · subst h0; rw [if_pos (by omega)]; simp
  · rw [if_neg (by omega), Int.neg_neg]
theorem shZ_back {z k : Int} (h : 0 ≤ k) : shZ (shZ z k) (-k) = z := by
  rw [shZ_up h, shZ_down h]
  have hp := two_pow_pos k.toNat
  exact Int.mul_fdiv_cancel z (by omega)
theorem two_in {k : Int} (h0 : 0 ≤ k) (h : k ≤ 4095) : inB (2 ^ k.toNat) = true := by
  have h1 := two_mono (show k.toNat + 1 ≤ 4096 by omega)
  rw [← limit_two, Int.pow_succ] at h1
  have h2 := two_pow_pos k.toNat
  exact in_abs (by omega) (by omega)
theorem one_shZ {k : Int} (h0 : 0 ≤ k) : shZ (zOf (zN 1) (zL 1)) k = 2 ^ k.toNat := by
  rw [zOf_z in_one, shZ_up h0, Int.one_mul]
section ha
variable {n : Bool} {A : List Int} {k : Int}
theorem ha_back {o1 o2 : Bool} (h0 : 0 ≤ k) (oA : ok32 A) (va : validB n A = true) (he : gE o1 (shZ (zOf n A) k) = 0) (ho : o2 = true) :
    gE o2 (shZ (zOf (gN o1 (shZ (zOf n A) k)) (gL o1 (shZ (zOf n A) k))) (-k)) = 0 ∧
      sameB (gN o2 (shZ (zOf (gN o1 (shZ (zOf n A) k)) (gL o1 (shZ (zOf n A) k))) (-k))) (gL o2 (shZ (zOf (gN o1 (shZ (zOf n A) k)) (gL o1 (shZ (zOf n A) k))) (-k))) n A = true := by
  rw [gz he, shZ_back h0]
  refine ⟨gE_in ho (in_of_valid oA va), ?_⟩
  rw [ho, (gg_yes rfl).1, (gg_yes rfl).2, (z_of oA va).1, (z_of oA va).2]
  exact sameB_refl _ _
theorem ha_p {o : Bool} (h0 : 0 ≤ k) (h1 : k ≤ 4095) (ho : o = true) : gE o (shZ (zOf (zN 1) (zL 1)) k) = 0 ∧ zOf (gN o (shZ (zOf (zN 1) (zL 1)) k)) (gL o (shZ (zOf (zN 1) (zL 1)) k)) = 2 ^ k.toNat := by
  rw [one_shZ h0]
  exact ⟨gE_in ho (two_in h0 h1), zOf_gg ho (two_in h0 h1)⟩
end ha
theorem ha_q {z p k : Int} {o v : Bool} (h0 : 0 ≤ k) (hz : inB z = true) (hp : p = 2 ^ k.toNat) (ho : o = true) (hv : v = true) :
    dmE o z p = 0 ∧ gE v (shZ z (-k)) = 0 ∧ sameB (gN (okQ o z p) (z.fdiv p)) (gL (okQ o z p) (z.fdiv p)) (gN v (shZ z (-k))) (gL v (shZ z (-k))) = true := by
  subst hp
  have h2 := two_pow_pos k.toNat
  rw [shZ_down h0]
  exact ⟨dmE_yes ho hz (by omega), gE_in hv (fdiv_in hz (by omega)), same_gg (okQ_yes ho hz (by omega)) hv rfl⟩
theorem bop_and_4095 {x : Int} (h0 : -9223372036854775808 ≤ x) (h1 : x ≤ 9223372036854775807) : bop .and (.int .i64 x) (.int .i64 4095) = some (.int .i64 (x % 4096)) := by
  have hb : ((BitVec.ofInt 64 x &&& BitVec.ofInt 64 4095).toNat : Int) = x % 4096 := by
    rw [BitVec.toNat_and]
    have e : (BitVec.ofInt 64 4095).toNat = 2 ^ 12 - 1 := by decide
    rw [e, Nat.and_two_pow_sub_one_eq_mod]
    have e2 : ((BitVec.ofInt 64 x).toNat : Int) = x % 18446744073709551616 := by
      rw [BitVec.toNat_ofInt]; omega
    omega
  have hw : IntKind.i64.wrap (x % 4096) = x % 4096 := wrap_i64 (by omega)
  simp only [bop]
  show some (Value.int .i64 (IntKind.i64.wrap ((BitVec.ofInt 64 x &&& BitVec.ofInt 64 4095).toNat : Int))) = _
  rw [hb, hw]
end Go.VL

/- A small program logic over the translated Go code, further part: a struct of which the second field alone is given. -/
set_option linter.unusedVariables false
set_option linter.unusedSimpArgs false
namespace Go.VL
open Go.Proofs
section
variable {id : Nat} {s : Slots} {E : Env} {x y : Operand} {t : Bool} {v : V}
theorem Eff.int1 (hy : ev s y = some v) (hv : v.cells = [v]) (ht : v.noTup = true) : Eff Try.prog id s E (.build 24 #[(1, y)]) (some (.agg [vB false, v])) [] := by
  refine .build 24 #[(1, y)] [v] _ _ (by simp [evs, hy]) P_zero24 P_parts24 ?_
  simp [putParts, places, P_fld24_1, hv, ht]
end
end Go.VL

/- Walks over the Go functions, printed by a program of this session over the kit's print, and by hand. -/
set_option linter.unusedVariables false
set_option linter.unusedSimpArgs false
namespace Go.VL
open Go.Proofs
theorem f8 (n : Bool) (A : List Int) (m : Bool) (B : List Int) (k : Bool) (C : List Int) (hA : A.length ≤ 9223372036854775807) (hB : B.length ≤ 9223372036854775807) (hC : C.length ≤ 9223372036854775807) (oA : ok32 A) (oB : ok32 B) (oC : ok32 C) : VF Try.prog 8 [.agg [boolB (n), u32S (A)], .agg [boolB (m), u32S (B)], .agg [boolB (k), u32S (C)]] (boolB true) := by
  refine VF_of P_mixed Try.func8 rfl rfl (by kernel_rfl) ?_
  refine VCode.seq ?_
  refine VCode.region ?_
  refine VList.go1 (n' := 1) rfl rfl (.box _ _ _ rfl (List.cons_ne_nil _ _) rfl) rfl ?_
  refine VList.go1 (n' := 2) rfl rfl (.box _ _ _ rfl (List.cons_ne_nil _ _) rfl) rfl ?_
  refine VList.go1 (n' := 3) rfl rfl (.box _ _ _ rfl (List.cons_ne_nil _ _) rfl) rfl ?_
  refine VList.go0 (n' := 4) rfl rfl (.assign _ _ rfl) rfl ?_
  refine VList.nil (Then.go ?_)
  refine VCode.seq ?_
  refine VCode.seq ?_
  refine VCode.region ?_
  refine VList.go0 (n' := 5) rfl rfl (.loadS _ _ _ _ _ _ rfl rfl P_agg24 P_sz24 (Nat.le_of_ble_eq_true rfl)) rfl ?_
  refine VList.go0 (n' := 6) rfl rfl (.callF _ _ _ _ _ _ rfl (ress_cons rfl ress_nil) (f26 _ _ (by first | omega | (simp; done) | (simp; omega))) rfl) rfl ?_
  refine VList.go0 (n' := 7) rfl rfl (.un _ _ _ _ _ rfl rfl) rfl ?_
  refine VList.go0 (n' := 8) rfl rfl (.move _ _ rfl) rfl ?_
  refine VList.split (d := 32) _ rfl (fun hc1 => ?_) (fun hc1 => ?_)
  · replace hc1 := (bnot_t hc1)
    refine VList.skip (n' := 9) rfl rfl rfl ?_
    refine VList.skip (n' := 10) rfl rfl rfl ?_
    refine VList.skip (n' := 11) rfl rfl rfl ?_
    refine VList.go0 (n' := 12) rfl rfl (.pick _ _ _ _ _ rfl rfl) rfl ?_
    refine VList.go0 (n' := 13) rfl rfl (.move _ _ rfl) rfl ?_
    refine VList.skip (n' := 14) rfl rfl rfl ?_
    refine VList.skip (n' := 15) rfl rfl rfl ?_
    refine VList.skip (n' := 16) rfl rfl rfl ?_
    refine VList.go0 (n' := 17) rfl rfl (.pick _ _ _ _ _ rfl rfl) rfl ?_
    refine VList.go0 (n' := 18) rfl rfl (.move _ _ rfl) rfl ?_
    refine VList.skip (n' := 19) rfl rfl rfl ?_
    refine VList.skip (n' := 20) rfl rfl rfl ?_
    refine VList.skip (n' := 21) rfl rfl rfl ?_
    refine VList.skip (n' := 22) rfl rfl rfl ?_
    refine VList.go0 (n' := 23) rfl rfl (.pick _ _ _ _ _ rfl rfl) rfl ?_
    refine VList.nil (Then.go ?_)
    refine VCode.cond _ rfl (fun _ => ?_) (fun h_ => Bool.noConfusion h_)
    refine VCode.seq ?_
    refine VCode.region ?_
    refine VList.go0 (n' := 24) rfl rfl (.callF _ _ _ _ _ _ rfl ress_nil (f20) rfl) rfl ?_
    refine VList.go0 (n' := 25) rfl rfl (.assign _ _ rfl) rfl ?_
    refine VList.nil (Then.go ?_)
    exact VCode.ret (Then.ret (⟨trivial, [boolB (true)], (resVars_cons (resVar_tmp rfl rfl) resVars_nil), rfl⟩))
  · replace hc1 := (bnot_f hc1)
    refine VList.go0 (n' := 9) rfl rfl (.loadS _ _ _ _ _ _ rfl rfl P_agg24 P_sz24 (Nat.le_of_ble_eq_true rfl)) rfl ?_
    refine VList.go0 (n' := 10) rfl rfl (.callF _ _ _ _ _ _ rfl (ress_cons rfl ress_nil) (f26 _ _ (by first | omega | (simp; done) | (simp; omega))) rfl) rfl ?_
    refine VList.go0 (n' := 11) rfl rfl (.un _ _ _ _ _ rfl rfl) rfl ?_
    refine VList.go0 (n' := 12) rfl rfl (.pick _ _ _ _ _ rfl rfl) rfl ?_
    refine VList.go0 (n' := 13) rfl rfl (.move _ _ rfl) rfl ?_
    refine VList.split (d := 37) _ rfl (fun hc2 => ?_) (fun hc2 => ?_)
    · replace hc2 := (bnot_t hc2)
      refine VList.skip (n' := 14) rfl rfl rfl ?_
      refine VList.skip (n' := 15) rfl rfl rfl ?_
      refine VList.skip (n' := 16) rfl rfl rfl ?_
      refine VList.go0 (n' := 17) rfl rfl (.pick _ _ _ _ _ rfl rfl) rfl ?_
      refine VList.go0 (n' := 18) rfl rfl (.move _ _ rfl) rfl ?_
      refine VList.skip (n' := 19) rfl rfl rfl ?_
      refine VList.skip (n' := 20) rfl rfl rfl ?_
      refine VList.skip (n' := 21) rfl rfl rfl ?_
      refine VList.skip (n' := 22) rfl rfl rfl ?_
      refine VList.go0 (n' := 23) rfl rfl (.pick _ _ _ _ _ rfl rfl) rfl ?_
      refine VList.nil (Then.go ?_)
      refine VCode.cond _ rfl (fun _ => ?_) (fun h_ => Bool.noConfusion h_)
      refine VCode.seq ?_
      refine VCode.region ?_
      refine VList.go0 (n' := 24) rfl rfl (.callF _ _ _ _ _ _ rfl ress_nil (f20) rfl) rfl ?_
      refine VList.go0 (n' := 25) rfl rfl (.assign _ _ rfl) rfl ?_
      refine VList.nil (Then.go ?_)
      exact VCode.ret (Then.ret (⟨trivial, [boolB (true)], (resVars_cons (resVar_tmp rfl rfl) resVars_nil), rfl⟩))
    · replace hc2 := (bnot_f hc2)
      refine VList.go0 (n' := 14) rfl rfl (.loadS _ _ _ _ _ _ rfl rfl P_agg24 P_sz24 (Nat.le_of_ble_eq_true rfl)) rfl ?_
      refine VList.go0 (n' := 15) rfl rfl (.callF _ _ _ _ _ _ rfl (ress_cons rfl ress_nil) (f26 _ _ (by first | omega | (simp; done) | (simp; omega))) rfl) rfl ?_
      refine VList.go0 (n' := 16) rfl rfl (.un _ _ _ _ _ rfl rfl) rfl ?_
      refine VList.go0 (n' := 17) rfl rfl (.pick _ _ _ _ _ rfl rfl) rfl ?_
      refine VList.go0 (n' := 18) rfl rfl (.move _ _ rfl) rfl ?_
      refine VList.split (d := 42) _ rfl (fun hc3 => ?_) (fun hc3 => ?_)
      · replace hc3 := (bnot_t hc3)
        refine VList.skip (n' := 19) rfl rfl rfl ?_
        refine VList.skip (n' := 20) rfl rfl rfl ?_
        refine VList.skip (n' := 21) rfl rfl rfl ?_
        refine VList.skip (n' := 22) rfl rfl rfl ?_
        refine VList.go0 (n' := 23) rfl rfl (.pick _ _ _ _ _ rfl rfl) rfl ?_
        refine VList.nil (Then.go ?_)
        refine VCode.cond _ rfl (fun _ => ?_) (fun h_ => Bool.noConfusion h_)
        refine VCode.seq ?_
        refine VCode.region ?_
        refine VList.go0 (n' := 24) rfl rfl (.callF _ _ _ _ _ _ rfl ress_nil (f20) rfl) rfl ?_
        refine VList.go0 (n' := 25) rfl rfl (.assign _ _ rfl) rfl ?_
        refine VList.nil (Then.go ?_)
        exact VCode.ret (Then.ret (⟨trivial, [boolB (true)], (resVars_cons (resVar_tmp rfl rfl) resVars_nil), rfl⟩))
      · replace hc3 := (bnot_f hc3)
        refine VList.go0 (n' := 19) rfl rfl (.fieldAddr _ _ _ _ _ _ _ _ rfl P_fld24_1) rfl ?_
        refine VList.go0 (n' := 20) rfl rfl (.load1 _ _ _ _ _ _ rfl rfl P_agg22 rfl) rfl ?_
        refine VList.go0 (n' := 21) rfl rfl (Eff.lenS rfl Try.underlying22) rfl ?_
        refine VList.go0 (n' := 22) rfl rfl (.bin _ _ _ _ _ _ _ _ rfl rfl rfl) rfl ?_
        refine VList.go0 (n' := 23) rfl rfl (.pick _ _ _ _ _ rfl rfl) rfl ?_
        refine VList.nil (Then.go ?_)
        refine VCode.cond _ rfl (fun hc4 => ?_) (fun hc4 => ?_)
        · replace hc4 := eq_of_beq hc4
          refine VCode.seq ?_
          refine VCode.region ?_
          refine VList.go0 (n' := 24) rfl rfl (.callF _ _ _ _ _ _ rfl ress_nil (f20) rfl) rfl ?_
          refine VList.go0 (n' := 25) rfl rfl (.assign _ _ rfl) rfl ?_
          refine VList.nil (Then.go ?_)
          exact VCode.ret (Then.ret (⟨trivial, [boolB (true)], (resVars_cons (resVar_tmp rfl rfl) resVars_nil), rfl⟩))
        · replace hc4 := ne_of_beq_false hc4
          refine VCode.skip (Then.go ?_)
          refine VCode.seq ?_
          have va : validB n A = true := by assumption
          have vb : validB m B = true := by assumption
          have vc : validB k C = true := by assumption
          have hy := zOf_ne oB vb (by assumption)
          have xi := in_of_valid oA va
          have yi := in_of_valid oB vb
          have gi := gcd_in xi yi
          have gp := gcd_pos (x := zOf n A) hy
          obtain ⟨ri, rl, rs⟩ := fmod_in (x := zOf n A) hy yi
          have hg := okQ_yes (vv va vb) xi hy
          have zg : zOf (gN (validB n A && validB m B) ((Int.gcd (zOf n A) (zOf m B) : Nat) : Int)) (gL (validB n A && validB m B) ((Int.gcd (zOf n A) (zOf m B) : Nat) : Int)) = ((Int.gcd (zOf n A) (zOf m B) : Nat) : Int) := zOf_gg (vv va vb) gi
          have hrr : zOf (gN (okQ (validB n A && validB m B) (zOf n A) (zOf m B)) ((zOf n A).fmod (zOf m B))) (gL (okQ (validB n A && validB m B) (zOf n A) (zOf m B)) ((zOf n A).fmod (zOf m B))) = (zOf n A).fmod (zOf m B) := zOf_gg hg ri
          refine VCode.region ?_
          refine VList.go0 (n' := 24) rfl rfl (.loadS _ _ _ _ _ _ rfl rfl P_agg24 P_sz24 (Nat.le_of_ble_eq_true rfl)) rfl ?_
          refine VList.go0 (n' := 25) rfl rfl (.loadS _ _ _ _ _ _ rfl rfl P_agg24 P_sz24 (Nat.le_of_ble_eq_true rfl)) rfl ?_
          refine VList.go0 (n' := 26) rfl rfl (Eff.callV0 rfl (ress_cons rfl (ress_cons rfl ress_nil)) (f31 _ _ _ _ (by first | assumption | with_reducible exact len_gL' _ _ | with_reducible exact len_zL' _) (by first | assumption | with_reducible exact len_gL' _ _ | with_reducible exact len_zL' _) (by first | assumption | with_reducible exact ok32_gL _ _ | with_reducible exact ok32_zL _) (by first | assumption | with_reducible exact ok32_gL _ _ | with_reducible exact ok32_zL _)) rfl) rfl ?_
          refine VList.go0 (n' := 27) rfl rfl (.move _ _ rfl) rfl ?_
          refine VList.go0 (n' := 28) rfl rfl (.extract _ _ _ _ rfl rfl) rfl ?_
          refine VList.go0 (n' := 29) rfl rfl (.extract _ _ _ _ rfl rfl) rfl ?_
          refine VList.go1 (n' := 30) rfl rfl (.alloc _ _ P_zero24 (List.cons_ne_nil _ _)) rfl ?_
          refine VList.goS (n' := 31) rfl rfl (.store _ _ _ _ _ _ _ rfl rfl rfl rfl P_sz24 (Nat.le_of_ble_eq_true rfl) rfl) rfl ?_
          refine VList.go0 (n' := 32) rfl rfl (.assign _ _ rfl) rfl ?_
          refine VList.nil (Then.go ?_)
          refine VCode.seq ?_
          refine VCode.region ?_
          refine VList.go0 (n' := 33) rfl rfl (.loadS _ _ _ _ _ _ rfl rfl P_agg24 P_sz24 (Nat.le_of_ble_eq_true rfl)) rfl ?_
          refine VList.go0 (n' := 34) rfl rfl (.loadS _ _ _ _ _ _ rfl rfl P_agg24 P_sz24 (Nat.le_of_ble_eq_true rfl)) rfl ?_
          refine VList.go0 (n' := 35) rfl rfl (Eff.callV0 rfl (ress_cons rfl (ress_cons rfl ress_nil)) (f18 _ _ _ _ (by first | assumption | with_reducible exact len_gL' _ _ | with_reducible exact len_zL' _) (by first | assumption | with_reducible exact len_gL' _ _ | with_reducible exact len_zL' _) (by first | assumption | with_reducible exact ok32_gL _ _ | with_reducible exact ok32_zL _) (by first | assumption | with_reducible exact ok32_gL _ _ | with_reducible exact ok32_zL _)) rfl) rfl ?_
          refine VList.go0 (n' := 36) rfl rfl (.move _ _ rfl) rfl ?_
          refine VList.go0 (n' := 37) rfl rfl (.extract _ _ _ _ rfl rfl) rfl ?_
          refine VList.go0 (n' := 38) rfl rfl (.extract _ _ _ _ rfl rfl) rfl ?_
          refine VList.go0 (n' := 39) rfl rfl (.extract _ _ _ _ rfl rfl) rfl ?_
          refine VList.go1 (n' := 40) rfl rfl (.alloc _ _ P_zero24 (List.cons_ne_nil _ _)) rfl ?_
          refine VList.go1 (n' := 41) rfl rfl (.alloc _ _ P_zero24 (List.cons_ne_nil _ _)) rfl ?_
          refine VList.goS (n' := 42) rfl rfl (.store _ _ _ _ _ _ _ rfl rfl rfl rfl P_sz24 (Nat.le_of_ble_eq_true rfl) rfl) rfl ?_
          refine VList.goS (n' := 43) rfl rfl (.store _ _ _ _ _ _ _ rfl rfl rfl rfl P_sz24 (Nat.le_of_ble_eq_true rfl) rfl) rfl ?_
          refine VList.go0 (n' := 44) rfl rfl (.assign _ _ rfl) rfl ?_
          refine VList.nil (Then.go ?_)
          refine VCode.seq ?_
          refine VCode.region ?_
          refine VList.go0 (n' := 45) rfl rfl (.loadS _ _ _ _ _ _ rfl rfl P_agg24 P_sz24 (Nat.le_of_ble_eq_true rfl)) rfl ?_
          refine VList.go0 (n' := 46) rfl rfl (.loadS _ _ _ _ _ _ rfl rfl P_agg24 P_sz24 (Nat.le_of_ble_eq_true rfl)) rfl ?_
          refine VList.go0 (n' := 47) rfl rfl (Eff.callV0 rfl (ress_cons rfl (ress_cons rfl ress_nil)) (f31 _ _ _ _ (by first | assumption | with_reducible exact len_gL' _ _ | with_reducible exact len_zL' _) (by first | assumption | with_reducible exact len_gL' _ _ | with_reducible exact len_zL' _) (by first | assumption | with_reducible exact ok32_gL _ _ | with_reducible exact ok32_zL _) (by first | assumption | with_reducible exact ok32_gL _ _ | with_reducible exact ok32_zL _)) rfl) rfl ?_
          refine VList.go0 (n' := 48) rfl rfl (.move _ _ rfl) rfl ?_
          refine VList.go0 (n' := 49) rfl rfl (.extract _ _ _ _ rfl rfl) rfl ?_
          refine VList.go0 (n' := 50) rfl rfl (.extract _ _ _ _ rfl rfl) rfl ?_
          refine VList.go1 (n' := 51) rfl rfl (.alloc _ _ P_zero24 (List.cons_ne_nil _ _)) rfl ?_
          refine VList.goS (n' := 52) rfl rfl (.store _ _ _ _ _ _ _ rfl rfl rfl rfl P_sz24 (Nat.le_of_ble_eq_true rfl) rfl) rfl ?_
          refine VList.go0 (n' := 53) rfl rfl (.assign _ _ rfl) rfl ?_
          refine VList.nil (Then.go ?_)
          refine VCode.seq ?_
          refine VCode.region ?_
          refine VList.go0 (n' := 54) rfl rfl (.loadS _ _ _ _ _ _ rfl rfl P_agg24 P_sz24 (Nat.le_of_ble_eq_true rfl)) rfl ?_
          refine VList.go0 (n' := 55) rfl rfl (.loadS _ _ _ _ _ _ rfl rfl P_agg24 P_sz24 (Nat.le_of_ble_eq_true rfl)) rfl ?_
          refine VList.go0 (n' := 56) rfl rfl (Eff.callV0 rfl (ress_cons rfl (ress_cons rfl ress_nil)) (f18 _ _ _ _ (by first | assumption | with_reducible exact len_gL' _ _ | with_reducible exact len_zL' _) (by first | assumption | with_reducible exact len_gL' _ _ | with_reducible exact len_zL' _) (by first | assumption | with_reducible exact ok32_gL _ _ | with_reducible exact ok32_zL _) (by first | assumption | with_reducible exact ok32_gL _ _ | with_reducible exact ok32_zL _)) rfl) rfl ?_
          refine VList.go0 (n' := 57) rfl rfl (.move _ _ rfl) rfl ?_
          refine VList.go0 (n' := 58) rfl rfl (.extract _ _ _ _ rfl rfl) rfl ?_
          refine VList.go0 (n' := 59) rfl rfl (.extract _ _ _ _ rfl rfl) rfl ?_
          refine VList.go0 (n' := 60) rfl rfl (.extract _ _ _ _ rfl rfl) rfl ?_
          refine VList.go1 (n' := 61) rfl rfl (.alloc _ _ P_zero24 (List.cons_ne_nil _ _)) rfl ?_
          refine VList.go1 (n' := 62) rfl rfl (.alloc _ _ P_zero24 (List.cons_ne_nil _ _)) rfl ?_
          refine VList.goS (n' := 63) rfl rfl (.store _ _ _ _ _ _ _ rfl rfl rfl rfl P_sz24 (Nat.le_of_ble_eq_true rfl) rfl) rfl ?_
          refine VList.goS (n' := 64) rfl rfl (.store _ _ _ _ _ _ _ rfl rfl rfl rfl P_sz24 (Nat.le_of_ble_eq_true rfl) rfl) rfl ?_
          refine VList.go0 (n' := 65) rfl rfl (.assign _ _ rfl) rfl ?_
          refine VList.nil (Then.go ?_)
          refine VCode.seq ?_
          refine VCode.region ?_
          refine VList.go0 (n' := 66) rfl rfl (.loadS _ _ _ _ _ _ rfl rfl P_agg24 P_sz24 (Nat.le_of_ble_eq_true rfl)) rfl ?_
          refine VList.go0 (n' := 67) rfl rfl (.loadS _ _ _ _ _ _ rfl rfl P_agg24 P_sz24 (Nat.le_of_ble_eq_true rfl)) rfl ?_
          refine VList.go0 (n' := 68) rfl rfl (Eff.callV0 rfl (ress_cons rfl (ress_cons rfl ress_nil)) (f18 _ _ _ _ (by first | assumption | with_reducible exact len_gL' _ _ | with_reducible exact len_zL' _) (by first | assumption | with_reducible exact len_gL' _ _ | with_reducible exact len_zL' _) (by first | assumption | with_reducible exact ok32_gL _ _ | with_reducible exact ok32_zL _) (by first | assumption | with_reducible exact ok32_gL _ _ | with_reducible exact ok32_zL _)) rfl) rfl ?_
          refine VList.go0 (n' := 69) rfl rfl (.move _ _ rfl) rfl ?_
          refine VList.go0 (n' := 70) rfl rfl (.extract _ _ _ _ rfl rfl) rfl ?_
          refine VList.go0 (n' := 71) rfl rfl (.extract _ _ _ _ rfl rfl) rfl ?_
          refine VList.go0 (n' := 72) rfl rfl (.extract _ _ _ _ rfl rfl) rfl ?_
          refine VList.go1 (n' := 73) rfl rfl (.alloc _ _ P_zero24 (List.cons_ne_nil _ _)) rfl ?_
          refine VList.go1 (n' := 74) rfl rfl (.alloc _ _ P_zero24 (List.cons_ne_nil _ _)) rfl ?_
          refine VList.goS (n' := 75) rfl rfl (.store _ _ _ _ _ _ _ rfl rfl rfl rfl P_sz24 (Nat.le_of_ble_eq_true rfl) rfl) rfl ?_
          refine VList.goS (n' := 76) rfl rfl (.store _ _ _ _ _ _ _ rfl rfl rfl rfl P_sz24 (Nat.le_of_ble_eq_true rfl) rfl) rfl ?_
          refine VList.go0 (n' := 77) rfl rfl (.assign _ _ rfl) rfl ?_
          refine VList.nil (Then.go ?_)
          refine VCode.join (α := (Unit)) (fun (u : (Unit)) => (30, sl [(3, .ptr 0 (0)), (4, .ptr 1 (0)), (5, .ptr 2 (0)), (7, .ptr 29 (0)), (20, vB (true))], en [(0, ⟨2, [vB (n), vS (A)], true⟩), (1, ⟨2, [vB (m), vS (B)], true⟩), (2, ⟨2, [vB (k), vS (C)], true⟩), (29, ⟨2, [vB (gN (validB (n) (A) && validB (m) (B)) (((Int.gcd (zOf (n) (A)) (zOf (m) (B)) : Nat) : Int))), vS (gL (validB (n) (A) && validB (m) (B)) (((Int.gcd (zOf (n) (A)) (zOf (m) (B)) : Nat) : Int)))], true⟩)])) (fun (u : (Unit)) => True) ?_ ?_
          · skip
            refine VCode.region ?_
            refine VList.go0 (n' := 78) rfl rfl (.callF _ _ _ _ _ _ rfl ress_nil (f20) rfl) rfl ?_
            refine VList.go0 (n' := 79) rfl rfl (.move _ _ rfl) rfl ?_
            refine VList.go0 (n' := 80) rfl rfl (.move _ _ rfl) rfl ?_
            refine VList.go0 (n' := 81) rfl rfl (Eff.castB (show (gE (validB (n) (A) && validB (m) (B)) (((Int.gcd (zOf (n) (A)) (zOf (m) (B)) : Nat) : Int)) == 0) = true from beq_yes (gE_in (vv va vb) gi)) (.bin _ _ _ _ _ _ _ _ rfl rfl rfl)) rfl ?_
            refine VList.go0 (n' := 82) rfl rfl (.pick _ _ _ _ _ rfl rfl) rfl ?_
            refine VList.go0 (n' := 83) rfl rfl (.move _ _ rfl) rfl ?_
            refine VList.go0 (n' := 84) rfl rfl (.move _ _ rfl) rfl ?_
            refine VList.go0 (n' := 85) rfl rfl (Eff.castB (show (dmE (validB (n) (A) && validB (m) (B)) (zOf (n) (A)) (zOf (m) (B)) == 0) = true from beq_yes (dmE_yes (vv va vb) xi hy)) (.bin _ _ _ _ _ _ _ _ rfl rfl rfl)) rfl ?_
            refine VList.go0 (n' := 86) rfl rfl (.pick _ _ _ _ _ rfl rfl) rfl ?_
            refine VList.go0 (n' := 87) rfl rfl (.move _ _ rfl) rfl ?_
            refine VList.go0 (n' := 88) rfl rfl (.move _ _ rfl) rfl ?_
            refine VList.go0 (n' := 89) rfl rfl (Eff.castB (show (gE (validB (m) (B) && validB (gN (okQ (validB (n) (A) && validB (m) (B)) (zOf (n) (A)) (zOf (m) (B))) ((zOf (n) (A)).fmod (zOf (m) (B)))) (gL (okQ (validB (n) (A) && validB (m) (B)) (zOf (n) (A)) (zOf (m) (B))) ((zOf (n) (A)).fmod (zOf (m) (B))))) (((Int.gcd (zOf (m) (B)) (zOf (gN (okQ (validB (n) (A) && validB (m) (B)) (zOf (n) (A)) (zOf (m) (B))) ((zOf (n) (A)).fmod (zOf (m) (B)))) (gL (okQ (validB (n) (A) && validB (m) (B)) (zOf (n) (A)) (zOf (m) (B))) ((zOf (n) (A)).fmod (zOf (m) (B))))) : Nat) : Int)) == 0) = true from beq_yes (gE_in (vv vb (valid_gg _ _)) (by rw [hrr, gcd_fmod]; exact gi))) (.bin _ _ _ _ _ _ _ _ rfl rfl rfl)) rfl ?_
            refine VList.go0 (n' := 90) rfl rfl (.pick _ _ _ _ _ rfl rfl) rfl ?_
            refine VList.go0 (n' := 91) rfl rfl (.move _ _ rfl) rfl ?_
            refine VList.go0 (n' := 92) rfl rfl (.loadS _ _ _ _ _ _ rfl rfl P_agg24 P_sz24 (Nat.le_of_ble_eq_true rfl)) rfl ?_
            refine VList.go0 (n' := 93) rfl rfl (.loadS _ _ _ _ _ _ rfl rfl P_agg24 P_sz24 (Nat.le_of_ble_eq_true rfl)) rfl ?_
            refine VList.go0 (n' := 94) rfl rfl (Eff.castB (show (sameB (gN (validB (n) (A) && validB (m) (B)) (((Int.gcd (zOf (n) (A)) (zOf (m) (B)) : Nat) : Int))) (gL (validB (n) (A) && validB (m) (B)) (((Int.gcd (zOf (n) (A)) (zOf (m) (B)) : Nat) : Int))) (gN (validB (m) (B) && validB (gN (okQ (validB (n) (A) && validB (m) (B)) (zOf (n) (A)) (zOf (m) (B))) ((zOf (n) (A)).fmod (zOf (m) (B)))) (gL (okQ (validB (n) (A) && validB (m) (B)) (zOf (n) (A)) (zOf (m) (B))) ((zOf (n) (A)).fmod (zOf (m) (B))))) (((Int.gcd (zOf (m) (B)) (zOf (gN (okQ (validB (n) (A) && validB (m) (B)) (zOf (n) (A)) (zOf (m) (B))) ((zOf (n) (A)).fmod (zOf (m) (B)))) (gL (okQ (validB (n) (A) && validB (m) (B)) (zOf (n) (A)) (zOf (m) (B))) ((zOf (n) (A)).fmod (zOf (m) (B))))) : Nat) : Int))) (gL (validB (m) (B) && validB (gN (okQ (validB (n) (A) && validB (m) (B)) (zOf (n) (A)) (zOf (m) (B))) ((zOf (n) (A)).fmod (zOf (m) (B)))) (gL (okQ (validB (n) (A) && validB (m) (B)) (zOf (n) (A)) (zOf (m) (B))) ((zOf (n) (A)).fmod (zOf (m) (B))))) (((Int.gcd (zOf (m) (B)) (zOf (gN (okQ (validB (n) (A) && validB (m) (B)) (zOf (n) (A)) (zOf (m) (B))) ((zOf (n) (A)).fmod (zOf (m) (B)))) (gL (okQ (validB (n) (A) && validB (m) (B)) (zOf (n) (A)) (zOf (m) (B))) ((zOf (n) (A)).fmod (zOf (m) (B))))) : Nat) : Int)))) = true from same_gg (vv va vb) (vv vb (valid_gg _ _)) (by rw [hrr, gcd_fmod])) (.callF _ _ _ _ _ _ rfl (ress_cons rfl (ress_cons rfl ress_nil)) (f21 _ _ _ _ (by first | assumption | with_reducible exact len_gL' _ _ | with_reducible exact len_zL' _) (by first | assumption | with_reducible exact len_gL' _ _ | with_reducible exact len_zL' _)) rfl)) rfl ?_
            refine VList.go0 (n' := 95) rfl rfl (.pick _ _ _ _ _ rfl rfl) rfl ?_
            refine VList.go0 (n' := 96) rfl rfl (.move _ _ rfl) rfl ?_
            refine VList.go0 (n' := 97) rfl rfl (.move _ _ rfl) rfl ?_
            refine VList.go0 (n' := 98) rfl rfl (Eff.castB (show (dmE (validB (n) (A) && validB (gN (validB (n) (A) && validB (m) (B)) (((Int.gcd (zOf (n) (A)) (zOf (m) (B)) : Nat) : Int))) (gL (validB (n) (A) && validB (m) (B)) (((Int.gcd (zOf (n) (A)) (zOf (m) (B)) : Nat) : Int)))) (zOf (n) (A)) (zOf (gN (validB (n) (A) && validB (m) (B)) (((Int.gcd (zOf (n) (A)) (zOf (m) (B)) : Nat) : Int))) (gL (validB (n) (A) && validB (m) (B)) (((Int.gcd (zOf (n) (A)) (zOf (m) (B)) : Nat) : Int)))) == 0) = true from beq_yes (dmE_yes (vv va (valid_gg _ _)) xi (by rw [zg]; exact gp))) (.bin _ _ _ _ _ _ _ _ rfl rfl rfl)) rfl ?_
            refine VList.go0 (n' := 99) rfl rfl (.pick _ _ _ _ _ rfl rfl) rfl ?_
            refine VList.go0 (n' := 100) rfl rfl (.move _ _ rfl) rfl ?_
            refine VList.go0 (n' := 101) rfl rfl (.move _ _ rfl) rfl ?_
            refine VList.go0 (n' := 102) rfl rfl (Eff.castB (show (dmE (validB (m) (B) && validB (gN (validB (n) (A) && validB (m) (B)) (((Int.gcd (zOf (n) (A)) (zOf (m) (B)) : Nat) : Int))) (gL (validB (n) (A) && validB (m) (B)) (((Int.gcd (zOf (n) (A)) (zOf (m) (B)) : Nat) : Int)))) (zOf (m) (B)) (zOf (gN (validB (n) (A) && validB (m) (B)) (((Int.gcd (zOf (n) (A)) (zOf (m) (B)) : Nat) : Int))) (gL (validB (n) (A) && validB (m) (B)) (((Int.gcd (zOf (n) (A)) (zOf (m) (B)) : Nat) : Int)))) == 0) = true from beq_yes (dmE_yes (vv vb (valid_gg _ _)) yi (by rw [zg]; exact gp))) (.bin _ _ _ _ _ _ _ _ rfl rfl rfl)) rfl ?_
            refine VList.go0 (n' := 103) rfl rfl (.pick _ _ _ _ _ rfl rfl) rfl ?_
            refine VList.go0 (n' := 104) rfl rfl (.move _ _ rfl) rfl ?_
            refine VList.go0 (n' := 105) rfl rfl (.fieldAddr _ _ _ _ _ _ _ _ rfl P_fld24_1) rfl ?_
            refine VList.go0 (n' := 106) rfl rfl (.load1 _ _ _ _ _ _ rfl rfl P_agg22 rfl) rfl ?_
            refine VList.go0 (n' := 107) rfl rfl (Eff.lenS rfl Try.underlying22) rfl ?_
            refine VList.go0 (n' := 108) rfl rfl (Eff.castB (show (((gL (okQ (validB (n) (A) && validB (gN (validB (n) (A) && validB (m) (B)) (((Int.gcd (zOf (n) (A)) (zOf (m) (B)) : Nat) : Int))) (gL (validB (n) (A) && validB (m) (B)) (((Int.gcd (zOf (n) (A)) (zOf (m) (B)) : Nat) : Int)))) (zOf (n) (A)) (zOf (gN (validB (n) (A) && validB (m) (B)) (((Int.gcd (zOf (n) (A)) (zOf (m) (B)) : Nat) : Int))) (gL (validB (n) (A) && validB (m) (B)) (((Int.gcd (zOf (n) (A)) (zOf (m) (B)) : Nat) : Int))))) ((zOf (n) (A)).fmod (zOf (gN (validB (n) (A) && validB (m) (B)) (((Int.gcd (zOf (n) (A)) (zOf (m) (B)) : Nat) : Int))) (gL (validB (n) (A) && validB (m) (B)) (((Int.gcd (zOf (n) (A)) (zOf (m) (B)) : Nat) : Int)))))).length : Int) == 0) = true from beq_yes (eu_x zg (.inl rfl))) (.bin _ _ _ _ _ _ _ _ rfl rfl rfl)) rfl ?_
            refine VList.go0 (n' := 109) rfl rfl (.pick _ _ _ _ _ rfl rfl) rfl ?_
            refine VList.go0 (n' := 110) rfl rfl (.move _ _ rfl) rfl ?_
            refine VList.go0 (n' := 111) rfl rfl (.fieldAddr _ _ _ _ _ _ _ _ rfl P_fld24_1) rfl ?_
            refine VList.go0 (n' := 112) rfl rfl (.load1 _ _ _ _ _ _ rfl rfl P_agg22 rfl) rfl ?_
            refine VList.go0 (n' := 113) rfl rfl (Eff.lenS rfl Try.underlying22) rfl ?_
            refine VList.go0 (n' := 114) rfl rfl (Eff.castB (show (((gL (okQ (validB (m) (B) && validB (gN (validB (n) (A) && validB (m) (B)) (((Int.gcd (zOf (n) (A)) (zOf (m) (B)) : Nat) : Int))) (gL (validB (n) (A) && validB (m) (B)) (((Int.gcd (zOf (n) (A)) (zOf (m) (B)) : Nat) : Int)))) (zOf (m) (B)) (zOf (gN (validB (n) (A) && validB (m) (B)) (((Int.gcd (zOf (n) (A)) (zOf (m) (B)) : Nat) : Int))) (gL (validB (n) (A) && validB (m) (B)) (((Int.gcd (zOf (n) (A)) (zOf (m) (B)) : Nat) : Int))))) ((zOf (m) (B)).fmod (zOf (gN (validB (n) (A) && validB (m) (B)) (((Int.gcd (zOf (n) (A)) (zOf (m) (B)) : Nat) : Int))) (gL (validB (n) (A) && validB (m) (B)) (((Int.gcd (zOf (n) (A)) (zOf (m) (B)) : Nat) : Int)))))).length : Int) == 0) = true from beq_yes (eu_x zg (.inr rfl))) (.bin _ _ _ _ _ _ _ _ rfl rfl rfl)) rfl ?_
            refine VList.go0 (n' := 115) rfl rfl (.pick _ _ _ _ _ rfl rfl) rfl ?_
            refine VList.go0 (n' := 116) rfl rfl (.assign _ _ rfl) rfl ?_
            exact VList.nil (Joins.go (()) trivial (Weak.of (show 0 ≤ 30 by decide) ⟨⟨rfl, rfl⟩, ⟨⟨rfl, rfl⟩, ⟨⟨rfl, rfl⟩, ⟨⟨rfl, rfl⟩, ⟨⟨rfl, rfl⟩, trivial⟩⟩⟩⟩⟩ ⟨⟨rfl, (show 0 < 30 by decide), (by intro v_ hv_; simp at hv_; rcases hv_ with rfl | rfl <;> rfl)⟩, ⟨⟨rfl, (show 1 < 30 by decide), (by intro v_ hv_; simp at hv_; rcases hv_ with rfl | rfl <;> rfl)⟩, ⟨⟨rfl, (show 2 < 30 by decide), (by intro v_ hv_; simp at hv_; rcases hv_ with rfl | rfl <;> rfl)⟩, ⟨⟨rfl, (show 29 < 30 by decide), (by intro v_ hv_; simp at hv_; rcases hv_ with rfl | rfl <;> rfl)⟩, trivial⟩⟩⟩⟩))
          · intro u hok
            show VCode Try.prog 0 _ 30 (sl [(3, .ptr 0 (0)), (4, .ptr 1 (0)), (5, .ptr 2 (0)), (7, .ptr 29 (0)), (20, vB (true))]) (en [(0, ⟨2, [vB (n), vS (A)], true⟩), (1, ⟨2, [vB (m), vS (B)], true⟩), (2, ⟨2, [vB (k), vS (C)], true⟩), (29, ⟨2, [vB (gN (validB (n) (A) && validB (m) (B)) (((Int.gcd (zOf (n) (A)) (zOf (m) (B)) : Nat) : Int))), vS (gL (validB (n) (A) && validB (m) (B)) (((Int.gcd (zOf (n) (A)) (zOf (m) (B)) : Nat) : Int)))], true⟩)]) _
            refine VCode.seq ?_
            refine VCode.region ?_
            refine VList.go0 (n' := 31) rfl rfl (.loadS _ _ _ _ _ _ rfl rfl P_agg24 P_sz24 (Nat.le_of_ble_eq_true rfl)) rfl ?_
            refine VList.go0 (n' := 32) rfl rfl (.loadS _ _ _ _ _ _ rfl rfl P_agg24 P_sz24 (Nat.le_of_ble_eq_true rfl)) rfl ?_
            refine VList.go0 (n' := 33) rfl rfl (Eff.callV0 rfl (ress_cons rfl (ress_cons rfl ress_nil)) (f29 _ _ _ _ (by first | assumption | with_reducible exact len_gL' _ _ | with_reducible exact len_zL' _) (by first | assumption | with_reducible exact len_gL' _ _ | with_reducible exact len_zL' _) (by first | assumption | with_reducible exact ok32_gL _ _ | with_reducible exact ok32_zL _) (by first | assumption | with_reducible exact ok32_gL _ _ | with_reducible exact ok32_zL _)) rfl) rfl ?_
            refine VList.go0 (n' := 34) rfl rfl (.move _ _ rfl) rfl ?_
            refine VList.go0 (n' := 35) rfl rfl (.extract _ _ _ _ rfl rfl) rfl ?_
            refine VList.go0 (n' := 36) rfl rfl (.extract _ _ _ _ rfl rfl) rfl ?_
            refine VList.go1 (n' := 37) rfl rfl (.alloc _ _ P_zero24 (List.cons_ne_nil _ _)) rfl ?_
            refine VList.goS (n' := 38) rfl rfl (.store _ _ _ _ _ _ _ rfl rfl rfl rfl P_sz24 (Nat.le_of_ble_eq_true rfl) rfl) rfl ?_
            refine VList.go0 (n' := 39) rfl rfl (.assign _ _ rfl) rfl ?_
            refine VList.nil (Then.go ?_)
            refine VCode.seq ?_
            refine VCode.region ?_
            refine VList.go0 (n' := 40) rfl rfl (.loadS _ _ _ _ _ _ rfl rfl P_agg24 P_sz24 (Nat.le_of_ble_eq_true rfl)) rfl ?_
            refine VList.go0 (n' := 41) rfl rfl (.loadS _ _ _ _ _ _ rfl rfl P_agg24 P_sz24 (Nat.le_of_ble_eq_true rfl)) rfl ?_
            refine VList.go0 (n' := 42) rfl rfl (Eff.callV0 rfl (ress_cons rfl (ress_cons rfl ress_nil)) (f29 _ _ _ _ (by first | assumption | with_reducible exact len_gL' _ _ | with_reducible exact len_zL' _) (by first | assumption | with_reducible exact len_gL' _ _ | with_reducible exact len_zL' _) (by first | assumption | with_reducible exact ok32_gL _ _ | with_reducible exact ok32_zL _) (by first | assumption | with_reducible exact ok32_gL _ _ | with_reducible exact ok32_zL _)) rfl) rfl ?_
            refine VList.go0 (n' := 43) rfl rfl (.move _ _ rfl) rfl ?_
            refine VList.go0 (n' := 44) rfl rfl (.extract _ _ _ _ rfl rfl) rfl ?_
            refine VList.go0 (n' := 45) rfl rfl (.extract _ _ _ _ rfl rfl) rfl ?_
            refine VList.go1 (n' := 46) rfl rfl (.alloc _ _ P_zero24 (List.cons_ne_nil _ _)) rfl ?_
            refine VList.goS (n' := 47) rfl rfl (.store _ _ _ _ _ _ _ rfl rfl rfl rfl P_sz24 (Nat.le_of_ble_eq_true rfl) rfl) rfl ?_
            refine VList.go0 (n' := 48) rfl rfl (.assign _ _ rfl) rfl ?_
            refine VList.nil (Then.go ?_)
            refine VCode.seq ?_
            refine VCode.seq ?_
            refine VCode.region ?_
            refine VList.go0 (n' := 49) rfl rfl (.move _ _ rfl) rfl ?_
            refine VList.go0 (n' := 50) rfl rfl (.bin _ _ _ _ _ _ _ _ rfl rfl rfl) rfl ?_
            refine VList.go0 (n' := 51) rfl rfl (.move _ _ rfl) rfl ?_
            refine VList.split (d := 134) _ rfl (fun hc5 => ?_) (fun hc5 => ?_)
            · replace hc5 := bne_iff_ne.1 hc5
              refine VList.skip (n' := 52) rfl rfl rfl ?_
              refine VList.skip (n' := 53) rfl rfl rfl ?_
              refine VList.go0 (n' := 54) rfl rfl (.pick _ _ _ _ _ rfl rfl) rfl ?_
              refine VList.nil (Then.go ?_)
              refine VCode.cond _ rfl (fun _ => ?_) (fun h_ => Bool.noConfusion h_)
              refine VCode.seq ?_
              refine VCode.region ?_
              refine VList.go0 (n' := 55) rfl rfl (.move _ _ rfl) rfl ?_
              refine VList.go0 (n' := 56) rfl rfl (.assign _ _ rfl) rfl ?_
              refine VList.nil (Then.go ?_)
              exact VCode.ret (Then.ret (⟨trivial, [boolB (true)], (resVars_cons (resVar_tmp rfl rfl) resVars_nil), rfl⟩))
            · replace hc5 := bne_eq_false_iff_eq.1 hc5
              refine VList.go0 (n' := 52) rfl rfl (.move _ _ rfl) rfl ?_
              refine VList.go0 (n' := 53) rfl rfl (.bin _ _ _ _ _ _ _ _ rfl rfl rfl) rfl ?_
              refine VList.go0 (n' := 54) rfl rfl (.pick _ _ _ _ _ rfl rfl) rfl ?_
              refine VList.nil (Then.go ?_)
              refine VCode.cond _ rfl (fun hc6 => ?_) (fun hc6 => ?_)
              · replace hc6 := bne_iff_ne.1 hc6
                refine VCode.seq ?_
                refine VCode.region ?_
                refine VList.go0 (n' := 55) rfl rfl (.move _ _ rfl) rfl ?_
                refine VList.go0 (n' := 56) rfl rfl (.assign _ _ rfl) rfl ?_
                refine VList.nil (Then.go ?_)
                exact VCode.ret (Then.ret (⟨trivial, [boolB (true)], (resVars_cons (resVar_tmp rfl rfl) resVars_nil), rfl⟩))
              · replace hc6 := bne_eq_false_iff_eq.1 hc6
                refine VCode.skip (Then.go ?_)
                refine VCode.seq ?_
                refine VCode.region ?_
                refine VList.go0 (n' := 55) rfl rfl (.loadS _ _ _ _ _ _ rfl rfl P_agg24 P_sz24 (Nat.le_of_ble_eq_true rfl)) rfl ?_
                refine VList.go0 (n' := 56) rfl rfl (.loadS _ _ _ _ _ _ rfl rfl P_agg24 P_sz24 (Nat.le_of_ble_eq_true rfl)) rfl ?_
                refine VList.go0 (n' := 57) rfl rfl (Eff.callV0 rfl (ress_cons rfl (ress_cons rfl ress_nil)) (f31 _ _ _ _ (by first | assumption | with_reducible exact len_gL' _ _ | with_reducible exact len_zL' _) (by first | assumption | with_reducible exact len_gL' _ _ | with_reducible exact len_zL' _) (by first | assumption | with_reducible exact ok32_gL _ _ | with_reducible exact ok32_zL _) (by first | assumption | with_reducible exact ok32_gL _ _ | with_reducible exact ok32_zL _)) rfl) rfl ?_
                refine VList.go0 (n' := 58) rfl rfl (.move _ _ rfl) rfl ?_
                refine VList.go0 (n' := 59) rfl rfl (.extract _ _ _ _ rfl rfl) rfl ?_
                refine VList.go0 (n' := 60) rfl rfl (.extract _ _ _ _ rfl rfl) rfl ?_
                refine VList.go1 (n' := 61) rfl rfl (.alloc _ _ P_zero24 (List.cons_ne_nil _ _)) rfl ?_
                refine VList.goS (n' := 62) rfl rfl (.store _ _ _ _ _ _ _ rfl rfl rfl rfl P_sz24 (Nat.le_of_ble_eq_true rfl) rfl) rfl ?_
                refine VList.go0 (n' := 63) rfl rfl (.assign _ _ rfl) rfl ?_
                refine VList.nil (Then.go ?_)
                refine VCode.seq ?_
                refine VCode.region ?_
                refine VList.go0 (n' := 64) rfl rfl (.loadS _ _ _ _ _ _ rfl rfl P_agg24 P_sz24 (Nat.le_of_ble_eq_true rfl)) rfl ?_
                refine VList.go0 (n' := 65) rfl rfl (.fieldAddr _ _ _ _ _ _ _ _ rfl P_fld24_1) rfl ?_
                refine VList.go0 (n' := 66) rfl rfl (.load1 _ _ _ _ _ _ rfl rfl P_agg22 rfl) rfl ?_
                refine VList.go0 (n' := 67) rfl rfl (Eff.int1 rfl rfl rfl) rfl ?_
                refine VList.go0 (n' := 68) rfl rfl (Eff.callV0 rfl (ress_cons rfl (ress_cons rfl ress_nil)) (f29 _ _ _ _ (by first | assumption | with_reducible exact len_gL' _ _ | with_reducible exact len_zL' _) (by first | assumption | with_reducible exact len_gL' _ _ | with_reducible exact len_zL' _) (by first | assumption | with_reducible exact ok32_gL _ _ | with_reducible exact ok32_zL _) (by first | assumption | with_reducible exact ok32_gL _ _ | with_reducible exact ok32_zL _)) rfl) rfl ?_
                refine VList.go0 (n' := 69) rfl rfl (.move _ _ rfl) rfl ?_
                refine VList.go0 (n' := 70) rfl rfl (.extract _ _ _ _ rfl rfl) rfl ?_
                refine VList.go0 (n' := 71) rfl rfl (.extract _ _ _ _ rfl rfl) rfl ?_
                refine VList.go1 (n' := 72) rfl rfl (.alloc _ _ P_zero24 (List.cons_ne_nil _ _)) rfl ?_
                refine VList.goS (n' := 73) rfl rfl (.store _ _ _ _ _ _ _ rfl rfl rfl rfl P_sz24 (Nat.le_of_ble_eq_true rfl) rfl) rfl ?_
                refine VList.go0 (n' := 74) rfl rfl (.assign _ _ rfl) rfl ?_
                refine VList.nil (Then.go ?_)
                refine VCode.seq ?_
                refine VCode.region ?_
                refine VList.go0 (n' := 75) rfl rfl (.move _ _ rfl) rfl ?_
                refine VList.go0 (n' := 76) rfl rfl (.move _ _ rfl) rfl ?_
                refine VList.go0 (n' := 77) rfl rfl (.move _ _ rfl) rfl ?_
                refine VList.go0 (n' := 78) rfl rfl (Eff.castB (show (gE (validB (gN (validB (n) (A) && validB (k) (C)) (zOf (n) (A) * zOf (k) (C))) (gL (validB (n) (A) && validB (k) (C)) (zOf (n) (A) * zOf (k) (C))) && validB (gN (validB (m) (B) && validB (k) (C)) (zOf (m) (B) * zOf (k) (C))) (gL (validB (m) (B) && validB (k) (C)) (zOf (m) (B) * zOf (k) (C)))) (((Int.gcd (zOf (gN (validB (n) (A) && validB (k) (C)) (zOf (n) (A) * zOf (k) (C))) (gL (validB (n) (A) && validB (k) (C)) (zOf (n) (A) * zOf (k) (C)))) (zOf (gN (validB (m) (B) && validB (k) (C)) (zOf (m) (B) * zOf (k) (C))) (gL (validB (m) (B) && validB (k) (C)) (zOf (m) (B) * zOf (k) (C)))) : Nat) : Int)) == 0) = true from beq_yes (eu_mul (o2 := true) (vv (valid_gg _ _) (valid_gg _ _)) rfl (by assumption) (by assumption) zg (val_abs (n := k) oC)).1) (.bin _ _ _ _ _ _ _ _ rfl rfl rfl)) rfl ?_
                refine VList.go0 (n' := 79) rfl rfl (.pick _ _ _ _ _ rfl rfl) rfl ?_
                refine VList.go0 (n' := 80) rfl rfl (.move _ _ rfl) rfl ?_
                refine VList.go0 (n' := 81) rfl rfl (.move _ _ rfl) rfl ?_
                refine VList.go0 (n' := 82) rfl rfl (Eff.castB (show (gE (validB (gN (validB (n) (A) && validB (m) (B)) (((Int.gcd (zOf (n) (A)) (zOf (m) (B)) : Nat) : Int))) (gL (validB (n) (A) && validB (m) (B)) (((Int.gcd (zOf (n) (A)) (zOf (m) (B)) : Nat) : Int))) && validB (false) (C)) (zOf (gN (validB (n) (A) && validB (m) (B)) (((Int.gcd (zOf (n) (A)) (zOf (m) (B)) : Nat) : Int))) (gL (validB (n) (A) && validB (m) (B)) (((Int.gcd (zOf (n) (A)) (zOf (m) (B)) : Nat) : Int))) * zOf (false) (C)) == 0) = true from beq_yes (eu_mul (o1 := true) (x := zOf n A) (y := zOf m B) (z := zOf k C) rfl (vv (valid_gg _ _) (valid_mag vc)) (o3 := validB n A && validB k C) (o4 := validB m B && validB k C) (by assumption) (by assumption) zg (val_abs (n := k) oC)).2.1) (.bin _ _ _ _ _ _ _ _ rfl rfl rfl)) rfl ?_
                refine VList.go0 (n' := 83) rfl rfl (.pick _ _ _ _ _ rfl rfl) rfl ?_
                refine VList.go0 (n' := 84) rfl rfl (.move _ _ rfl) rfl ?_
                refine VList.go0 (n' := 85) rfl rfl (.loadS _ _ _ _ _ _ rfl rfl P_agg24 P_sz24 (Nat.le_of_ble_eq_true rfl)) rfl ?_
                refine VList.go0 (n' := 86) rfl rfl (.loadS _ _ _ _ _ _ rfl rfl P_agg24 P_sz24 (Nat.le_of_ble_eq_true rfl)) rfl ?_
                refine VList.go0 (n' := 87) rfl rfl (Eff.castB (show (sameB (gN (validB (gN (validB (n) (A) && validB (k) (C)) (zOf (n) (A) * zOf (k) (C))) (gL (validB (n) (A) && validB (k) (C)) (zOf (n) (A) * zOf (k) (C))) && validB (gN (validB (m) (B) && validB (k) (C)) (zOf (m) (B) * zOf (k) (C))) (gL (validB (m) (B) && validB (k) (C)) (zOf (m) (B) * zOf (k) (C)))) (((Int.gcd (zOf (gN (validB (n) (A) && validB (k) (C)) (zOf (n) (A) * zOf (k) (C))) (gL (validB (n) (A) && validB (k) (C)) (zOf (n) (A) * zOf (k) (C)))) (zOf (gN (validB (m) (B) && validB (k) (C)) (zOf (m) (B) * zOf (k) (C))) (gL (validB (m) (B) && validB (k) (C)) (zOf (m) (B) * zOf (k) (C)))) : Nat) : Int))) (gL (validB (gN (validB (n) (A) && validB (k) (C)) (zOf (n) (A) * zOf (k) (C))) (gL (validB (n) (A) && validB (k) (C)) (zOf (n) (A) * zOf (k) (C))) && validB (gN (validB (m) (B) && validB (k) (C)) (zOf (m) (B) * zOf (k) (C))) (gL (validB (m) (B) && validB (k) (C)) (zOf (m) (B) * zOf (k) (C)))) (((Int.gcd (zOf (gN (validB (n) (A) && validB (k) (C)) (zOf (n) (A) * zOf (k) (C))) (gL (validB (n) (A) && validB (k) (C)) (zOf (n) (A) * zOf (k) (C)))) (zOf (gN (validB (m) (B) && validB (k) (C)) (zOf (m) (B) * zOf (k) (C))) (gL (validB (m) (B) && validB (k) (C)) (zOf (m) (B) * zOf (k) (C)))) : Nat) : Int))) (gN (validB (gN (validB (n) (A) && validB (m) (B)) (((Int.gcd (zOf (n) (A)) (zOf (m) (B)) : Nat) : Int))) (gL (validB (n) (A) && validB (m) (B)) (((Int.gcd (zOf (n) (A)) (zOf (m) (B)) : Nat) : Int))) && validB (false) (C)) (zOf (gN (validB (n) (A) && validB (m) (B)) (((Int.gcd (zOf (n) (A)) (zOf (m) (B)) : Nat) : Int))) (gL (validB (n) (A) && validB (m) (B)) (((Int.gcd (zOf (n) (A)) (zOf (m) (B)) : Nat) : Int))) * zOf (false) (C))) (gL (validB (gN (validB (n) (A) && validB (m) (B)) (((Int.gcd (zOf (n) (A)) (zOf (m) (B)) : Nat) : Int))) (gL (validB (n) (A) && validB (m) (B)) (((Int.gcd (zOf (n) (A)) (zOf (m) (B)) : Nat) : Int))) && validB (false) (C)) (zOf (gN (validB (n) (A) && validB (m) (B)) (((Int.gcd (zOf (n) (A)) (zOf (m) (B)) : Nat) : Int))) (gL (validB (n) (A) && validB (m) (B)) (((Int.gcd (zOf (n) (A)) (zOf (m) (B)) : Nat) : Int))) * zOf (false) (C)))) = true from (eu_mul (vv (valid_gg _ _) (valid_gg _ _)) (vv (valid_gg _ _) (valid_mag vc)) (by assumption) (by assumption) zg (val_abs (n := k) oC)).2.2) (.callF _ _ _ _ _ _ rfl (ress_cons rfl (ress_cons rfl ress_nil)) (f21 _ _ _ _ (by first | assumption | with_reducible exact len_gL' _ _ | with_reducible exact len_zL' _) (by first | assumption | with_reducible exact len_gL' _ _ | with_reducible exact len_zL' _)) rfl)) rfl ?_
                refine VList.go0 (n' := 88) rfl rfl (.pick _ _ _ _ _ rfl rfl) rfl ?_
                refine VList.go0 (n' := 89) rfl rfl (.assign _ _ rfl) rfl ?_
                refine VList.nil (Then.go ?_)
                exact VCode.ret (⟨trivial, [boolB (true)], (resVars_cons (resVar_tmp rfl rfl) resVars_nil), rfl⟩)
end Go.VL

set_option linter.unusedVariables false
set_option linter.unusedSimpArgs false
namespace Go.Proofs.Ytipajnobkladeaa
open Go.ChangeShapes Go.WideShapes Go.ChangeAt Go.RowKit Go.VL

set_option maxRecDepth 100000 in
theorem integerEuclid_lifted (os : Os) (started : os.Started) (H : Type) (enc : TypeId × Value → H) :
    ReturnsInHanded {} Try.checked os 8 .any (Rows.integerEuclidSpec.pre6 enc Try.prog Try.f8 Rows.integerEuclidRow.domain false) (Rows.integerEuclidSpec.post enc Try.prog Try.f8 false true false false) := by
  refine returnsInHanded_of_change (C := Try.checked) Try_own started (by kernel_rfl) Try.func8
    (ChangeSpec.witness6 (enc := enc) (C := Try.checked) false ⟨#[], #[.agg #[.bool false, .slice none 0 0], .agg #[.bool false, .slice none 0 0], .agg #[.bool false, .slice none 0 0]], []⟩ 8 (by kernel_rfl) (by kernel_rfl) (by kernel_rfl) (by kernel_rfl)) ?_
  intro W base args ds gs before hval0 hW hcnd _
  have hval : ∀ (j : Nat) t v, Try.f8.params[j]? = some t → args[j]? = some v → Value.okWide Try.prog W .any base t v := hval0
  have hW' := hW
  obtain ⟨p, q, hA0, hV, rfl, hfz, hnd⟩ := hW
  have hA : DataW.TrodAll enc Try.prog W 0 (fun _ => true) true Try.f8.params.toList args.toList ds p := hA0
  have hA1 := hA
  rw [Try.params8] at hA hval
  obtain ⟨v0, v1, v2, d0, d1, d2, p0, p1, p2, rfl, rfl, rfl, h0, h1, h2⟩ := trodAll_three hA
  obtain ⟨rfl, rfl⟩ := trodVars_none hV
  obtain ⟨n0, L0, r0, o0, l0⟩ := open_api (hval 0 24 v0 rfl rfl) h0
  obtain ⟨n1, L1, r1, o1, l1⟩ := open_api (hval 1 24 v1 rfl rfl) h1
  obtain ⟨n2, L2, r2, o2, l2⟩ := open_api (hval 2 24 v2 rfl rfl) h2
  simp only [List.append_nil] at hW'
  have hlt : ∀ x ∈ p0 ++ p1 ++ p2, x.block < W.heap.size := fun x hx => hW'.lt x hx
  have hread : ∀ t ∈ Try.f8.params.toList, Try.prog.readableRec t = true ∧ t < Try.prog.types.size := by rw [Try.params8]; exact types_cons T24 (types_cons T24 (types_cons T24 (types_nil)))
  refine ((f8 n0 L0 n1 L1 n2 L2 l0 l1 l2 o0 o1 o2).runs (xs := [v0, v1, v2]) rfl (reps_cons r0 (reps_cons r1 (reps_cons r2 reps_nil)))).mono fun e W' ⟨he, hb⟩ => ?_
  subst he
  exact ⟨_, rfl, post_of_below (pa := _) (pv := []) hW' (fun _ _ _ => trodAll_mk1 shut_true) (fun sp hsp => args_stay Try_laidOut hb hread hA1 hlt hsp) (fun _ _ => rfl) (by simp) hb (ok_one (by kernel_rfl) rfl ok_true)⟩

theorem integerEuclid_facts : joinedFacts Try.pinned.checked.prog 8 Try.f8 Rows.integerEuclidSpec Rows.integerEuclidRow = true := by
  unfold joinedFacts
  rw [head_may, head_lifts, head_make]
  kernel_rfl

theorem integerEuclid_holds : Rows.IntegerEuclidSaid :=
  OpenClaim.holds_of_wide 8 Try.f8 rfl rfl rfl rfl rfl rfl rfl ⟨rfl, rfl, rfl, rfl, rfl⟩ rfl rfl rfl rfl rfl (by kernel_rfl) Try.func8 integerEuclid_facts
    (of_decide_eq_true (by kernel_rfl)) (by unfold Func.isWrapper; rw [if_neg (of_decide_eq_false (by kernel_rfl))]; exact ⟨rfl, rfl⟩)
    (fun os started H enc _ => integerEuclid_lifted os started H enc)

end Go.Proofs.Ytipajnobkladeaa
