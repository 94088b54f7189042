/- IntegerSquares returns true for every input and leaves the input as it was. No condition. -/
import Derived.Test.YtipajnobkladeaaK3
/- Plain laws that the statements about rings and orders of integers need. No program here. -/
set_option linter.unusedVariables false
set_option linter.unusedSimpArgs false
namespace Go.VL

theorem same_gg {ok ok' : Bool} {z z' : Int} (h : ok = true) (h' : ok' = true) (e : z = z') : sameB (gN ok z) (gL ok z) (gN ok' z') (gL ok' z') = true := by
  subst e; rw [h, h']; exact sameB_refl _ _
theorem gz {ok : Bool} {z : Int} (h : gE ok z = 0) : zOf (gN ok z) (gL ok z) = z := zOf_gg (gE_zero.1 h).1 (gE_zero.1 h).2
theorem go {ok : Bool} {z : Int} (h : gE ok z = 0) : ok = true := (gE_zero.1 h).1
theorem ring_add {o1 o2 o3 o4 : Bool} {a b c : Int} (e : gE o1 (a + b) = 0) (f : gE o2 (zOf (gN o1 (a + b)) (gL o1 (a + b)) + c) = 0) (g : gE o3 (b + c) = 0) (h : gE o4 (a + zOf (gN o3 (b + c)) (gL o3 (b + c))) = 0) :
    sameB (gN o2 (zOf (gN o1 (a + b)) (gL o1 (a + b)) + c)) (gL o2 (zOf (gN o1 (a + b)) (gL o1 (a + b)) + c)) (gN o4 (a + zOf (gN o3 (b + c)) (gL o3 (b + c)))) (gL o4 (a + zOf (gN o3 (b + c)) (gL o3 (b + c)))) = true :=
  same_gg (go f) (go h) (by rw [gz e, gz g]; omega)
theorem ring_mul {o1 o2 o3 o4 : Bool} {a b c : Int} (e : gE o1 (a * b) = 0) (f : gE o2 (zOf (gN o1 (a * b)) (gL o1 (a * b)) * c) = 0) (g : gE o3 (b * c) = 0) (h : gE o4 (a * zOf (gN o3 (b * c)) (gL o3 (b * c))) = 0) :
    sameB (gN o2 (zOf (gN o1 (a * b)) (gL o1 (a * b)) * c)) (gL o2 (zOf (gN o1 (a * b)) (gL o1 (a * b)) * c)) (gN o4 (a * zOf (gN o3 (b * c)) (gL o3 (b * c)))) (gL o4 (a * zOf (gN o3 (b * c)) (gL o3 (b * c)))) = true :=
  same_gg (go f) (go h) (by rw [gz e, gz g, Int.mul_assoc])
theorem ring_dist {o1 o2 o3 o4 o5 : Bool} {a b c : Int} (e : gE o1 (a * b) = 0) (f : gE o2 (a * c) = 0) (g : gE o3 (b + c) = 0) (h : gE o4 (a * zOf (gN o3 (b + c)) (gL o3 (b + c))) = 0)
    (i : gE o5 (zOf (gN o1 (a * b)) (gL o1 (a * b)) + zOf (gN o2 (a * c)) (gL o2 (a * c))) = 0) :
    sameB (gN o4 (a * zOf (gN o3 (b + c)) (gL o3 (b + c)))) (gL o4 (a * zOf (gN o3 (b + c)) (gL o3 (b + c)))) (gN o5 (zOf (gN o1 (a * b)) (gL o1 (a * b)) + zOf (gN o2 (a * c)) (gL o2 (a * c)))) (gL o5 (zOf (gN o1 (a * b)) (gL o1 (a * b)) + zOf (gN o2 (a * c)) (gL o2 (a * c)))) = true :=
  same_gg (go h) (go i) (by rw [gz e, gz f, gz g, Int.mul_add])
theorem ring_dist' {o1 o2 o3 o4 o5 : Bool} {a b c : Int} (e : gE o1 (a * b) = 0) (f : gE o2 (a * c) = 0) (g : gE o3 (b - c) = 0) (h : gE o4 (a * zOf (gN o3 (b - c)) (gL o3 (b - c))) = 0)
    (i : gE o5 (zOf (gN o1 (a * b)) (gL o1 (a * b)) - zOf (gN o2 (a * c)) (gL o2 (a * c))) = 0) :
    sameB (gN o4 (a * zOf (gN o3 (b - c)) (gL o3 (b - c)))) (gL o4 (a * zOf (gN o3 (b - c)) (gL o3 (b - c)))) (gN o5 (zOf (gN o1 (a * b)) (gL o1 (a * b)) - zOf (gN o2 (a * c)) (gL o2 (a * c)))) (gL o5 (zOf (gN o1 (a * b)) (gL o1 (a * b)) - zOf (gN o2 (a * c)) (gL o2 (a * c)))) = true :=
  same_gg (go h) (go i) (by rw [gz e, gz f, gz g, Int.mul_sub])
theorem comm_E {u v : Bool} {x y : Int} (h : x = y) : gE (u && v) x = gE (v && u) y := by rw [Bool.and_comm, h]
theorem comm_same {u v : Bool} {x y : Int} (h : x = y) : sameB (gN (u && v) x) (gL (u && v) x) (gN (v && u) y) (gL (v && u) y) = true := by rw [Bool.and_comm, h]; exact sameB_refl _ _
theorem cmp3_anti (a b : Int) : cmp3 a b = -cmp3 b a := by
  unfold cmp3
  rcases Int.lt_trichotomy a b with h | h | h
  · rw [if_pos h, if_neg (by omega), if_neg (by omega)]
  · subst h; simp
  · rw [if_neg (by omega), if_neg (by omega), if_pos h]; rfl
theorem cmp3_le {a b : Int} : cmp3 a b ≤ 0 ↔ a ≤ b := by unfold cmp3; split <;> (try split) <;> omega
theorem cmp3_gt {a b : Int} : cmp3 a b > 0 ↔ b < a := by unfold cmp3; split <;> (try split) <;> omega
theorem cmp3_le' {a b : Int} : cmp3 a b ≥ 0 ↔ b ≤ a := by unfold cmp3; split <;> (try split) <;> omega
theorem cmp_same {n m : Bool} {A B : List Int} (oA : ok32 A) (oB : ok32 B) (va : validB n A = true) (vb : validB m B = true) : (cmp3 (zOf n A) (zOf m B) == 0) = sameB n A m B := by
  rw [Bool.eq_iff_iff, beq_iff_eq, cmp3_zero, sameB_iff]
  refine ⟨fun h => ?_, fun h => by rw [h.1, h.2]⟩
  have e1 := z_of oA va
  have e2 := z_of oB vb
  rw [h] at e1
  exact ⟨e1.1.symm.trans e2.1, e1.2.symm.trans e2.2⟩
theorem cmp3_shift {a b : Int} (c : Int) : cmp3 (a + c) (b + c) = cmp3 a b := by
  unfold cmp3
  rcases Int.lt_trichotomy a b with h | h | h
  · rw [if_pos h, if_pos (by omega)]
  · subst h; simp
  · rw [if_neg (by omega), if_neg (by omega), if_neg (by omega), if_neg (by omega)]
theorem in_zero : inB 0 = true := small_in (by decide) (by decide)
theorem ord_diff {o : Bool} {a b : Int} (h : gE o (a - b) = 0) : cC (validB (gN o (a - b)) (gL o (a - b)) && validB (zN 0) (zL 0)) (zOf (gN o (a - b)) (gL o (a - b))) (zOf (zN 0) (zL 0)) = cmp3 a b := by
  rw [valid_gg, valid_zz, cC_true (ok := true && true) rfl, gz h, zOf_z in_zero]
  have := cmp3_shift (a := a - b) (b := 0) b
  rw [show a - b + b = a by omega, show 0 + b = b by omega] at this
  exact this.symm
theorem ord_add {o1 o2 : Bool} {a b c : Int} (h1 : gE o1 (a + c) = 0) (h2 : gE o2 (b + c) = 0) :
    cC (validB (gN o1 (a + c)) (gL o1 (a + c)) && validB (gN o2 (b + c)) (gL o2 (b + c))) (zOf (gN o1 (a + c)) (gL o1 (a + c))) (zOf (gN o2 (b + c)) (gL o2 (b + c))) = cmp3 a b := by
  rw [valid_gg, valid_gg, cC_true (ok := true && true) rfl, gz h1, gz h2]
  exact cmp3_shift c
theorem beq_bool {x y : Bool} (h : x = y) : (x == y) = true := by subst h; simp
theorem vv {u v : Bool} (h1 : u = true) (h2 : v = true) : (u && v) = true := by rw [h1, h2]; rfl
end Go.VL

/- Plain laws that the statements about squares and division of integers need. No program here. -/
set_option linter.unusedVariables false
set_option linter.unusedSimpArgs false
namespace Go.VL

theorem in_le {x y : Int} (h : inB y = true) (h0 : 0 ≤ x) (h1 : x ≤ y) : inB x = true := by
  unfold inB at *; rw [decide_eq_true_iff] at *; omega
theorem in_abs {x : Int} (h0 : 0 ≤ x) (h1 : x < limit) : inB x = true := by unfold inB; rw [decide_eq_true_iff]; omega
theorem in_lt {x : Int} (h : inB x = true) : x < limit := by unfold inB at h; rw [decide_eq_true_iff] at h; omega
theorem four_limit : 16 < limit := by
  unfold limit
  have h3 := pow_mono (show 1 ≤ 128 by omega)
  have h4 : (4294967296 : Int) ^ 1 = 4294967296 := rfl
  rw [h4] at h3; omega
section sq
variable {n : Bool} {A : List Int}
theorem sq_z (va : validB n A = true) (oA : ok32 A) (hn : n = false) : 0 ≤ zOf n A ∧ inB (zOf n A) = true ∧ sqOk (validB n A) (zOf n A) = true := by
  have h := val_nonneg oA
  have e : zOf n A = val A := by rw [hn]; rfl
  refine ⟨by omega, in_of_valid oA va, ?_⟩
  unfold sqOk; rw [va]; simp; omega
theorem sq_in {z : Int} (h0 : 0 ≤ z) (hz : inB z = true) : inB (isq z) = true ∧ inB (isq z * isq z) = true ∧ inB (isq z + 1) = true := by
  obtain ⟨s0, s1, s2⟩ := isq_spec h0
  have h1 := isq_le h0
  refine ⟨in_le hz s0 h1, in_le hz (Int.mul_nonneg s0 s0) s1, ?_⟩
  by_cases h : isq z ≤ 2
  · have := four_limit; exact in_abs (by omega) (by omega)
  · have h2 := Int.mul_le_mul_of_nonneg_left (show 2 ≤ isq z by omega) s0
    exact in_le hz (by omega) (by omega)
theorem sq_x (va : validB n A = true) (oA : ok32 A) (hn : n = false) : zOf (gN (sqOk (validB n A) (zOf n A)) (isq (zOf n A))) (gL (sqOk (validB n A) (zOf n A)) (isq (zOf n A))) = isq (zOf n A) := by
  obtain ⟨h1, h2, h3⟩ := sq_z va oA hn
  exact zOf_gg h3 (sq_in h1 h2).1
theorem sqE_zero (va : validB n A = true) (oA : ok32 A) (hn : n = false) : sqE (validB n A) (zOf n A) = 0 := by
  obtain ⟨h1, h2, h3⟩ := sq_z va oA hn
  unfold sqE; rw [if_pos va, if_neg (by omega)]
end sq
theorem gE_in {ok : Bool} {z : Int} (h : ok = true) (hz : inB z = true) : gE ok z = 0 := gE_zero.2 ⟨h, hz⟩
theorem in_one : inB 1 = true := small_in (by decide) (by decide)
theorem isq_sq {z : Int} (h : 0 ≤ z) : isq (z * z) = z := isq_uniq h (Int.le_refl _) (by rw [Int.add_mul, Int.mul_add]; omega)
theorem gE_two {ok : Bool} {z : Int} (h : ok = true) (h2 : gE ok z ≠ 2) : gE ok z = 0 := by
  unfold gE at *; rw [if_pos h] at *; unfold zE at *; split <;> simp_all
/-- The quotient of two integers in the range is in the range. -/
theorem fdiv_in {x y : Int} (hx : inB x = true) (hy : y ≠ 0) : inB (x.fdiv y) = true := by
  obtain ⟨n, a, ha, rfl⟩ : ∃ (n : Bool) (a : Int), 0 ≤ a ∧ x = sg n a := by
    by_cases h : x < 0
    · exact ⟨true, -x, by omega, by simp [sg]⟩
    · exact ⟨false, x, by omega, by simp [sg]⟩
  obtain ⟨m, b, hb, rfl⟩ : ∃ (m : Bool) (b : Int), 0 < b ∧ y = sg m b := by
    by_cases h : y < 0
    · exact ⟨true, -y, by omega, by simp [sg]⟩
    · exact ⟨false, y, by omega, by simp [sg]⟩
  rw [inB_sg ha, decide_eq_true_iff] at hx
  have q0 := Int.ediv_nonneg ha (Int.le_of_lt hb)
  have q1 := Int.ediv_le_self b ha
  by_cases h : n = m
  · subst h
    rw [(fdiv_same ha hb).1]; exact in_abs q0 (by omega)
  · by_cases hr : a % b = 0
    · rw [(fdiv_even h ha hb hr).1]
      unfold inB; rw [decide_eq_true_iff]; omega
    · rw [(fdiv_odd h ha hb hr).1]
      have hb1 : b ≠ 1 := fun e => hr (by rw [e]; exact Int.emod_one _)
      have h2 : a / b * 2 ≤ a := by
        have h3 := Int.mul_ediv_self_le (x := a) (k := b) (by omega)
        have h4 := Int.mul_le_mul_of_nonneg_right (show 2 ≤ b by omega) q0
        rw [Int.mul_comm (a / b) 2]; omega
      have h5 : a ≠ 0 := fun e => hr (by rw [e]; exact Int.zero_emod _)
      unfold inB; rw [decide_eq_true_iff]; omega
theorem fmod_in {x y : Int} (hy : y ≠ 0) (hyb : inB y = true) : inB (x.fmod y) = true ∧ ((x.fmod y).natAbs < y.natAbs) ∧ (x.fmod y = 0 ∨ (x.fmod y < 0 ↔ y < 0)) := by
  have h : (x.fmod y).natAbs < y.natAbs ∧ (x.fmod y = 0 ∨ (x.fmod y < 0 ↔ y < 0)) := by
    obtain ⟨n, a, ha, rfl⟩ : ∃ (n : Bool) (a : Int), 0 ≤ a ∧ x = sg n a := by
      by_cases h : x < 0
      · exact ⟨true, -x, by omega, by simp [sg]⟩
      · exact ⟨false, x, by omega, by simp [sg]⟩
    obtain ⟨m, b, hb, rfl⟩ : ∃ (m : Bool) (b : Int), 0 < b ∧ y = sg m b := by
      by_cases h : y < 0
      · exact ⟨true, -y, by omega, by simp [sg]⟩
      · exact ⟨false, y, by omega, by simp [sg]⟩
    have m0 := Int.emod_nonneg a (show b ≠ 0 by omega)
    have m1 := Int.emod_lt_of_pos a hb
    by_cases h : n = m
    · subst h
      rw [(fdiv_same ha hb).2]
      cases n <;> simp [sg] <;> omega
    · by_cases hr : a % b = 0
      · rw [(fdiv_even h ha hb hr).2, hr]
        cases m <;> simp [sg] <;> omega
      · rw [(fdiv_odd h ha hb hr).2]
        cases m <;> simp [sg] <;> omega
  refine ⟨?_, h⟩
  unfold inB at *; rw [decide_eq_true_iff] at *; omega
theorem sq_c {ok v : Bool} {x q w : Int} (hx : x = q) (ho : ok = true) (hq : inB (q * q) = true) (hv : v = true) : cC (validB (gN ok (x * x)) (gL ok (x * x)) && v) (zOf (gN ok (x * x)) (gL ok (x * x))) w = cmp3 (q * q) w := by
  subst hx; rw [valid_gg, hv, cC_true (ok := true && true) rfl, zOf_gg ho hq]
theorem sq_d {ok v : Bool} {x q w : Int} (hx : x = q) (ho : ok = true) (h2 : gE ok (x * x) ≠ 2) (hv : v = true) : cC (validB (gN ok (x * x)) (gL ok (x * x)) && v) (zOf (gN ok (x * x)) (gL ok (x * x))) w = cmp3 (q * q) w := by
  have h := gE_two ho h2
  subst hx; rw [valid_gg, hv, cC_true (ok := true && true) rfl, gz h]
theorem cmp3_one {a w : Int} (h : w < a) : cmp3 a w = 1 := by unfold cmp3; rw [if_neg (by omega), if_neg (by omega)]
theorem sq_is {v : Bool} {z : Int} (h : sqOk v z = true) : sqB v z = (cmp3 (isq z * isq z) z == 0) := by
  rw [sqB, h, Bool.true_and, Bool.eq_iff_iff, beq_iff_eq, cmp3_zero, decide_eq_true_iff]
theorem sqE_pos {v : Bool} {z : Int} (h : v = true) (hz : 0 ≤ z) : sqE v z = 0 := by unfold sqE; rw [if_pos h, if_neg (by omega)]
theorem sqB_sq {v : Bool} {z' z : Int} (h : v = true) (e : z' = z * z) (hz : 0 ≤ z) : sqB v z' = true := by
  subst e
  have h1 := Int.mul_nonneg hz hz
  unfold sqB sqOk
  rw [h, isq_sq hz]; simp; exact h1
theorem sq_back {v n : Bool} {z' : Int} {A : List Int} (h : v = true) (e : z' = zOf n A * zOf n A) (hz : 0 ≤ zOf n A) (oA : ok32 A) (va : validB n A = true) : sameB (gN (sqOk v z') (isq z')) (gL (sqOk v z') (isq z')) n A = true := by
  subst e
  have h1 := Int.mul_nonneg hz hz
  have h2 : sqOk v (zOf n A * zOf n A) = true := by unfold sqOk; rw [h]; simp; exact h1
  rw [h2, isq_sq hz, (gg_yes rfl).1, (gg_yes rfl).2, (z_of oA va).1, (z_of oA va).2]
  exact sameB_refl _ _
/-- Division. -/
theorem dmE_bad {ok : Bool} {x y : Int} (h : ok = false) : dmE ok x y = 1 := by unfold dmE; rw [h]; rfl
theorem dmE_nil {ok : Bool} {x y : Int} (h : ok = true) (hy : y = 0) : dmE ok x y = 4 := by unfold dmE; rw [if_pos h, if_pos hy]
theorem dmE_yes {ok : Bool} {x y : Int} (h : ok = true) (hx : inB x = true) (hy : y ≠ 0) : dmE ok x y = 0 := by unfold dmE; rw [if_pos h, if_neg hy]; exact zE_in.2 (fdiv_in hx hy)
theorem okQ_yes {ok : Bool} {x y : Int} (h : ok = true) (hx : inB x = true) (hy : y ≠ 0) : okQ ok x y = true := by unfold okQ; rw [h, fdiv_in hx hy]; simp [hy]
theorem zOf_len {n : Bool} {A : List Int} (h : (A.length : Int) = 0) : zOf n A = 0 := by
  have : A = [] := List.length_eq_zero_iff.1 (by omega)
  subst this; cases n <;> rfl
theorem zOf_ne {n : Bool} {A : List Int} (oA : ok32 A) (v : validB n A = true) (h : (A.length : Int) ≠ 0) : zOf n A ≠ 0 := by
  obtain ⟨nA, lA, sA⟩ := valid_norm oA v
  have := norm_pos nA (fun e => h (by rw [e]; rfl))
  intro hc
  have := sg_zero.1 hc
  omega
theorem zOf_mag {n : Bool} {A : List Int} : zOf false A = val A := rfl
theorem val_abs {n : Bool} {A : List Int} (oA : ok32 A) : val A = ((zOf n A).natAbs : Int) := (sg_abs (val_nonneg oA)).symm
/-- A magnitude is a valid integer. -/
theorem valid_mag {n : Bool} {A : List Int} (v : validB n A = true) : validB false A = true := by
  by_cases h : A.length = 0
  · rw [validB_nil h]; rfl
  · unfold validB at *; rw [if_neg h] at *; exact v
theorem cE_yes {ok : Bool} (h : ok = true) : cE ok = 0 := cE_true h
theorem div_less {okr m : Bool} {r y : Int} {B : List Int} (oB : ok32 B) (vB' : validB m B = true) (ho : okr = true) (hr : inB r = true) (hy : y = zOf m B) (h : r.natAbs < y.natAbs) : cC (validB false (gL okr r) && validB false B) (zOf false (gL okr r)) (zOf false B) = -1 := by
  rw [valid_mag (n := gN okr r) (valid_gg okr r), valid_mag vB', cC_true (ok := true && true) rfl, zOf_mag (n := false), zOf_mag (n := false), val_abs (n := gN okr r) (ok32_gL _ _), val_abs (n := m) oB, zOf_gg ho hr]
  subst hy
  unfold cmp3; rw [if_pos (by omega)]
theorem div_sign {okr m : Bool} {r : Int} {B : List Int} (vB' : validB m B = true) (ho : okr = true) (hr : inB r = true) (h : r = 0 ∨ (r < 0 ↔ zOf m B < 0)) (hy : zOf m B ≠ 0)
    (hc : cC (validB (gN okr r) (gL okr r) && validB (zN 0) (zL 0)) (zOf (gN okr r) (gL okr r)) (zOf (zN 0) (zL 0)) ≠ 0) :
    cC (validB (gN okr r) (gL okr r) && validB (zN 0) (zL 0)) (zOf (gN okr r) (gL okr r)) (zOf (zN 0) (zL 0)) = cC (validB m B && validB (zN 0) (zL 0)) (zOf m B) (zOf (zN 0) (zL 0)) := by
  rw [valid_gg, valid_zz, cC_true (ok := true && true) rfl, zOf_gg ho hr, zOf_z in_zero] at *
  rw [vB', cC_true (ok := true && true) rfl]
  rw [Ne, cmp3_zero] at hc
  have h' := h.resolve_left hc
  unfold cmp3
  by_cases h0 : r < 0
  · rw [if_pos h0, if_pos (h'.1 h0)]
  · rw [if_neg h0, if_neg hc, if_neg (fun hh => h0 (h'.2 hh)), if_neg hy]
theorem div_back {g n o1 o2 : Bool} {x y : Int} {A : List Int} (oA : ok32 A) (va : validB n A = true) (hx : x = zOf n A) (hg : g = true) (hq : inB (x.fdiv y) = true) (hr : inB (x.fmod y) = true)
    (h1 : gE o1 (zOf (gN g (x.fdiv y)) (gL g (x.fdiv y)) * y) = 0)
    (h2 : gE o2 (zOf (gN o1 (zOf (gN g (x.fdiv y)) (gL g (x.fdiv y)) * y)) (gL o1 (zOf (gN g (x.fdiv y)) (gL g (x.fdiv y)) * y)) + zOf (gN g (x.fmod y)) (gL g (x.fmod y))) = 0) :
    sameB (gN o2 (zOf (gN o1 (zOf (gN g (x.fdiv y)) (gL g (x.fdiv y)) * y)) (gL o1 (zOf (gN g (x.fdiv y)) (gL g (x.fdiv y)) * y)) + zOf (gN g (x.fmod y)) (gL g (x.fmod y))))
      (gL o2 (zOf (gN o1 (zOf (gN g (x.fdiv y)) (gL g (x.fdiv y)) * y)) (gL o1 (zOf (gN g (x.fdiv y)) (gL g (x.fdiv y)) * y)) + zOf (gN g (x.fmod y)) (gL g (x.fmod y)))) n A = true := by
  have e : zOf (gN o1 (zOf (gN g (x.fdiv y)) (gL g (x.fdiv y)) * y)) (gL o1 (zOf (gN g (x.fdiv y)) (gL g (x.fdiv y)) * y)) + zOf (gN g (x.fmod y)) (gL g (x.fmod y)) = zOf n A := by
    rw [gz h1, zOf_gg hg hq, zOf_gg hg hr, ← hx]
    rw [Int.fmod_def x y, Int.mul_comm y]; omega
  rw [e, go h2, (gg_yes rfl).1, (gg_yes rfl).2, (z_of oA va).1, (z_of oA va).2]
  exact sameB_refl _ _
end Go.VL

/- Walks over the Go functions, printed by a program of this session over the kit's print, and by hand. -/
set_option linter.unusedVariables false
set_option linter.unusedSimpArgs false
namespace Go.VL
open Go.Proofs
theorem f17 (n : Bool) (A : List Int) (hA : A.length ≤ 9223372036854775807) (oA : ok32 A) : VF Try.prog 17 [.agg [boolB (n), u32S (A)]] (boolB true) := by
  refine VF_of P_mixed Try.func17 rfl rfl (by kernel_rfl) ?_
  refine VCode.seq ?_
  refine VCode.region ?_
  refine VList.go1 (n' := 1) rfl rfl (.box _ _ _ rfl (List.cons_ne_nil _ _) rfl) rfl ?_
  refine VList.go0 (n' := 2) rfl rfl (.assign _ _ rfl) rfl ?_
  refine VList.nil (Then.go ?_)
  refine VCode.seq ?_
  refine VCode.seq ?_
  refine VCode.region ?_
  refine VList.go0 (n' := 3) rfl rfl (.loadS _ _ _ _ _ _ rfl rfl P_agg24 P_sz24 (Nat.le_of_ble_eq_true rfl)) rfl ?_
  refine VList.go0 (n' := 4) rfl rfl (.callF _ _ _ _ _ _ rfl (ress_cons rfl ress_nil) (f26 _ _ (by first | omega | (simp; done) | (simp; omega))) rfl) rfl ?_
  refine VList.go0 (n' := 5) rfl rfl (.un _ _ _ _ _ rfl rfl) rfl ?_
  refine VList.go0 (n' := 6) rfl rfl (.move _ _ rfl) rfl ?_
  refine VList.split (d := 25) _ rfl (fun hc1 => ?_) (fun hc1 => ?_)
  · replace hc1 := (bnot_t hc1)
    refine VList.skip (n' := 7) rfl rfl rfl ?_
    refine VList.skip (n' := 8) rfl rfl rfl ?_
    refine VList.go0 (n' := 9) rfl rfl (.pick _ _ _ _ _ rfl rfl) rfl ?_
    refine VList.nil (Then.go ?_)
    refine VCode.cond _ rfl (fun _ => ?_) (fun h_ => Bool.noConfusion h_)
    refine VCode.seq ?_
    refine VCode.region ?_
    refine VList.go0 (n' := 10) rfl rfl (.callF _ _ _ _ _ _ rfl ress_nil (f20) rfl) rfl ?_
    refine VList.go0 (n' := 11) rfl rfl (.assign _ _ rfl) rfl ?_
    refine VList.nil (Then.go ?_)
    exact VCode.ret (Then.ret (⟨trivial, [boolB (true)], (resVars_cons (resVar_tmp rfl rfl) resVars_nil), rfl⟩))
  · replace hc1 := (bnot_f hc1)
    refine VList.go0 (n' := 7) rfl rfl (.fieldAddr _ _ _ _ _ _ _ _ rfl P_fld24_0) rfl ?_
    refine VList.go0 (n' := 8) rfl rfl (.load1 _ _ _ _ _ _ rfl rfl P_agg4 rfl) rfl ?_
    refine VList.go0 (n' := 9) rfl rfl (.pick _ _ _ _ _ rfl rfl) rfl ?_
    refine VList.nil (Then.go ?_)
    refine VCode.cond _ rfl (fun hc2 => ?_) (fun hc2 => ?_)
    · (try simp at hc2)
      refine VCode.seq ?_
      refine VCode.region ?_
      refine VList.go0 (n' := 10) rfl rfl (.callF _ _ _ _ _ _ rfl ress_nil (f20) rfl) rfl ?_
      refine VList.go0 (n' := 11) rfl rfl (.assign _ _ rfl) rfl ?_
      refine VList.nil (Then.go ?_)
      exact VCode.ret (Then.ret (⟨trivial, [boolB (true)], (resVars_cons (resVar_tmp rfl rfl) resVars_nil), rfl⟩))
    · (try simp at hc2)
      refine VCode.skip (Then.go ?_)
      refine VCode.seq ?_
      have va : validB n A = true := by assumption
      have hn : n = false := by first | assumption | simpa using hc2
      obtain ⟨z0, zin, sok⟩ := sq_z va oA hn
      obtain ⟨q1, q2, q3⟩ := sq_in z0 zin
      obtain ⟨s0, s1, s2⟩ := isq_spec z0
      have zx := sq_x va oA hn
      refine VCode.region ?_
      refine VList.go0 (n' := 10) rfl rfl (.loadS _ _ _ _ _ _ rfl rfl P_agg24 P_sz24 (Nat.le_of_ble_eq_true rfl)) rfl ?_
      refine VList.go0 (n' := 11) rfl rfl (Eff.callV0 rfl (ress_cons rfl ress_nil) (f44 _ _ (by first | assumption | with_reducible exact len_gL' _ _ | with_reducible exact len_zL' _) (by first | assumption | with_reducible exact ok32_gL _ _ | with_reducible exact ok32_zL _)) rfl) rfl ?_
      refine VList.go0 (n' := 12) rfl rfl (.move _ _ rfl) rfl ?_
      refine VList.go0 (n' := 13) rfl rfl (.extract _ _ _ _ rfl rfl) rfl ?_
      refine VList.go0 (n' := 14) rfl rfl (.extract _ _ _ _ rfl rfl) rfl ?_
      refine VList.go0 (n' := 15) rfl rfl (.extract _ _ _ _ rfl rfl) rfl ?_
      refine VList.go1 (n' := 16) rfl rfl (.alloc _ _ P_zero24 (List.cons_ne_nil _ _)) rfl ?_
      refine VList.goS (n' := 17) rfl rfl (.store _ _ _ _ _ _ _ rfl rfl rfl rfl P_sz24 (Nat.le_of_ble_eq_true rfl) rfl) rfl ?_
      refine VList.go0 (n' := 18) rfl rfl (.assign _ _ rfl) rfl ?_
      refine VList.go0 (n' := 19) rfl rfl (.assign _ _ rfl) rfl ?_
      refine VList.nil (Then.go ?_)
      refine VCode.seq ?_
      refine VCode.region ?_
      refine VList.go0 (n' := 20) rfl rfl (.loadS _ _ _ _ _ _ rfl rfl P_agg24 P_sz24 (Nat.le_of_ble_eq_true rfl)) rfl ?_
      refine VList.go0 (n' := 21) rfl rfl (.loadS _ _ _ _ _ _ rfl rfl P_agg24 P_sz24 (Nat.le_of_ble_eq_true rfl)) rfl ?_
      refine VList.go0 (n' := 22) rfl rfl (Eff.callV0 rfl (ress_cons rfl (ress_cons rfl ress_nil)) (f29 _ _ _ _ (by first | assumption | with_reducible exact len_gL' _ _ | with_reducible exact len_zL' _) (by first | assumption | with_reducible exact len_gL' _ _ | with_reducible exact len_zL' _) (by first | assumption | with_reducible exact ok32_gL _ _ | with_reducible exact ok32_zL _) (by first | assumption | with_reducible exact ok32_gL _ _ | with_reducible exact ok32_zL _)) rfl) rfl ?_
      refine VList.go0 (n' := 23) rfl rfl (.move _ _ rfl) rfl ?_
      refine VList.go0 (n' := 24) rfl rfl (.extract _ _ _ _ rfl rfl) rfl ?_
      refine VList.go0 (n' := 25) rfl rfl (.extract _ _ _ _ rfl rfl) rfl ?_
      refine VList.go1 (n' := 26) rfl rfl (.alloc _ _ P_zero24 (List.cons_ne_nil _ _)) rfl ?_
      refine VList.goS (n' := 27) rfl rfl (.store _ _ _ _ _ _ _ rfl rfl rfl rfl P_sz24 (Nat.le_of_ble_eq_true rfl) rfl) rfl ?_
      refine VList.go0 (n' := 28) rfl rfl (.assign _ _ rfl) rfl ?_
      refine VList.nil (Then.go ?_)
      refine VCode.seq ?_
      refine VCode.region ?_
      refine VList.go0 (n' := 29) rfl rfl (.loadS _ _ _ _ _ _ rfl rfl P_agg24 P_sz24 (Nat.le_of_ble_eq_true rfl)) rfl ?_
      refine VList.go0 (n' := 30) rfl rfl (.loadS _ _ _ _ _ _ rfl rfl P_agg24 P_sz24 (Nat.le_of_ble_eq_true rfl)) rfl ?_
      refine VList.go0 (n' := 31) rfl rfl (.callF _ _ _ _ _ _ rfl (ress_cons rfl (ress_cons rfl ress_nil)) (f33 _ _ _ _ (by first | assumption | with_reducible exact len_gL' _ _ | with_reducible exact len_zL' _) (by first | assumption | with_reducible exact len_gL' _ _ | with_reducible exact len_zL' _) (by first | assumption | with_reducible exact ok32_gL _ _ | with_reducible exact ok32_zL _) (by first | assumption | with_reducible exact ok32_gL _ _ | with_reducible exact ok32_zL _)) rfl) rfl ?_
      refine VList.go0 (n' := 32) rfl rfl (.move _ _ rfl) rfl ?_
      refine VList.go0 (n' := 33) rfl rfl (.extract _ _ _ _ rfl rfl) rfl ?_
      refine VList.go0 (n' := 34) rfl rfl (.extract _ _ _ _ rfl rfl) rfl ?_
      refine VList.go0 (n' := 35) rfl rfl (.assign _ _ rfl) rfl ?_
      refine VList.go0 (n' := 36) rfl rfl (.assign _ _ rfl) rfl ?_
      refine VList.nil (Then.go ?_)
      refine VCode.seq ?_
      refine VCode.draw (by kernel_rfl) ?_
      refine VLog.go0 (n' := 37) rfl rfl (.loadS _ _ _ _ _ _ rfl rfl P_agg24 P_sz24 (Nat.le_of_ble_eq_true rfl)) rfl ?_
      refine VLog.go0 (n' := 38) rfl rfl (Eff.callV0 rfl (ress_cons rfl ress_nil) (f28 _ (by first | omega | (simp; done) | (simp; omega)) (by first | omega | (simp; done) | (simp; omega))) rfl) rfl ?_
      refine VLog.go0 (n' := 39) rfl rfl (Eff.callV0 rfl (ress_cons rfl (ress_cons rfl ress_nil)) (f38 _ _ _ _ (by first | assumption | with_reducible exact len_gL' _ _ | with_reducible exact len_zL' _) (by first | assumption | with_reducible exact len_gL' _ _ | with_reducible exact len_zL' _) (by first | assumption | with_reducible exact ok32_gL _ _ | with_reducible exact ok32_zL _) (by first | assumption | with_reducible exact ok32_gL _ _ | with_reducible exact ok32_zL _)) rfl) rfl ?_
      refine VLog.go0 (n' := 40) rfl rfl (.move _ _ rfl) rfl ?_
      refine VLog.go0 (n' := 41) rfl rfl (.extract _ _ _ _ rfl rfl) rfl ?_
      refine VLog.go0 (n' := 42) rfl rfl (.extract _ _ _ _ rfl rfl) rfl ?_
      refine VLog.go1 (n' := 43) rfl rfl (.alloc _ _ P_zero24 (List.cons_ne_nil _ _)) rfl ?_
      refine VLog.goS (n' := 44) rfl rfl (.store _ _ _ _ _ _ _ rfl rfl rfl rfl P_sz24 (Nat.le_of_ble_eq_true rfl) rfl) rfl ?_
      refine VLog.go0 (n' := 45) rfl rfl (.assign _ _ rfl) rfl ?_
      refine VLog.nil ⟨by kernel_rfl, Then.go ?_⟩
      refine VCode.seq ?_
      refine VCode.region ?_
      refine VList.go0 (n' := 46) rfl rfl (.loadS _ _ _ _ _ _ rfl rfl P_agg24 P_sz24 (Nat.le_of_ble_eq_true rfl)) rfl ?_
      refine VList.go0 (n' := 47) rfl rfl (.loadS _ _ _ _ _ _ rfl rfl P_agg24 P_sz24 (Nat.le_of_ble_eq_true rfl)) rfl ?_
      refine VList.go0 (n' := 48) rfl rfl (Eff.callV0 rfl (ress_cons rfl (ress_cons rfl ress_nil)) (f29 _ _ _ _ (by first | assumption | with_reducible exact len_gL' _ _ | with_reducible exact len_zL' _) (by first | assumption | with_reducible exact len_gL' _ _ | with_reducible exact len_zL' _) (by first | assumption | with_reducible exact ok32_gL _ _ | with_reducible exact ok32_zL _) (by first | assumption | with_reducible exact ok32_gL _ _ | with_reducible exact ok32_zL _)) rfl) rfl ?_
      refine VList.go0 (n' := 49) rfl rfl (.move _ _ rfl) rfl ?_
      refine VList.go0 (n' := 50) rfl rfl (.extract _ _ _ _ rfl rfl) rfl ?_
      refine VList.go0 (n' := 51) rfl rfl (.extract _ _ _ _ rfl rfl) rfl ?_
      refine VList.go1 (n' := 52) rfl rfl (.alloc _ _ P_zero24 (List.cons_ne_nil _ _)) rfl ?_
      refine VList.goS (n' := 53) rfl rfl (.store _ _ _ _ _ _ _ rfl rfl rfl rfl P_sz24 (Nat.le_of_ble_eq_true rfl) rfl) rfl ?_
      refine VList.go0 (n' := 54) rfl rfl (.assign _ _ rfl) rfl ?_
      refine VList.nil (Then.go ?_)
      refine VCode.seq ?_
      refine VCode.region ?_
      refine VList.go0 (n' := 55) rfl rfl (.loadS _ _ _ _ _ _ rfl rfl P_agg24 P_sz24 (Nat.le_of_ble_eq_true rfl)) rfl ?_
      refine VList.go0 (n' := 56) rfl rfl (.loadS _ _ _ _ _ _ rfl rfl P_agg24 P_sz24 (Nat.le_of_ble_eq_true rfl)) rfl ?_
      refine VList.go0 (n' := 57) rfl rfl (.callF _ _ _ _ _ _ rfl (ress_cons rfl (ress_cons rfl ress_nil)) (f33 _ _ _ _ (by first | assumption | with_reducible exact len_gL' _ _ | with_reducible exact len_zL' _) (by first | assumption | with_reducible exact len_gL' _ _ | with_reducible exact len_zL' _) (by first | assumption | with_reducible exact ok32_gL _ _ | with_reducible exact ok32_zL _) (by first | assumption | with_reducible exact ok32_gL _ _ | with_reducible exact ok32_zL _)) rfl) rfl ?_
      refine VList.go0 (n' := 58) rfl rfl (.move _ _ rfl) rfl ?_
      refine VList.go0 (n' := 59) rfl rfl (.extract _ _ _ _ rfl rfl) rfl ?_
      refine VList.go0 (n' := 60) rfl rfl (.extract _ _ _ _ rfl rfl) rfl ?_
      refine VList.go0 (n' := 61) rfl rfl (.assign _ _ rfl) rfl ?_
      refine VList.go0 (n' := 62) rfl rfl (.assign _ _ rfl) rfl ?_
      refine VList.nil (Then.go ?_)
      refine VCode.join (α := (Unit)) (fun (u : (Unit)) => (1, sl [(1, .ptr 0 (0)), (16, vB (true))], en [(0, ⟨2, [vB (n), vS (A)], true⟩)])) (fun (u : (Unit)) => True) ?_ ?_
      · skip
        refine VCode.region ?_
        refine VList.go0 (n' := 63) rfl rfl (.callF _ _ _ _ _ _ rfl ress_nil (f20) rfl) rfl ?_
        refine VList.go0 (n' := 64) rfl rfl (.move _ _ rfl) rfl ?_
        refine VList.go0 (n' := 65) rfl rfl (.move _ _ rfl) rfl ?_
        refine VList.go0 (n' := 66) rfl rfl (Eff.castB (show (sqE (validB (n) (A)) (zOf (n) (A)) == 0) = true from beq_yes (sqE_zero va oA hn)) (.bin _ _ _ _ _ _ _ _ rfl rfl rfl)) rfl ?_
        refine VList.go0 (n' := 67) rfl rfl (.pick _ _ _ _ _ rfl rfl) rfl ?_
        refine VList.go0 (n' := 68) rfl rfl (.move _ _ rfl) rfl ?_
        refine VList.go0 (n' := 69) rfl rfl (.move _ _ rfl) rfl ?_
        refine VList.go0 (n' := 70) rfl rfl (Eff.castB (show (gE (validB (gN (sqOk (validB (n) (A)) (zOf (n) (A))) (isq (zOf (n) (A)))) (gL (sqOk (validB (n) (A)) (zOf (n) (A))) (isq (zOf (n) (A)))) && validB (gN (sqOk (validB (n) (A)) (zOf (n) (A))) (isq (zOf (n) (A)))) (gL (sqOk (validB (n) (A)) (zOf (n) (A))) (isq (zOf (n) (A))))) (zOf (gN (sqOk (validB (n) (A)) (zOf (n) (A))) (isq (zOf (n) (A)))) (gL (sqOk (validB (n) (A)) (zOf (n) (A))) (isq (zOf (n) (A)))) * zOf (gN (sqOk (validB (n) (A)) (zOf (n) (A))) (isq (zOf (n) (A)))) (gL (sqOk (validB (n) (A)) (zOf (n) (A))) (isq (zOf (n) (A))))) == 0) = true from beq_yes (gE_in (vv (valid_gg _ _) (valid_gg _ _)) (by rw [zx]; exact q2))) (.bin _ _ _ _ _ _ _ _ rfl rfl rfl)) rfl ?_
        refine VList.go0 (n' := 71) rfl rfl (.pick _ _ _ _ _ rfl rfl) rfl ?_
        refine VList.go0 (n' := 72) rfl rfl (.move _ _ rfl) rfl ?_
        refine VList.go0 (n' := 73) rfl rfl (.move _ _ rfl) rfl ?_
        refine VList.go0 (n' := 74) rfl rfl (Eff.castB (show (gE (validB (gN (sqOk (validB (n) (A)) (zOf (n) (A))) (isq (zOf (n) (A)))) (gL (sqOk (validB (n) (A)) (zOf (n) (A))) (isq (zOf (n) (A)))) && validB (zN (1)) (zL (1))) (zOf (gN (sqOk (validB (n) (A)) (zOf (n) (A))) (isq (zOf (n) (A)))) (gL (sqOk (validB (n) (A)) (zOf (n) (A))) (isq (zOf (n) (A)))) + zOf (zN (1)) (zL (1))) == 0) = true from beq_yes (gE_in (vv (valid_gg _ _) (valid_zz _)) (by rw [zx, zOf_z in_one]; exact q3))) (.bin _ _ _ _ _ _ _ _ rfl rfl rfl)) rfl ?_
        refine VList.go0 (n' := 75) rfl rfl (.pick _ _ _ _ _ rfl rfl) rfl ?_
        refine VList.go0 (n' := 76) rfl rfl (.move _ _ rfl) rfl ?_
        refine VList.go0 (n' := 77) rfl rfl (.move _ _ rfl) rfl ?_
        refine VList.go0 (n' := 78) rfl rfl (Eff.castB (show decide (cC (validB (gN (validB (gN (sqOk (validB (n) (A)) (zOf (n) (A))) (isq (zOf (n) (A)))) (gL (sqOk (validB (n) (A)) (zOf (n) (A))) (isq (zOf (n) (A)))) && validB (gN (sqOk (validB (n) (A)) (zOf (n) (A))) (isq (zOf (n) (A)))) (gL (sqOk (validB (n) (A)) (zOf (n) (A))) (isq (zOf (n) (A))))) (zOf (gN (sqOk (validB (n) (A)) (zOf (n) (A))) (isq (zOf (n) (A)))) (gL (sqOk (validB (n) (A)) (zOf (n) (A))) (isq (zOf (n) (A)))) * zOf (gN (sqOk (validB (n) (A)) (zOf (n) (A))) (isq (zOf (n) (A)))) (gL (sqOk (validB (n) (A)) (zOf (n) (A))) (isq (zOf (n) (A)))))) (gL (validB (gN (sqOk (validB (n) (A)) (zOf (n) (A))) (isq (zOf (n) (A)))) (gL (sqOk (validB (n) (A)) (zOf (n) (A))) (isq (zOf (n) (A)))) && validB (gN (sqOk (validB (n) (A)) (zOf (n) (A))) (isq (zOf (n) (A)))) (gL (sqOk (validB (n) (A)) (zOf (n) (A))) (isq (zOf (n) (A))))) (zOf (gN (sqOk (validB (n) (A)) (zOf (n) (A))) (isq (zOf (n) (A)))) (gL (sqOk (validB (n) (A)) (zOf (n) (A))) (isq (zOf (n) (A)))) * zOf (gN (sqOk (validB (n) (A)) (zOf (n) (A))) (isq (zOf (n) (A)))) (gL (sqOk (validB (n) (A)) (zOf (n) (A))) (isq (zOf (n) (A)))))) && validB (n) (A)) (zOf (gN (validB (gN (sqOk (validB (n) (A)) (zOf (n) (A))) (isq (zOf (n) (A)))) (gL (sqOk (validB (n) (A)) (zOf (n) (A))) (isq (zOf (n) (A)))) && validB (gN (sqOk (validB (n) (A)) (zOf (n) (A))) (isq (zOf (n) (A)))) (gL (sqOk (validB (n) (A)) (zOf (n) (A))) (isq (zOf (n) (A))))) (zOf (gN (sqOk (validB (n) (A)) (zOf (n) (A))) (isq (zOf (n) (A)))) (gL (sqOk (validB (n) (A)) (zOf (n) (A))) (isq (zOf (n) (A)))) * zOf (gN (sqOk (validB (n) (A)) (zOf (n) (A))) (isq (zOf (n) (A)))) (gL (sqOk (validB (n) (A)) (zOf (n) (A))) (isq (zOf (n) (A)))))) (gL (validB (gN (sqOk (validB (n) (A)) (zOf (n) (A))) (isq (zOf (n) (A)))) (gL (sqOk (validB (n) (A)) (zOf (n) (A))) (isq (zOf (n) (A)))) && validB (gN (sqOk (validB (n) (A)) (zOf (n) (A))) (isq (zOf (n) (A)))) (gL (sqOk (validB (n) (A)) (zOf (n) (A))) (isq (zOf (n) (A))))) (zOf (gN (sqOk (validB (n) (A)) (zOf (n) (A))) (isq (zOf (n) (A)))) (gL (sqOk (validB (n) (A)) (zOf (n) (A))) (isq (zOf (n) (A)))) * zOf (gN (sqOk (validB (n) (A)) (zOf (n) (A))) (isq (zOf (n) (A)))) (gL (sqOk (validB (n) (A)) (zOf (n) (A))) (isq (zOf (n) (A))))))) (zOf (n) (A)) ≤ 0) = true from decide_eq_true (by rw [sq_c zx (vv (valid_gg _ _) (valid_gg _ _)) q2 va]; exact cmp3_le.2 s1)) (.bin _ _ _ _ _ _ _ _ rfl rfl rfl)) rfl ?_
        refine VList.go0 (n' := 79) rfl rfl (.pick _ _ _ _ _ rfl rfl) rfl ?_
        refine VList.go0 (n' := 80) rfl rfl (.move _ _ rfl) rfl ?_
        refine VList.go0 (n' := 81) rfl rfl (.move _ _ rfl) rfl ?_
        refine VList.go0 (n' := 82) rfl rfl (.move _ _ rfl) rfl ?_
        refine VList.go0 (n' := 83) rfl rfl (.bin _ _ _ _ _ _ _ _ rfl rfl rfl) rfl ?_
        refine VList.go0 (n' := 84) rfl rfl (Eff.castB (show ((sqB (validB (n) (A)) (zOf (n) (A))) == (cC (validB (gN (validB (gN (sqOk (validB (n) (A)) (zOf (n) (A))) (isq (zOf (n) (A)))) (gL (sqOk (validB (n) (A)) (zOf (n) (A))) (isq (zOf (n) (A)))) && validB (gN (sqOk (validB (n) (A)) (zOf (n) (A))) (isq (zOf (n) (A)))) (gL (sqOk (validB (n) (A)) (zOf (n) (A))) (isq (zOf (n) (A))))) (zOf (gN (sqOk (validB (n) (A)) (zOf (n) (A))) (isq (zOf (n) (A)))) (gL (sqOk (validB (n) (A)) (zOf (n) (A))) (isq (zOf (n) (A)))) * zOf (gN (sqOk (validB (n) (A)) (zOf (n) (A))) (isq (zOf (n) (A)))) (gL (sqOk (validB (n) (A)) (zOf (n) (A))) (isq (zOf (n) (A)))))) (gL (validB (gN (sqOk (validB (n) (A)) (zOf (n) (A))) (isq (zOf (n) (A)))) (gL (sqOk (validB (n) (A)) (zOf (n) (A))) (isq (zOf (n) (A)))) && validB (gN (sqOk (validB (n) (A)) (zOf (n) (A))) (isq (zOf (n) (A)))) (gL (sqOk (validB (n) (A)) (zOf (n) (A))) (isq (zOf (n) (A))))) (zOf (gN (sqOk (validB (n) (A)) (zOf (n) (A))) (isq (zOf (n) (A)))) (gL (sqOk (validB (n) (A)) (zOf (n) (A))) (isq (zOf (n) (A)))) * zOf (gN (sqOk (validB (n) (A)) (zOf (n) (A))) (isq (zOf (n) (A)))) (gL (sqOk (validB (n) (A)) (zOf (n) (A))) (isq (zOf (n) (A)))))) && validB (n) (A)) (zOf (gN (validB (gN (sqOk (validB (n) (A)) (zOf (n) (A))) (isq (zOf (n) (A)))) (gL (sqOk (validB (n) (A)) (zOf (n) (A))) (isq (zOf (n) (A)))) && validB (gN (sqOk (validB (n) (A)) (zOf (n) (A))) (isq (zOf (n) (A)))) (gL (sqOk (validB (n) (A)) (zOf (n) (A))) (isq (zOf (n) (A))))) (zOf (gN (sqOk (validB (n) (A)) (zOf (n) (A))) (isq (zOf (n) (A)))) (gL (sqOk (validB (n) (A)) (zOf (n) (A))) (isq (zOf (n) (A)))) * zOf (gN (sqOk (validB (n) (A)) (zOf (n) (A))) (isq (zOf (n) (A)))) (gL (sqOk (validB (n) (A)) (zOf (n) (A))) (isq (zOf (n) (A)))))) (gL (validB (gN (sqOk (validB (n) (A)) (zOf (n) (A))) (isq (zOf (n) (A)))) (gL (sqOk (validB (n) (A)) (zOf (n) (A))) (isq (zOf (n) (A)))) && validB (gN (sqOk (validB (n) (A)) (zOf (n) (A))) (isq (zOf (n) (A)))) (gL (sqOk (validB (n) (A)) (zOf (n) (A))) (isq (zOf (n) (A))))) (zOf (gN (sqOk (validB (n) (A)) (zOf (n) (A))) (isq (zOf (n) (A)))) (gL (sqOk (validB (n) (A)) (zOf (n) (A))) (isq (zOf (n) (A)))) * zOf (gN (sqOk (validB (n) (A)) (zOf (n) (A))) (isq (zOf (n) (A)))) (gL (sqOk (validB (n) (A)) (zOf (n) (A))) (isq (zOf (n) (A))))))) (zOf (n) (A)) == 0)) = true from beq_bool (by rw [sq_c zx (vv (valid_gg _ _) (valid_gg _ _)) q2 va]; exact sq_is sok)) (.binB _ _ _ _ _ _ _ _ rfl rfl Try.underlying4 rfl)) rfl ?_
        refine VList.go0 (n' := 85) rfl rfl (.pick _ _ _ _ _ rfl rfl) rfl ?_
        refine VList.go0 (n' := 86) rfl rfl (.move _ _ rfl) rfl ?_
        refine VList.go0 (n' := 87) rfl rfl (.move _ _ rfl) rfl ?_
        refine VList.go0 (n' := 88) rfl rfl (.bin _ _ _ _ _ _ _ _ rfl rfl rfl) rfl ?_
        refine VList.go0 (n' := 89) rfl rfl (.move _ _ rfl) rfl ?_
        refine VList.split (d := 92) _ rfl (fun hc3 => ?_) (fun hc3 => ?_)
        · replace hc3 := eq_of_beq hc3
          refine VList.skip (n' := 90) rfl rfl rfl ?_
          refine VList.skip (n' := 91) rfl rfl rfl ?_
          refine VList.skip (n' := 92) rfl rfl rfl ?_
          refine VList.skip (n' := 93) rfl rfl rfl ?_
          refine VList.skip (n' := 94) rfl rfl rfl ?_
          refine VList.skip (n' := 95) rfl rfl rfl ?_
          refine VList.go0 (n' := 96) rfl rfl (.pick _ _ _ _ _ rfl rfl) rfl ?_
          refine VList.go0 (n' := 97) rfl rfl (.pick _ _ _ _ _ rfl rfl) rfl ?_
          refine VList.go0 (n' := 98) rfl rfl (.assign _ _ rfl) rfl ?_
          exact VList.nil (Joins.go (()) trivial (Weak.of (show 0 ≤ 1 by decide) ⟨⟨rfl, rfl⟩, ⟨⟨rfl, rfl⟩, trivial⟩⟩ ⟨⟨rfl, (show 0 < 1 by decide), (by intro v_ hv_; simp at hv_; rcases hv_ with rfl | rfl <;> rfl)⟩, trivial⟩))
        · replace hc3 := ne_of_beq_false hc3
          refine VList.go0 (n' := 90) rfl rfl (.move _ _ rfl) rfl ?_
          refine VList.go0 (n' := 91) rfl rfl (Eff.castB (show (gE (validB (gN (validB (gN (sqOk (validB (n) (A)) (zOf (n) (A))) (isq (zOf (n) (A)))) (gL (sqOk (validB (n) (A)) (zOf (n) (A))) (isq (zOf (n) (A)))) && validB (zN (1)) (zL (1))) (zOf (gN (sqOk (validB (n) (A)) (zOf (n) (A))) (isq (zOf (n) (A)))) (gL (sqOk (validB (n) (A)) (zOf (n) (A))) (isq (zOf (n) (A)))) + zOf (zN (1)) (zL (1)))) (gL (validB (gN (sqOk (validB (n) (A)) (zOf (n) (A))) (isq (zOf (n) (A)))) (gL (sqOk (validB (n) (A)) (zOf (n) (A))) (isq (zOf (n) (A)))) && validB (zN (1)) (zL (1))) (zOf (gN (sqOk (validB (n) (A)) (zOf (n) (A))) (isq (zOf (n) (A)))) (gL (sqOk (validB (n) (A)) (zOf (n) (A))) (isq (zOf (n) (A)))) + zOf (zN (1)) (zL (1)))) && validB (gN (validB (gN (sqOk (validB (n) (A)) (zOf (n) (A))) (isq (zOf (n) (A)))) (gL (sqOk (validB (n) (A)) (zOf (n) (A))) (isq (zOf (n) (A)))) && validB (zN (1)) (zL (1))) (zOf (gN (sqOk (validB (n) (A)) (zOf (n) (A))) (isq (zOf (n) (A)))) (gL (sqOk (validB (n) (A)) (zOf (n) (A))) (isq (zOf (n) (A)))) + zOf (zN (1)) (zL (1)))) (gL (validB (gN (sqOk (validB (n) (A)) (zOf (n) (A))) (isq (zOf (n) (A)))) (gL (sqOk (validB (n) (A)) (zOf (n) (A))) (isq (zOf (n) (A)))) && validB (zN (1)) (zL (1))) (zOf (gN (sqOk (validB (n) (A)) (zOf (n) (A))) (isq (zOf (n) (A)))) (gL (sqOk (validB (n) (A)) (zOf (n) (A))) (isq (zOf (n) (A)))) + zOf (zN (1)) (zL (1))))) (zOf (gN (validB (gN (sqOk (validB (n) (A)) (zOf (n) (A))) (isq (zOf (n) (A)))) (gL (sqOk (validB (n) (A)) (zOf (n) (A))) (isq (zOf (n) (A)))) && validB (zN (1)) (zL (1))) (zOf (gN (sqOk (validB (n) (A)) (zOf (n) (A))) (isq (zOf (n) (A)))) (gL (sqOk (validB (n) (A)) (zOf (n) (A))) (isq (zOf (n) (A)))) + zOf (zN (1)) (zL (1)))) (gL (validB (gN (sqOk (validB (n) (A)) (zOf (n) (A))) (isq (zOf (n) (A)))) (gL (sqOk (validB (n) (A)) (zOf (n) (A))) (isq (zOf (n) (A)))) && validB (zN (1)) (zL (1))) (zOf (gN (sqOk (validB (n) (A)) (zOf (n) (A))) (isq (zOf (n) (A)))) (gL (sqOk (validB (n) (A)) (zOf (n) (A))) (isq (zOf (n) (A)))) + zOf (zN (1)) (zL (1)))) * zOf (gN (validB (gN (sqOk (validB (n) (A)) (zOf (n) (A))) (isq (zOf (n) (A)))) (gL (sqOk (validB (n) (A)) (zOf (n) (A))) (isq (zOf (n) (A)))) && validB (zN (1)) (zL (1))) (zOf (gN (sqOk (validB (n) (A)) (zOf (n) (A))) (isq (zOf (n) (A)))) (gL (sqOk (validB (n) (A)) (zOf (n) (A))) (isq (zOf (n) (A)))) + zOf (zN (1)) (zL (1)))) (gL (validB (gN (sqOk (validB (n) (A)) (zOf (n) (A))) (isq (zOf (n) (A)))) (gL (sqOk (validB (n) (A)) (zOf (n) (A))) (isq (zOf (n) (A)))) && validB (zN (1)) (zL (1))) (zOf (gN (sqOk (validB (n) (A)) (zOf (n) (A))) (isq (zOf (n) (A)))) (gL (sqOk (validB (n) (A)) (zOf (n) (A))) (isq (zOf (n) (A)))) + zOf (zN (1)) (zL (1))))) == 0) = true from beq_yes (gE_two (vv (valid_gg _ _) (valid_gg _ _)) (by assumption))) (.bin _ _ _ _ _ _ _ _ rfl rfl rfl)) rfl ?_
          refine VList.go0 (n' := 92) rfl rfl (.move _ _ rfl) rfl ?_
          refine VList.go0 (n' := 93) rfl rfl (.move _ _ rfl) rfl ?_
          refine VList.go0 (n' := 94) rfl rfl (Eff.castB (show (cC (validB (gN (validB (gN (validB (gN (sqOk (validB (n) (A)) (zOf (n) (A))) (isq (zOf (n) (A)))) (gL (sqOk (validB (n) (A)) (zOf (n) (A))) (isq (zOf (n) (A)))) && validB (zN (1)) (zL (1))) (zOf (gN (sqOk (validB (n) (A)) (zOf (n) (A))) (isq (zOf (n) (A)))) (gL (sqOk (validB (n) (A)) (zOf (n) (A))) (isq (zOf (n) (A)))) + zOf (zN (1)) (zL (1)))) (gL (validB (gN (sqOk (validB (n) (A)) (zOf (n) (A))) (isq (zOf (n) (A)))) (gL (sqOk (validB (n) (A)) (zOf (n) (A))) (isq (zOf (n) (A)))) && validB (zN (1)) (zL (1))) (zOf (gN (sqOk (validB (n) (A)) (zOf (n) (A))) (isq (zOf (n) (A)))) (gL (sqOk (validB (n) (A)) (zOf (n) (A))) (isq (zOf (n) (A)))) + zOf (zN (1)) (zL (1)))) && validB (gN (validB (gN (sqOk (validB (n) (A)) (zOf (n) (A))) (isq (zOf (n) (A)))) (gL (sqOk (validB (n) (A)) (zOf (n) (A))) (isq (zOf (n) (A)))) && validB (zN (1)) (zL (1))) (zOf (gN (sqOk (validB (n) (A)) (zOf (n) (A))) (isq (zOf (n) (A)))) (gL (sqOk (validB (n) (A)) (zOf (n) (A))) (isq (zOf (n) (A)))) + zOf (zN (1)) (zL (1)))) (gL (validB (gN (sqOk (validB (n) (A)) (zOf (n) (A))) (isq (zOf (n) (A)))) (gL (sqOk (validB (n) (A)) (zOf (n) (A))) (isq (zOf (n) (A)))) && validB (zN (1)) (zL (1))) (zOf (gN (sqOk (validB (n) (A)) (zOf (n) (A))) (isq (zOf (n) (A)))) (gL (sqOk (validB (n) (A)) (zOf (n) (A))) (isq (zOf (n) (A)))) + zOf (zN (1)) (zL (1))))) (zOf (gN (validB (gN (sqOk (validB (n) (A)) (zOf (n) (A))) (isq (zOf (n) (A)))) (gL (sqOk (validB (n) (A)) (zOf (n) (A))) (isq (zOf (n) (A)))) && validB (zN (1)) (zL (1))) (zOf (gN (sqOk (validB (n) (A)) (zOf (n) (A))) (isq (zOf (n) (A)))) (gL (sqOk (validB (n) (A)) (zOf (n) (A))) (isq (zOf (n) (A)))) + zOf (zN (1)) (zL (1)))) (gL (validB (gN (sqOk (validB (n) (A)) (zOf (n) (A))) (isq (zOf (n) (A)))) (gL (sqOk (validB (n) (A)) (zOf (n) (A))) (isq (zOf (n) (A)))) && validB (zN (1)) (zL (1))) (zOf (gN (sqOk (validB (n) (A)) (zOf (n) (A))) (isq (zOf (n) (A)))) (gL (sqOk (validB (n) (A)) (zOf (n) (A))) (isq (zOf (n) (A)))) + zOf (zN (1)) (zL (1)))) * zOf (gN (validB (gN (sqOk (validB (n) (A)) (zOf (n) (A))) (isq (zOf (n) (A)))) (gL (sqOk (validB (n) (A)) (zOf (n) (A))) (isq (zOf (n) (A)))) && validB (zN (1)) (zL (1))) (zOf (gN (sqOk (validB (n) (A)) (zOf (n) (A))) (isq (zOf (n) (A)))) (gL (sqOk (validB (n) (A)) (zOf (n) (A))) (isq (zOf (n) (A)))) + zOf (zN (1)) (zL (1)))) (gL (validB (gN (sqOk (validB (n) (A)) (zOf (n) (A))) (isq (zOf (n) (A)))) (gL (sqOk (validB (n) (A)) (zOf (n) (A))) (isq (zOf (n) (A)))) && validB (zN (1)) (zL (1))) (zOf (gN (sqOk (validB (n) (A)) (zOf (n) (A))) (isq (zOf (n) (A)))) (gL (sqOk (validB (n) (A)) (zOf (n) (A))) (isq (zOf (n) (A)))) + zOf (zN (1)) (zL (1)))))) (gL (validB (gN (validB (gN (sqOk (validB (n) (A)) (zOf (n) (A))) (isq (zOf (n) (A)))) (gL (sqOk (validB (n) (A)) (zOf (n) (A))) (isq (zOf (n) (A)))) && validB (zN (1)) (zL (1))) (zOf (gN (sqOk (validB (n) (A)) (zOf (n) (A))) (isq (zOf (n) (A)))) (gL (sqOk (validB (n) (A)) (zOf (n) (A))) (isq (zOf (n) (A)))) + zOf (zN (1)) (zL (1)))) (gL (validB (gN (sqOk (validB (n) (A)) (zOf (n) (A))) (isq (zOf (n) (A)))) (gL (sqOk (validB (n) (A)) (zOf (n) (A))) (isq (zOf (n) (A)))) && validB (zN (1)) (zL (1))) (zOf (gN (sqOk (validB (n) (A)) (zOf (n) (A))) (isq (zOf (n) (A)))) (gL (sqOk (validB (n) (A)) (zOf (n) (A))) (isq (zOf (n) (A)))) + zOf (zN (1)) (zL (1)))) && validB (gN (validB (gN (sqOk (validB (n) (A)) (zOf (n) (A))) (isq (zOf (n) (A)))) (gL (sqOk (validB (n) (A)) (zOf (n) (A))) (isq (zOf (n) (A)))) && validB (zN (1)) (zL (1))) (zOf (gN (sqOk (validB (n) (A)) (zOf (n) (A))) (isq (zOf (n) (A)))) (gL (sqOk (validB (n) (A)) (zOf (n) (A))) (isq (zOf (n) (A)))) + zOf (zN (1)) (zL (1)))) (gL (validB (gN (sqOk (validB (n) (A)) (zOf (n) (A))) (isq (zOf (n) (A)))) (gL (sqOk (validB (n) (A)) (zOf (n) (A))) (isq (zOf (n) (A)))) && validB (zN (1)) (zL (1))) (zOf (gN (sqOk (validB (n) (A)) (zOf (n) (A))) (isq (zOf (n) (A)))) (gL (sqOk (validB (n) (A)) (zOf (n) (A))) (isq (zOf (n) (A)))) + zOf (zN (1)) (zL (1))))) (zOf (gN (validB (gN (sqOk (validB (n) (A)) (zOf (n) (A))) (isq (zOf (n) (A)))) (gL (sqOk (validB (n) (A)) (zOf (n) (A))) (isq (zOf (n) (A)))) && validB (zN (1)) (zL (1))) (zOf (gN (sqOk (validB (n) (A)) (zOf (n) (A))) (isq (zOf (n) (A)))) (gL (sqOk (validB (n) (A)) (zOf (n) (A))) (isq (zOf (n) (A)))) + zOf (zN (1)) (zL (1)))) (gL (validB (gN (sqOk (validB (n) (A)) (zOf (n) (A))) (isq (zOf (n) (A)))) (gL (sqOk (validB (n) (A)) (zOf (n) (A))) (isq (zOf (n) (A)))) && validB (zN (1)) (zL (1))) (zOf (gN (sqOk (validB (n) (A)) (zOf (n) (A))) (isq (zOf (n) (A)))) (gL (sqOk (validB (n) (A)) (zOf (n) (A))) (isq (zOf (n) (A)))) + zOf (zN (1)) (zL (1)))) * zOf (gN (validB (gN (sqOk (validB (n) (A)) (zOf (n) (A))) (isq (zOf (n) (A)))) (gL (sqOk (validB (n) (A)) (zOf (n) (A))) (isq (zOf (n) (A)))) && validB (zN (1)) (zL (1))) (zOf (gN (sqOk (validB (n) (A)) (zOf (n) (A))) (isq (zOf (n) (A)))) (gL (sqOk (validB (n) (A)) (zOf (n) (A))) (isq (zOf (n) (A)))) + zOf (zN (1)) (zL (1)))) (gL (validB (gN (sqOk (validB (n) (A)) (zOf (n) (A))) (isq (zOf (n) (A)))) (gL (sqOk (validB (n) (A)) (zOf (n) (A))) (isq (zOf (n) (A)))) && validB (zN (1)) (zL (1))) (zOf (gN (sqOk (validB (n) (A)) (zOf (n) (A))) (isq (zOf (n) (A)))) (gL (sqOk (validB (n) (A)) (zOf (n) (A))) (isq (zOf (n) (A)))) + zOf (zN (1)) (zL (1)))))) && validB (n) (A)) (zOf (gN (validB (gN (validB (gN (sqOk (validB (n) (A)) (zOf (n) (A))) (isq (zOf (n) (A)))) (gL (sqOk (validB (n) (A)) (zOf (n) (A))) (isq (zOf (n) (A)))) && validB (zN (1)) (zL (1))) (zOf (gN (sqOk (validB (n) (A)) (zOf (n) (A))) (isq (zOf (n) (A)))) (gL (sqOk (validB (n) (A)) (zOf (n) (A))) (isq (zOf (n) (A)))) + zOf (zN (1)) (zL (1)))) (gL (validB (gN (sqOk (validB (n) (A)) (zOf (n) (A))) (isq (zOf (n) (A)))) (gL (sqOk (validB (n) (A)) (zOf (n) (A))) (isq (zOf (n) (A)))) && validB (zN (1)) (zL (1))) (zOf (gN (sqOk (validB (n) (A)) (zOf (n) (A))) (isq (zOf (n) (A)))) (gL (sqOk (validB (n) (A)) (zOf (n) (A))) (isq (zOf (n) (A)))) + zOf (zN (1)) (zL (1)))) && validB (gN (validB (gN (sqOk (validB (n) (A)) (zOf (n) (A))) (isq (zOf (n) (A)))) (gL (sqOk (validB (n) (A)) (zOf (n) (A))) (isq (zOf (n) (A)))) && validB (zN (1)) (zL (1))) (zOf (gN (sqOk (validB (n) (A)) (zOf (n) (A))) (isq (zOf (n) (A)))) (gL (sqOk (validB (n) (A)) (zOf (n) (A))) (isq (zOf (n) (A)))) + zOf (zN (1)) (zL (1)))) (gL (validB (gN (sqOk (validB (n) (A)) (zOf (n) (A))) (isq (zOf (n) (A)))) (gL (sqOk (validB (n) (A)) (zOf (n) (A))) (isq (zOf (n) (A)))) && validB (zN (1)) (zL (1))) (zOf (gN (sqOk (validB (n) (A)) (zOf (n) (A))) (isq (zOf (n) (A)))) (gL (sqOk (validB (n) (A)) (zOf (n) (A))) (isq (zOf (n) (A)))) + zOf (zN (1)) (zL (1))))) (zOf (gN (validB (gN (sqOk (validB (n) (A)) (zOf (n) (A))) (isq (zOf (n) (A)))) (gL (sqOk (validB (n) (A)) (zOf (n) (A))) (isq (zOf (n) (A)))) && validB (zN (1)) (zL (1))) (zOf (gN (sqOk (validB (n) (A)) (zOf (n) (A))) (isq (zOf (n) (A)))) (gL (sqOk (validB (n) (A)) (zOf (n) (A))) (isq (zOf (n) (A)))) + zOf (zN (1)) (zL (1)))) (gL (validB (gN (sqOk (validB (n) (A)) (zOf (n) (A))) (isq (zOf (n) (A)))) (gL (sqOk (validB (n) (A)) (zOf (n) (A))) (isq (zOf (n) (A)))) && validB (zN (1)) (zL (1))) (zOf (gN (sqOk (validB (n) (A)) (zOf (n) (A))) (isq (zOf (n) (A)))) (gL (sqOk (validB (n) (A)) (zOf (n) (A))) (isq (zOf (n) (A)))) + zOf (zN (1)) (zL (1)))) * zOf (gN (validB (gN (sqOk (validB (n) (A)) (zOf (n) (A))) (isq (zOf (n) (A)))) (gL (sqOk (validB (n) (A)) (zOf (n) (A))) (isq (zOf (n) (A)))) && validB (zN (1)) (zL (1))) (zOf (gN (sqOk (validB (n) (A)) (zOf (n) (A))) (isq (zOf (n) (A)))) (gL (sqOk (validB (n) (A)) (zOf (n) (A))) (isq (zOf (n) (A)))) + zOf (zN (1)) (zL (1)))) (gL (validB (gN (sqOk (validB (n) (A)) (zOf (n) (A))) (isq (zOf (n) (A)))) (gL (sqOk (validB (n) (A)) (zOf (n) (A))) (isq (zOf (n) (A)))) && validB (zN (1)) (zL (1))) (zOf (gN (sqOk (validB (n) (A)) (zOf (n) (A))) (isq (zOf (n) (A)))) (gL (sqOk (validB (n) (A)) (zOf (n) (A))) (isq (zOf (n) (A)))) + zOf (zN (1)) (zL (1)))))) (gL (validB (gN (validB (gN (sqOk (validB (n) (A)) (zOf (n) (A))) (isq (zOf (n) (A)))) (gL (sqOk (validB (n) (A)) (zOf (n) (A))) (isq (zOf (n) (A)))) && validB (zN (1)) (zL (1))) (zOf (gN (sqOk (validB (n) (A)) (zOf (n) (A))) (isq (zOf (n) (A)))) (gL (sqOk (validB (n) (A)) (zOf (n) (A))) (isq (zOf (n) (A)))) + zOf (zN (1)) (zL (1)))) (gL (validB (gN (sqOk (validB (n) (A)) (zOf (n) (A))) (isq (zOf (n) (A)))) (gL (sqOk (validB (n) (A)) (zOf (n) (A))) (isq (zOf (n) (A)))) && validB (zN (1)) (zL (1))) (zOf (gN (sqOk (validB (n) (A)) (zOf (n) (A))) (isq (zOf (n) (A)))) (gL (sqOk (validB (n) (A)) (zOf (n) (A))) (isq (zOf (n) (A)))) + zOf (zN (1)) (zL (1)))) && validB (gN (validB (gN (sqOk (validB (n) (A)) (zOf (n) (A))) (isq (zOf (n) (A)))) (gL (sqOk (validB (n) (A)) (zOf (n) (A))) (isq (zOf (n) (A)))) && validB (zN (1)) (zL (1))) (zOf (gN (sqOk (validB (n) (A)) (zOf (n) (A))) (isq (zOf (n) (A)))) (gL (sqOk (validB (n) (A)) (zOf (n) (A))) (isq (zOf (n) (A)))) + zOf (zN (1)) (zL (1)))) (gL (validB (gN (sqOk (validB (n) (A)) (zOf (n) (A))) (isq (zOf (n) (A)))) (gL (sqOk (validB (n) (A)) (zOf (n) (A))) (isq (zOf (n) (A)))) && validB (zN (1)) (zL (1))) (zOf (gN (sqOk (validB (n) (A)) (zOf (n) (A))) (isq (zOf (n) (A)))) (gL (sqOk (validB (n) (A)) (zOf (n) (A))) (isq (zOf (n) (A)))) + zOf (zN (1)) (zL (1))))) (zOf (gN (validB (gN (sqOk (validB (n) (A)) (zOf (n) (A))) (isq (zOf (n) (A)))) (gL (sqOk (validB (n) (A)) (zOf (n) (A))) (isq (zOf (n) (A)))) && validB (zN (1)) (zL (1))) (zOf (gN (sqOk (validB (n) (A)) (zOf (n) (A))) (isq (zOf (n) (A)))) (gL (sqOk (validB (n) (A)) (zOf (n) (A))) (isq (zOf (n) (A)))) + zOf (zN (1)) (zL (1)))) (gL (validB (gN (sqOk (validB (n) (A)) (zOf (n) (A))) (isq (zOf (n) (A)))) (gL (sqOk (validB (n) (A)) (zOf (n) (A))) (isq (zOf (n) (A)))) && validB (zN (1)) (zL (1))) (zOf (gN (sqOk (validB (n) (A)) (zOf (n) (A))) (isq (zOf (n) (A)))) (gL (sqOk (validB (n) (A)) (zOf (n) (A))) (isq (zOf (n) (A)))) + zOf (zN (1)) (zL (1)))) * zOf (gN (validB (gN (sqOk (validB (n) (A)) (zOf (n) (A))) (isq (zOf (n) (A)))) (gL (sqOk (validB (n) (A)) (zOf (n) (A))) (isq (zOf (n) (A)))) && validB (zN (1)) (zL (1))) (zOf (gN (sqOk (validB (n) (A)) (zOf (n) (A))) (isq (zOf (n) (A)))) (gL (sqOk (validB (n) (A)) (zOf (n) (A))) (isq (zOf (n) (A)))) + zOf (zN (1)) (zL (1)))) (gL (validB (gN (sqOk (validB (n) (A)) (zOf (n) (A))) (isq (zOf (n) (A)))) (gL (sqOk (validB (n) (A)) (zOf (n) (A))) (isq (zOf (n) (A)))) && validB (zN (1)) (zL (1))) (zOf (gN (sqOk (validB (n) (A)) (zOf (n) (A))) (isq (zOf (n) (A)))) (gL (sqOk (validB (n) (A)) (zOf (n) (A))) (isq (zOf (n) (A)))) + zOf (zN (1)) (zL (1))))))) (zOf (n) (A)) == 1) = true from beq_yes (by rw [sq_d (by rw [zOf_gg (vv (valid_gg _ _) (valid_zz _)) (by rw [zx, zOf_z in_one]; exact q3), zx, zOf_z in_one]) (vv (valid_gg _ _) (valid_gg _ _)) (by assumption) va]; exact cmp3_one s2)) (.bin _ _ _ _ _ _ _ _ rfl rfl rfl)) rfl ?_
          refine VList.go0 (n' := 95) rfl rfl (.pick _ _ _ _ _ rfl rfl) rfl ?_
          refine VList.go0 (n' := 96) rfl rfl (.pick _ _ _ _ _ rfl rfl) rfl ?_
          refine VList.go0 (n' := 97) rfl rfl (.pick _ _ _ _ _ rfl rfl) rfl ?_
          refine VList.go0 (n' := 98) rfl rfl (.assign _ _ rfl) rfl ?_
          exact VList.nil (Joins.go (()) trivial (Weak.of (show 0 ≤ 1 by decide) ⟨⟨rfl, rfl⟩, ⟨⟨rfl, rfl⟩, trivial⟩⟩ ⟨⟨rfl, (show 0 < 1 by decide), (by intro v_ hv_; simp at hv_; rcases hv_ with rfl | rfl <;> rfl)⟩, trivial⟩))
      · intro u hok
        show VCode Try.prog 0 _ 1 (sl [(1, .ptr 0 (0)), (16, vB (true))]) (en [(0, ⟨2, [vB (n), vS (A)], true⟩)]) _
        refine VCode.seq ?_
        refine VCode.region ?_
        refine VList.go0 (n' := 2) rfl rfl (.loadS _ _ _ _ _ _ rfl rfl P_agg24 P_sz24 (Nat.le_of_ble_eq_true rfl)) rfl ?_
        refine VList.go0 (n' := 3) rfl rfl (.loadS _ _ _ _ _ _ rfl rfl P_agg24 P_sz24 (Nat.le_of_ble_eq_true rfl)) rfl ?_
        refine VList.go0 (n' := 4) rfl rfl (Eff.callV0 rfl (ress_cons rfl (ress_cons rfl ress_nil)) (f29 _ _ _ _ (by first | assumption | with_reducible exact len_gL' _ _ | with_reducible exact len_zL' _) (by first | assumption | with_reducible exact len_gL' _ _ | with_reducible exact len_zL' _) (by first | assumption | with_reducible exact ok32_gL _ _ | with_reducible exact ok32_zL _) (by first | assumption | with_reducible exact ok32_gL _ _ | with_reducible exact ok32_zL _)) rfl) rfl ?_
        refine VList.go0 (n' := 5) rfl rfl (.move _ _ rfl) rfl ?_
        refine VList.go0 (n' := 6) rfl rfl (.extract _ _ _ _ rfl rfl) rfl ?_
        refine VList.go0 (n' := 7) rfl rfl (.extract _ _ _ _ rfl rfl) rfl ?_
        refine VList.go1 (n' := 8) rfl rfl (.alloc _ _ P_zero24 (List.cons_ne_nil _ _)) rfl ?_
        refine VList.goS (n' := 9) rfl rfl (.store _ _ _ _ _ _ _ rfl rfl rfl rfl P_sz24 (Nat.le_of_ble_eq_true rfl) rfl) rfl ?_
        refine VList.go0 (n' := 10) rfl rfl (.assign _ _ rfl) rfl ?_
        refine VList.nil (Then.go ?_)
        refine VCode.seq ?_
        refine VCode.seq ?_
        refine VCode.region ?_
        refine VList.go0 (n' := 11) rfl rfl (.move _ _ rfl) rfl ?_
        refine VList.go0 (n' := 12) rfl rfl (.bin _ _ _ _ _ _ _ _ rfl rfl rfl) rfl ?_
        refine VList.nil (Then.go ?_)
        refine VCode.cond _ rfl (fun hc4 => ?_) (fun hc4 => ?_)
        · replace hc4 := bne_iff_ne.1 hc4
          refine VCode.seq ?_
          refine VCode.region ?_
          refine VList.go0 (n' := 13) rfl rfl (.move _ _ rfl) rfl ?_
          refine VList.go0 (n' := 14) rfl rfl (.assign _ _ rfl) rfl ?_
          refine VList.nil (Then.go ?_)
          exact VCode.ret (Then.ret (⟨trivial, [boolB (true)], (resVars_cons (resVar_tmp rfl rfl) resVars_nil), rfl⟩))
        · replace hc4 := bne_eq_false_iff_eq.1 hc4
          refine VCode.skip (Then.go ?_)
          refine VCode.seq ?_
          refine VCode.region ?_
          refine VList.go0 (n' := 13) rfl rfl (.loadS _ _ _ _ _ _ rfl rfl P_agg24 P_sz24 (Nat.le_of_ble_eq_true rfl)) rfl ?_
          refine VList.go0 (n' := 14) rfl rfl (Eff.callV0 rfl (ress_cons rfl ress_nil) (f44 _ _ (by first | assumption | with_reducible exact len_gL' _ _ | with_reducible exact len_zL' _) (by first | assumption | with_reducible exact ok32_gL _ _ | with_reducible exact ok32_zL _)) rfl) rfl ?_
          refine VList.go0 (n' := 15) rfl rfl (.move _ _ rfl) rfl ?_
          refine VList.go0 (n' := 16) rfl rfl (.extract _ _ _ _ rfl rfl) rfl ?_
          refine VList.go0 (n' := 17) rfl rfl (.extract _ _ _ _ rfl rfl) rfl ?_
          refine VList.go0 (n' := 18) rfl rfl (.extract _ _ _ _ rfl rfl) rfl ?_
          refine VList.go1 (n' := 19) rfl rfl (.alloc _ _ P_zero24 (List.cons_ne_nil _ _)) rfl ?_
          refine VList.goS (n' := 20) rfl rfl (.store _ _ _ _ _ _ _ rfl rfl rfl rfl P_sz24 (Nat.le_of_ble_eq_true rfl) rfl) rfl ?_
          refine VList.go0 (n' := 21) rfl rfl (Eff.castB (show (sqB (validB (gN (validB (n) (A) && validB (n) (A)) (zOf (n) (A) * zOf (n) (A))) (gL (validB (n) (A) && validB (n) (A)) (zOf (n) (A) * zOf (n) (A)))) (zOf (gN (validB (n) (A) && validB (n) (A)) (zOf (n) (A) * zOf (n) (A))) (gL (validB (n) (A) && validB (n) (A)) (zOf (n) (A) * zOf (n) (A))))) = true from sqB_sq (valid_gg _ _) (gz (by assumption)) z0) (.assign _ _ rfl)) rfl ?_
          refine VList.go0 (n' := 22) rfl rfl (.assign _ _ rfl) rfl ?_
          refine VList.nil (Then.go ?_)
          refine VCode.seq ?_
          refine VCode.region ?_
          refine VList.go0 (n' := 23) rfl rfl (.move _ _ rfl) rfl ?_
          refine VList.go0 (n' := 24) rfl rfl (.move _ _ rfl) rfl ?_
          refine VList.go0 (n' := 25) rfl rfl (.move _ _ rfl) rfl ?_
          refine VList.go0 (n' := 26) rfl rfl (Eff.castB (show (sqE (validB (gN (validB (n) (A) && validB (n) (A)) (zOf (n) (A) * zOf (n) (A))) (gL (validB (n) (A) && validB (n) (A)) (zOf (n) (A) * zOf (n) (A)))) (zOf (gN (validB (n) (A) && validB (n) (A)) (zOf (n) (A) * zOf (n) (A))) (gL (validB (n) (A) && validB (n) (A)) (zOf (n) (A) * zOf (n) (A)))) == 0) = true from beq_yes (sqE_pos (valid_gg _ _) (by rw [gz (by assumption)]; exact Int.mul_nonneg z0 z0))) (.bin _ _ _ _ _ _ _ _ rfl rfl rfl)) rfl ?_
          refine VList.go0 (n' := 27) rfl rfl (.pick _ _ _ _ _ rfl rfl) rfl ?_
          refine VList.go0 (n' := 28) rfl rfl (.move _ _ rfl) rfl ?_
          refine VList.go0 (n' := 29) rfl rfl (.move _ _ rfl) rfl ?_
          refine VList.go0 (n' := 30) rfl rfl (.pick _ _ _ _ _ rfl rfl) rfl ?_
          refine VList.go0 (n' := 31) rfl rfl (.move _ _ rfl) rfl ?_
          refine VList.go0 (n' := 32) rfl rfl (.loadS _ _ _ _ _ _ rfl rfl P_agg24 P_sz24 (Nat.le_of_ble_eq_true rfl)) rfl ?_
          refine VList.go0 (n' := 33) rfl rfl (.loadS _ _ _ _ _ _ rfl rfl P_agg24 P_sz24 (Nat.le_of_ble_eq_true rfl)) rfl ?_
          refine VList.go0 (n' := 34) rfl rfl (Eff.castB (show (sameB (gN (sqOk (validB (gN (validB (n) (A) && validB (n) (A)) (zOf (n) (A) * zOf (n) (A))) (gL (validB (n) (A) && validB (n) (A)) (zOf (n) (A) * zOf (n) (A)))) (zOf (gN (validB (n) (A) && validB (n) (A)) (zOf (n) (A) * zOf (n) (A))) (gL (validB (n) (A) && validB (n) (A)) (zOf (n) (A) * zOf (n) (A))))) (isq (zOf (gN (validB (n) (A) && validB (n) (A)) (zOf (n) (A) * zOf (n) (A))) (gL (validB (n) (A) && validB (n) (A)) (zOf (n) (A) * zOf (n) (A)))))) (gL (sqOk (validB (gN (validB (n) (A) && validB (n) (A)) (zOf (n) (A) * zOf (n) (A))) (gL (validB (n) (A) && validB (n) (A)) (zOf (n) (A) * zOf (n) (A)))) (zOf (gN (validB (n) (A) && validB (n) (A)) (zOf (n) (A) * zOf (n) (A))) (gL (validB (n) (A) && validB (n) (A)) (zOf (n) (A) * zOf (n) (A))))) (isq (zOf (gN (validB (n) (A) && validB (n) (A)) (zOf (n) (A) * zOf (n) (A))) (gL (validB (n) (A) && validB (n) (A)) (zOf (n) (A) * zOf (n) (A)))))) (n) (A)) = true from sq_back (valid_gg _ _) (gz (by assumption)) z0 oA va) (.callF _ _ _ _ _ _ rfl (ress_cons rfl (ress_cons rfl ress_nil)) (f21 _ _ _ _ (by first | assumption | with_reducible exact len_gL' _ _ | with_reducible exact len_zL' _) (by first | assumption | with_reducible exact len_gL' _ _ | with_reducible exact len_zL' _)) rfl)) rfl ?_
          refine VList.go0 (n' := 35) rfl rfl (.pick _ _ _ _ _ rfl rfl) rfl ?_
          refine VList.go0 (n' := 36) rfl rfl (.assign _ _ rfl) rfl ?_
          refine VList.nil (Then.go ?_)
          exact VCode.ret (⟨trivial, [boolB (true)], (resVars_cons (resVar_tmp rfl rfl) resVars_nil), rfl⟩)
end Go.VL

set_option linter.unusedVariables false
set_option linter.unusedSimpArgs false
namespace Go.Proofs.Ytipajnobkladeaa
open Go.ChangeShapes Go.WideShapes Go.ChangeAt Go.RowKit Go.VL

set_option maxRecDepth 100000 in
theorem integerSquares_lifted (os : Os) (started : os.Started) (H : Type) (enc : TypeId × Value → H) :
    ReturnsInHanded {} Try.checked os 17 .any (Rows.integerSquaresSpec.pre6 enc Try.prog Try.f17 Rows.integerSquaresRow.domain false) (Rows.integerSquaresSpec.post enc Try.prog Try.f17 false true false false) := by
  refine returnsInHanded_of_change (C := Try.checked) Try_own started (by kernel_rfl) Try.func17
    (ChangeSpec.witness6 (enc := enc) (C := Try.checked) false ⟨#[], #[.agg #[.bool false, .slice none 0 0]], []⟩ 8 (by kernel_rfl) (by kernel_rfl) (by kernel_rfl) (by kernel_rfl)) ?_
  intro W base args ds gs before hval0 hW hcnd _
  have hval : ∀ (j : Nat) t v, Try.f17.params[j]? = some t → args[j]? = some v → Value.okWide Try.prog W .any base t v := hval0
  have hW' := hW
  obtain ⟨p, q, hA0, hV, rfl, hfz, hnd⟩ := hW
  have hA : DataW.TrodAll enc Try.prog W 0 (fun _ => true) true Try.f17.params.toList args.toList ds p := hA0
  have hA1 := hA
  rw [Try.params17] at hA hval
  obtain ⟨v0, d0, rfl, rfl, h0⟩ := trodAll_one hA
  obtain ⟨rfl, rfl⟩ := trodVars_none hV
  obtain ⟨n0, L0, r0, o0, l0⟩ := open_api (hval 0 24 v0 rfl rfl) h0
  simp only [List.append_nil] at hW'
  have hlt : ∀ x ∈ p, x.block < W.heap.size := fun x hx => hW'.lt x hx
  have hread : ∀ t ∈ Try.f17.params.toList, Try.prog.readableRec t = true ∧ t < Try.prog.types.size := by rw [Try.params17]; exact types_cons T24 (types_nil)
  refine ((f17 n0 L0 l0 o0).runs (xs := [v0]) rfl (reps_cons r0 reps_nil)).mono fun e W' ⟨he, hb⟩ => ?_
  subst he
  exact ⟨_, rfl, post_of_below (pa := _) (pv := []) hW' (fun _ _ _ => trodAll_mk1 shut_true) (fun sp hsp => args_stay Try_laidOut hb hread hA1 hlt hsp) (fun _ _ => rfl) (by simp) hb (ok_one (by kernel_rfl) rfl ok_true)⟩

theorem integerSquares_facts : joinedFacts Try.pinned.checked.prog 17 Try.f17 Rows.integerSquaresSpec Rows.integerSquaresRow = true := by
  unfold joinedFacts
  rw [head_may, head_lifts, head_make]
  kernel_rfl

theorem integerSquares_holds : Rows.IntegerSquaresSaid :=
  OpenClaim.holds_of_wide 17 Try.f17 rfl rfl rfl rfl rfl rfl rfl ⟨rfl, rfl, rfl, rfl, rfl⟩ rfl rfl rfl rfl rfl (by kernel_rfl) Try.func17 integerSquares_facts
    (of_decide_eq_true (by kernel_rfl)) (by unfold Func.isWrapper; rw [if_neg (of_decide_eq_false (by kernel_rfl))]; exact ⟨rfl, rfl⟩)
    (fun os started H enc _ => integerSquares_lifted os started H enc)

end Go.Proofs.Ytipajnobkladeaa
