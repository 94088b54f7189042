/- IntegerValid returns true for every input and leaves the input as it was. No condition. -/
import Derived.Test.YtipajnobkladeaaK3
/- Plain laws that the statements about rings and orders of integers need. No program here. -/
set_option linter.unusedVariables false
set_option linter.unusedSimpArgs false
namespace Go.VL

theorem same_gg {ok ok' : Bool} {z z' : Int} (h : ok = true) (h' : ok' = true) (e : z = z') : sameB (gN ok z) (gL ok z) (gN ok' z') (gL ok' z') = true := by
  subst e; rw [h, h']; exact sameB_refl _ _
theorem gz {ok : Bool} {z : Int} (h : gE ok z = 0) : zOf (gN ok z) (gL ok z) = z := zOf_gg (gE_zero.1 h).1 (gE_zero.1 h).2
theorem go {ok : Bool} {z : Int} (h : gE ok z = 0) : ok = true := (gE_zero.1 h).1
theorem ring_add {o1 o2 o3 o4 : Bool} {a b c : Int} (e : gE o1 (a + b) = 0) (f : gE o2 (zOf (gN o1 (a + b)) (gL o1 (a + b)) + c) = 0) (g : gE o3 (b + c) = 0) (h : gE o4 (a + zOf (gN o3 (b + c)) (gL o3 (b + c))) = 0) :
    sameB (gN o2 (zOf (gN o1 (a + b)) (gL o1 (a + b)) + c)) (gL o2 (zOf (gN o1 (a + b)) (gL o1 (a + b)) + c)) (gN o4 (a + zOf (gN o3 (b + c)) (gL o3 (b + c)))) (gL o4 (a + zOf (gN o3 (b + c)) (gL o3 (b + c)))) = true :=
  same_gg (go f) (go h) (by rw [gz e, gz g]; omega)
theorem ring_mul {o1 o2 o3 o4 : Bool} {a b c : Int} (e : gE o1 (a * b) = 0) (f : gE o2 (zOf (gN o1 (a * b)) (gL o1 (a * b)) * c) = 0) (g : gE o3 (b * c) = 0) (h : gE o4 (a * zOf (gN o3 (b * c)) (gL o3 (b * c))) = 0) :
    sameB (gN o2 (zOf (gN o1 (a * b)) (gL o1 (a * b)) * c)) (gL o2 (zOf (gN o1 (a * b)) (gL o1 (a * b)) * c)) (gN o4 (a * zOf (gN o3 (b * c)) (gL o3 (b * c)))) (gL o4 (a * zOf (gN o3 (b * c)) (gL o3 (b * c)))) = true :=
  same_gg (go f) (go h) (by rw [gz e, gz g, Int.mul_assoc])
theorem ring_dist {o1 o2 o3 o4 o5 : Bool} {a b c : Int} (e : gE o1 (a * b) = 0) (f : gE o2 (a * c) = 0) (g : gE o3 (b + c) = 0) (h : gE o4 (a * zOf (gN o3 (b + c)) (gL o3 (b + c))) = 0)
    (i : gE o5 (zOf (gN o1 (a * b)) (gL o1 (a * b)) + zOf (gN o2 (a * c)) (gL o2 (a * c))) = 0) :
    sameB (gN o4 (a * zOf (gN o3 (b + c)) (gL o3 (b + c)))) (gL o4 (a * zOf (gN o3 (b + c)) (gL o3 (b + c)))) (gN o5 (zOf (gN o1 (a * b)) (gL o1 (a * b)) + zOf (gN o2 (a * c)) (gL o2 (a * c)))) (gL o5 (zOf (gN o1 (a * b)) (gL o1 (a * b)) + zOf (gN o2 (a * c)) (gL o2 (a * c)))) = true :=
  same_gg (go h) (go i) (by rw [gz e, gz f, gz g, Int.mul_add])
theorem ring_dist' {o1 o2 o3 o4 o5 : Bool} {a b c : Int} (e : gE o1 (a * b) = 0) (f : gE o2 (a * c) = 0) (g : gE o3 (b - c) = 0) (h : gE o4 (a * zOf (gN o3 (b - c)) (gL o3 (b - c))) = 0)
    (i : gE o5 (zOf (gN o1 (a * b)) (gL o1 (a * b)) - zOf (gN o2 (a * c)) (gL o2 (a * c))) = 0) :
    sameB (gN o4 (a * zOf (gN o3 (b - c)) (gL o3 (b - c)))) (gL o4 (a * zOf (gN o3 (b - c)) (gL o3 (b - c)))) (gN o5 (zOf (gN o1 (a * b)) (gL o1 (a * b)) - zOf (gN o2 (a * c)) (gL o2 (a * c)))) (gL o5 (zOf (gN o1 (a * b)) (gL o1 (a * b)) - zOf (gN o2 (a * c)) (gL o2 (a * c)))) = true :=
  same_gg (go h) (go i) (by rw [gz e, gz f, gz g, Int.mul_sub])
theorem comm_E {u v : Bool} {x y : Int} (h : x = y) : gE (u && v) x = gE (v && u) y := by rw [Bool.and_comm, h]
theorem comm_same {u v : Bool} {x y : Int} (h : x = y) : sameB (gN (u && v) x) (gL (u && v) x) (gN (v && u) y) (gL (v && u) y) = true := by rw [Bool.and_comm, h]; exact sameB_refl _ _
theorem cmp3_anti (a b : Int) : cmp3 a b = -cmp3 b a := by
  unfold cmp3
  rcases Int.lt_trichotomy a b with h | h | h
  · rw [if_pos h, if_neg (by omega), if_neg (by omega)]
  · subst h; simp
  · rw [if_neg (by omega), if_neg (by omega), if_pos h]; rfl
theorem cmp3_le {a b : Int} : cmp3 a b ≤ 0 ↔ a ≤ b := by unfold cmp3; split <;> (try split) <;> omega
theorem cmp3_gt {a b : Int} : cmp3 a b > 0 ↔ b < a := by unfold cmp3; split <;> (try split) <;> omega
theorem cmp3_le' {a b : Int} : cmp3 a b ≥ 0 ↔ b ≤ a := by unfold cmp3; split <;> (try split) <;> omega
theorem cmp_same {n m : Bool} {A B : List Int} (oA : ok32 A) (oB : ok32 B) (va : validB n A = true) (vb : validB m B = true) : (cmp3 (zOf n A) (zOf m B) == 0) = sameB n A m B := by
  rw [Bool.eq_iff_iff, beq_iff_eq, cmp3_zero, sameB_iff]
  refine ⟨fun h => ?_, fun h => by rw [h.1, h.2]⟩
  have e1 := z_of oA va
  have e2 := z_of oB vb
  rw [h] at e1
  exact ⟨e1.1.symm.trans e2.1, e1.2.symm.trans e2.2⟩
theorem cmp3_shift {a b : Int} (c : Int) : cmp3 (a + c) (b + c) = cmp3 a b := by
  unfold cmp3
  rcases Int.lt_trichotomy a b with h | h | h
  · rw [if_pos h, if_pos (by omega)]
  · subst h; simp
  · rw [if_neg (by omega), if_neg (by omega), if_neg (by omega), if_neg (by omega)]
theorem in_zero : inB 0 = true := small_in (by decide) (by decide)
theorem ord_diff {o : Bool} {a b : Int} (h : gE o (a - b) = 0) : cC (validB (gN o (a - b)) (gL o (a - b)) && validB (zN 0) (zL 0)) (zOf (gN o (a - b)) (gL o (a - b))) (zOf (zN 0) (zL 0)) = cmp3 a b := by
  rw [valid_gg, valid_zz, cC_true (ok := true && true) rfl, gz h, zOf_z in_zero]
  have := cmp3_shift (a := a - b) (b := 0) b
  rw [show a - b + b = a by omega, show 0 + b = b by omega] at this
  exact this.symm
theorem ord_add {o1 o2 : Bool} {a b c : Int} (h1 : gE o1 (a + c) = 0) (h2 : gE o2 (b + c) = 0) :
    cC (validB (gN o1 (a + c)) (gL o1 (a + c)) && validB (gN o2 (b + c)) (gL o2 (b + c))) (zOf (gN o1 (a + c)) (gL o1 (a + c))) (zOf (gN o2 (b + c)) (gL o2 (b + c))) = cmp3 a b := by
  rw [valid_gg, valid_gg, cC_true (ok := true && true) rfl, gz h1, gz h2]
  exact cmp3_shift c
theorem beq_bool {x y : Bool} (h : x = y) : (x == y) = true := by subst h; simp
theorem vv {u v : Bool} (h1 : u = true) (h2 : v = true) : (u && v) = true := by rw [h1, h2]; rfl
end Go.VL

/- Plain laws that the statements about squares and division of integers need. No program here. -/
set_option linter.unusedVariables false
set_option linter.unusedSimpArgs false
namespace Go.VL

theorem in_le {x y : Int} (h : inB y = true) (h0 : 0 ≤ x) (h1 : x ≤ y) : inB x = true := by
  unfold inB at *; rw [decide_eq_true_iff] at *; omega
theorem in_abs {x : Int} (h0 : 0 ≤ x) (h1 : x < limit) : inB x = true := by unfold inB; rw [decide_eq_true_iff]; omega
theorem in_lt {x : Int} (h : inB x = true) : x < limit := by unfold inB at h; rw [decide_eq_true_iff] at h; omega
theorem four_limit : 16 < limit := by
  unfold limit
  have h3 := pow_mono (show 1 ≤ 128 by omega)
  have h4 : (4294967296 : Int) ^ 1 = 4294967296 := rfl
  rw [h4] at h3; omega
section sq
variable {n : Bool} {A : List Int}
theorem sq_z (va : validB n A = true) (oA : ok32 A) (hn : n = false) : 0 ≤ zOf n A ∧ inB (zOf n A) = true ∧ sqOk (validB n A) (zOf n A) = true := by
  have h := val_nonneg oA
  have e : zOf n A = val A := by rw [hn]; rfl
  refine ⟨by omega, in_of_valid oA va, ?_⟩
  unfold sqOk; rw [va]; simp; omega
theorem sq_in {z : Int} (h0 : 0 ≤ z) (hz : inB z = true) : inB (isq z) = true ∧ inB (isq z * isq z) = true ∧ inB (isq z + 1) = true := by
  obtain ⟨s0, s1, s2⟩ := isq_spec h0
  have h1 := isq_le h0
  refine ⟨in_le hz s0 h1, in_le hz (Int.mul_nonneg s0 s0) s1, ?_⟩
  by_cases h : isq z ≤ 2
  · have := four_limit; exact in_abs (by omega) (by omega)
  · have h2 := Int.mul_le_mul_of_nonneg_left (show 2 ≤ isq z by omega) s0
    exact in_le hz (by omega) (by omega)
theorem sq_x (va : validB n A = true) (oA : ok32 A) (hn : n = false) : zOf (gN (sqOk (validB n A) (zOf n A)) (isq (zOf n A))) (gL (sqOk (validB n A) (zOf n A)) (isq (zOf n A))) = isq (zOf n A) := by
  obtain ⟨h1, h2, h3⟩ := sq_z va oA hn
  exact zOf_gg h3 (sq_in h1 h2).1
theorem sqE_zero (va : validB n A = true) (oA : ok32 A) (hn : n = false) : sqE (validB n A) (zOf n A) = 0 := by
  obtain ⟨h1, h2, h3⟩ := sq_z va oA hn
  unfold sqE; rw [if_pos va, if_neg (by omega)]
end sq
theorem gE_in {ok : Bool} {z : Int} (h : ok = true) (hz : inB z = true) : gE ok z = 0 := gE_zero.2 ⟨h, hz⟩
theorem in_one : inB 1 = true := small_in (by decide) (by decide)
theorem isq_sq {z : Int} (h : 0 ≤ z) : isq (z * z) = z := isq_uniq h (Int.le_refl _) (by rw [Int.add_mul, Int.mul_add]; omega)
theorem gE_two {ok : Bool} {z : Int} (h : ok = true) (h2 : gE ok z ≠ 2) : gE ok z = 0 := by
  unfold gE at *; rw [if_pos h] at *; unfold zE at *; split <;> simp_all
/-- The quotient of two integers in the range is in the range. -/
theorem fdiv_in {x y : Int} (hx : inB x = true) (hy : y ≠ 0) : inB (x.fdiv y) = true := by
  obtain ⟨n, a, ha, rfl⟩ : ∃ (n : Bool) (a : Int), 0 ≤ a ∧ x = sg n a := by
    by_cases h : x < 0
    · exact ⟨true, -x, by omega, by simp [sg]⟩
    · exact ⟨false, x, by omega, by simp [sg]⟩
  obtain ⟨m, b, hb, rfl⟩ : ∃ (m : Bool) (b : Int), 0 < b ∧ y = sg m b := by
    by_cases h : y < 0
    · exact ⟨true, -y, by omega, by simp [sg]⟩
    · exact ⟨false, y, by omega, by simp [sg]⟩
  rw [inB_sg ha, decide_eq_true_iff] at hx
  have q0 := Int.ediv_nonneg ha (Int.le_of_lt hb)
  have q1 := Int.ediv_le_self b ha
  by_cases h : n = m
  · subst h
    rw [(fdiv_same ha hb).1]; exact in_abs q0 (by omega)
  · by_cases hr : a % b = 0
    · rw [(fdiv_even h ha hb hr).1]
      unfold inB; rw [decide_eq_true_iff]; omega
    · rw [(fdiv_odd h ha hb hr).1]
      have hb1 : b ≠ 1 := fun e => hr (by rw [e]; exact Int.emod_one _)
      have h2 : a / b * 2 ≤ a := by
        have h3 := Int.mul_ediv_self_le (x := a) (k := b) (by omega)
        have h4 := Int.mul_le_mul_of_nonneg_right (show 2 ≤ b by omega) q0
        rw [Int.mul_comm (a / b) 2]; omega
      have h5 : a ≠ 0 := fun e => hr (by rw [e]; exact Int.zero_emod _)
      unfold inB; rw [decide_eq_true_iff]; omega
theorem fmod_in {x y : Int} (hy : y ≠ 0) (hyb : inB y = true) : inB (x.fmod y) = true ∧ ((x.fmod y).natAbs < y.natAbs) ∧ (x.fmod y = 0 ∨ (x.fmod y < 0 ↔ y < 0)) := by
  have h : (x.fmod y).natAbs < y.natAbs ∧ (x.fmod y = 0 ∨ (x.fmod y < 0 ↔ y < 0)) := by
    obtain ⟨n, a, ha, rfl⟩ : ∃ (n : Bool) (a : Int), 0 ≤ a ∧ x = sg n a := by
      by_cases h : x < 0
      · exact ⟨true, -x, by omega, by simp [sg]⟩
      · exact ⟨false, x, by omega, by simp [sg]⟩
    obtain ⟨m, b, hb, rfl⟩ : ∃ (m : Bool) (b : Int), 0 < b ∧ y = sg m b := by
      by_cases h : y < 0
      · exact ⟨true, -y, by omega, by simp [sg]⟩
      · exact ⟨false, y, by omega, by simp [sg]⟩
    have m0 := Int.emod_nonneg a (show b ≠ 0 by omega)
    have m1 := Int.emod_lt_of_pos a hb
    by_cases h : n = m
    · subst h
      rw [(fdiv_same ha hb).2]
      cases n <;> simp [sg] <;> omega
    · by_cases hr : a % b = 0
      · rw [(fdiv_even h ha hb hr).2, hr]
        cases m <;> simp [sg] <;> omega
      · rw [(fdiv_odd h ha hb hr).2]
        cases m <;> simp [sg] <;> omega
  refine ⟨?_, h⟩
  unfold inB at *; rw [decide_eq_true_iff] at *; omega
theorem sq_c {ok v : Bool} {x q w : Int} (hx : x = q) (ho : ok = true) (hq : inB (q * q) = true) (hv : v = true) : cC (validB (gN ok (x * x)) (gL ok (x * x)) && v) (zOf (gN ok (x * x)) (gL ok (x * x))) w = cmp3 (q * q) w := by
  subst hx; rw [valid_gg, hv, cC_true (ok := true && true) rfl, zOf_gg ho hq]
theorem sq_d {ok v : Bool} {x q w : Int} (hx : x = q) (ho : ok = true) (h2 : gE ok (x * x) ≠ 2) (hv : v = true) : cC (validB (gN ok (x * x)) (gL ok (x * x)) && v) (zOf (gN ok (x * x)) (gL ok (x * x))) w = cmp3 (q * q) w := by
  have h := gE_two ho h2
  subst hx; rw [valid_gg, hv, cC_true (ok := true && true) rfl, gz h]
theorem cmp3_one {a w : Int} (h : w < a) : cmp3 a w = 1 := by unfold cmp3; rw [if_neg (by omega), if_neg (by omega)]
theorem sq_is {v : Bool} {z : Int} (h : sqOk v z = true) : sqB v z = (cmp3 (isq z * isq z) z == 0) := by
  rw [sqB, h, Bool.true_and, Bool.eq_iff_iff, beq_iff_eq, cmp3_zero, decide_eq_true_iff]
theorem sqE_pos {v : Bool} {z : Int} (h : v = true) (hz : 0 ≤ z) : sqE v z = 0 := by unfold sqE; rw [if_pos h, if_neg (by omega)]
theorem sqB_sq {v : Bool} {z' z : Int} (h : v = true) (e : z' = z * z) (hz : 0 ≤ z) : sqB v z' = true := by
  subst e
  have h1 := Int.mul_nonneg hz hz
  unfold sqB sqOk
  rw [h, isq_sq hz]; simp; exact h1
theorem sq_back {v n : Bool} {z' : Int} {A : List Int} (h : v = true) (e : z' = zOf n A * zOf n A) (hz : 0 ≤ zOf n A) (oA : ok32 A) (va : validB n A = true) : sameB (gN (sqOk v z') (isq z')) (gL (sqOk v z') (isq z')) n A = true := by
  subst e
  have h1 := Int.mul_nonneg hz hz
  have h2 : sqOk v (zOf n A * zOf n A) = true := by unfold sqOk; rw [h]; simp; exact h1
  rw [h2, isq_sq hz, (gg_yes rfl).1, (gg_yes rfl).2, (z_of oA va).1, (z_of oA va).2]
  exact sameB_refl _ _
/-- Division. -/
theorem dmE_bad {ok : Bool} {x y : Int} (h : ok = false) : dmE ok x y = 1 := by unfold dmE; rw [h]; rfl
theorem dmE_nil {ok : Bool} {x y : Int} (h : ok = true) (hy : y = 0) : dmE ok x y = 4 := by unfold dmE; rw [if_pos h, if_pos hy]
theorem dmE_yes {ok : Bool} {x y : Int} (h : ok = true) (hx : inB x = true) (hy : y ≠ 0) : dmE ok x y = 0 := by unfold dmE; rw [if_pos h, if_neg hy]; exact zE_in.2 (fdiv_in hx hy)
theorem okQ_yes {ok : Bool} {x y : Int} (h : ok = true) (hx : inB x = true) (hy : y ≠ 0) : okQ ok x y = true := by unfold okQ; rw [h, fdiv_in hx hy]; simp [hy]
theorem zOf_len {n : Bool} {A : List Int} (h : (A.length : Int) = 0) : zOf n A = 0 := by
  have : A = [] := List.length_eq_zero_iff.1 (by omega)
  subst this; cases n <;> rfl
theorem zOf_ne {n : Bool} {A : List Int} (oA : ok32 A) (v : validB n A = true) (h : (A.length : Int) ≠ 0) : zOf n A ≠ 0 := by
  obtain ⟨nA, lA, sA⟩ := valid_norm oA v
  have := norm_pos nA (fun e => h (by rw [e]; rfl))
  intro hc
  have := sg_zero.1 hc
  omega
theorem zOf_mag {n : Bool} {A : List Int} : zOf false A = val A := rfl
theorem val_abs {n : Bool} {A : List Int} (oA : ok32 A) : val A = ((zOf n A).natAbs : Int) := (sg_abs (val_nonneg oA)).symm
/-- A magnitude is a valid integer. -/
theorem valid_mag {n : Bool} {A : List Int} (v : validB n A = true) : validB false A = true := by
  by_cases h : A.length = 0
  · rw [validB_nil h]; rfl
  · unfold validB at *; rw [if_neg h] at *; exact v
theorem cE_yes {ok : Bool} (h : ok = true) : cE ok = 0 := cE_true h
theorem div_less {okr m : Bool} {r y : Int} {B : List Int} (oB : ok32 B) (vB' : validB m B = true) (ho : okr = true) (hr : inB r = true) (hy : y = zOf m B) (h : r.natAbs < y.natAbs) : cC (validB false (gL okr r) && validB false B) (zOf false (gL okr r)) (zOf false B) = -1 := by
  rw [valid_mag (n := gN okr r) (valid_gg okr r), valid_mag vB', cC_true (ok := true && true) rfl, zOf_mag (n := false), zOf_mag (n := false), val_abs (n := gN okr r) (ok32_gL _ _), val_abs (n := m) oB, zOf_gg ho hr]
  subst hy
  unfold cmp3; rw [if_pos (by omega)]
theorem div_sign {okr m : Bool} {r : Int} {B : List Int} (vB' : validB m B = true) (ho : okr = true) (hr : inB r = true) (h : r = 0 ∨ (r < 0 ↔ zOf m B < 0)) (hy : zOf m B ≠ 0)
    (hc : cC (validB (gN okr r) (gL okr r) && validB (zN 0) (zL 0)) (zOf (gN okr r) (gL okr r)) (zOf (zN 0) (zL 0)) ≠ 0) :
    cC (validB (gN okr r) (gL okr r) && validB (zN 0) (zL 0)) (zOf (gN okr r) (gL okr r)) (zOf (zN 0) (zL 0)) = cC (validB m B && validB (zN 0) (zL 0)) (zOf m B) (zOf (zN 0) (zL 0)) := by
  rw [valid_gg, valid_zz, cC_true (ok := true && true) rfl, zOf_gg ho hr, zOf_z in_zero] at *
  rw [vB', cC_true (ok := true && true) rfl]
  rw [Ne, cmp3_zero] at hc
  have h' := h.resolve_left hc
  unfold cmp3
  by_cases h0 : r < 0
  · rw [if_pos h0, if_pos (h'.1 h0)]
  · rw [if_neg h0, if_neg hc, if_neg (fun hh => h0 (h'.2 hh)), if_neg hy]
theorem div_back {g n o1 o2 : Bool} {x y : Int} {A : List Int} (oA : ok32 A) (va : validB n A = true) (hx : x = zOf n A) (hg : g = true) (hq : inB (x.fdiv y) = true) (hr : inB (x.fmod y) = true)
    (h1 : gE o1 (zOf (gN g (x.fdiv y)) (gL g (x.fdiv y)) * y) = 0)
    (h2 : gE o2 (zOf (gN o1 (zOf (gN g (x.fdiv y)) (gL g (x.fdiv y)) * y)) (gL o1 (zOf (gN g (x.fdiv y)) (gL g (x.fdiv y)) * y)) + zOf (gN g (x.fmod y)) (gL g (x.fmod y))) = 0) :
    sameB (gN o2 (zOf (gN o1 (zOf (gN g (x.fdiv y)) (gL g (x.fdiv y)) * y)) (gL o1 (zOf (gN g (x.fdiv y)) (gL g (x.fdiv y)) * y)) + zOf (gN g (x.fmod y)) (gL g (x.fmod y))))
      (gL o2 (zOf (gN o1 (zOf (gN g (x.fdiv y)) (gL g (x.fdiv y)) * y)) (gL o1 (zOf (gN g (x.fdiv y)) (gL g (x.fdiv y)) * y)) + zOf (gN g (x.fmod y)) (gL g (x.fmod y)))) n A = true := by
  have e : zOf (gN o1 (zOf (gN g (x.fdiv y)) (gL g (x.fdiv y)) * y)) (gL o1 (zOf (gN g (x.fdiv y)) (gL g (x.fdiv y)) * y)) + zOf (gN g (x.fmod y)) (gL g (x.fmod y)) = zOf n A := by
    rw [gz h1, zOf_gg hg hq, zOf_gg hg hr, ← hx]
    rw [Int.fmod_def x y, Int.mul_comm y]; omega
  rw [e, go h2, (gg_yes rfl).1, (gg_yes rfl).2, (z_of oA va).1, (z_of oA va).2]
  exact sameB_refl _ _
end Go.VL

/- Plain laws for the document's own functions: trimming, sum. No program here. -/
set_option linter.unusedVariables false
set_option linter.unusedSimpArgs false
namespace Go.VL

theorem val_trim {X : List Int} {q : Nat} (hq : q + 1 = X.length) (hz : X.getD q 0 = 0) : val (X.take q) = val X := by
  have h := val_take_step X q
  rw [hz, List.take_of_length_le (show X.length ≤ q + 1 by omega)] at h
  omega
theorem trim_done {L X : List Int} {q : Nat} (oX : ok32 X) (hv : val X = val L) (h : X.length = 0 ∨ (q + 1 = X.length ∧ X.getD q 0 ≠ 0)) : dg (val L) = X := by
  rw [← hv]
  refine dg_val ⟨oX, ?_⟩
  rcases h with h | ⟨h1, h2⟩
  · exact .inl h
  · refine .inr ?_
    rw [show X.length - 1 = q by omega]; exact h2
structure PlusInv (X Y O : List Int) (n : Nat) (c : Int) : Prop where
  le : n ≤ O.length
  lx : X.length < O.length
  ly : Y.length < O.length
  ok : ok32 (O.take n)
  c0 : 0 ≤ c
  c1 : c ≤ 1
  eq : val (O.take n) + 4294967296 ^ n * c = val (X.take n) + val (Y.take n)
theorem PlusInv.start {X Y O : List Int} (h1 : X.length < O.length) (h2 : Y.length < O.length) : PlusInv X Y O 0 0 := ⟨Nat.zero_le _, h1, h2, by simpa using ok32_nil, by omega, by omega, by simp [val]⟩
theorem PlusInv.step {X Y O : List Int} {n : Nat} {c t : Int} (hX : ok32 X) (hY : ok32 Y) (h : PlusInv X Y O n c) (hn : n < O.length) (ht : t = c + X.getD n 0 + Y.getD n 0) : PlusInv X Y (O.set n (t % 4294967296)) (n + 1) (t / 4294967296) := by
  have hx := ok32_getD hX n
  have hy := ok32_getD hY n
  have h0 := h.c0
  have h1 := h.c1
  refine ⟨by rw [List.length_set]; exact hn, by simpa using h.lx, by simpa using h.ly, ok32_take_set hn h.ok (by omega), by omega, by omega, ?_⟩
  rw [val_take_set _ _ _ hn, val_take_step X n, val_take_step Y n, Int.pow_succ]
  have e := h.eq
  generalize (4294967296 : Int) ^ n = p at e ⊢
  have e1 : p * t = p * (t % 4294967296) + p * 4294967296 * (t / 4294967296) := by
    rw [Int.mul_assoc, ← Int.mul_add]; congr 1; omega
  have e2 : p * t = p * c + p * X.getD n 0 + p * Y.getD n 0 := by rw [ht, Int.mul_add, Int.mul_add]
  omega
theorem PlusInv.fin {X Y O : List Int} {n : Nat} {c : Int} (hX : ok32 X) (hY : ok32 Y) (h : PlusInv X Y O n c) (hn : O.length ≤ n) : val O = val X + val Y ∧ ok32 O := by
  have h0 := h.c0
  have h1 := h.c1
  have e := h.eq
  have ok := h.ok
  have lx := h.lx
  have ly := h.ly
  have hn' : n = O.length := Nat.le_antisymm h.le hn
  subst hn'
  rw [List.take_of_length_le (Nat.le_refl _), List.take_of_length_le (by omega), List.take_of_length_le (by omega)] at e
  rw [List.take_of_length_le (Nat.le_refl _)] at ok
  have hv := val_nonneg ok
  have hx := val_lt hX
  have hy := val_lt hY
  obtain ⟨m, hm⟩ : ∃ m, O.length = m + 1 := ⟨O.length - 1, by omega⟩
  have hx2 := pow_mono (show X.length ≤ m by omega)
  have hy2 := pow_mono (show Y.length ≤ m by omega)
  rw [hm, Int.pow_succ] at e
  have hp := pow_pos m
  generalize (4294967296 : Int) ^ m = p at *
  have hc : c = 0 := by
    apply Classical.byContradiction
    intro hc
    have : c = 1 := by omega
    subst this
    omega
  subst hc
  exact ⟨by omega, ok⟩
theorem DiffInv.step2 {X Y O : List Int} {n : Nat} {w s x : Int} {b : Int} (hX : ok32 X) (hY : ok32 Y) (h : DiffInv X Y O n w) (hn : n < X.length) (hs : s = w + Y.getD n 0) (hx : X.getD n 0 < s ∧ x = (X.getD n 0 + 4294967296 - s) % 4294967296 ∧ b = 1 ∨ ¬ X.getD n 0 < s ∧ x = (X.getD n 0 - s) % 4294967296 ∧ b = 0) :
    DiffInv X Y (O.set n x) (n + 1) b := by
  have hx1 := ok32_getD hX n
  have hy := ok32_getD hY n
  have h0 := h.c0
  have h1 := h.c1
  have k := h.step hX hY hn (t := (X.getD n 0 - w - Y.getD n 0) % 18446744073709551616) rfl
  have e1 : (X.getD n 0 - w - Y.getD n 0) % 18446744073709551616 % 4294967296 = x := by rcases hx with ⟨a, e, _⟩ | ⟨a, e, _⟩ <;> omega
  have e2 : (X.getD n 0 - w - Y.getD n 0) % 18446744073709551616 / 9223372036854775808 = b := by rcases hx with ⟨a, _, e⟩ | ⟨a, _, e⟩ <;> omega
  rw [e1, e2] at k
  exact k
end Go.VL

/- Plain laws for the document's own functions: negation. No program here. -/
set_option linter.unusedVariables false
set_option linter.unusedSimpArgs false
namespace Go.VL

def ngB (m : Bool) (B : List Int) : Bool := !m && decide ((B.length : Int) > 0)
theorem ng_valid {m : Bool} {B : List Int} (v : validB m B = true) : validB (ngB m B) B = true := by
  by_cases h : B.length = 0
  · rw [validB_nil h]; unfold ngB; simp [h]
  · unfold validB at *; rw [if_neg h] at *; exact v
theorem ng_z {m : Bool} {B : List Int} (oB : ok32 B) (v : validB m B = true) : zOf (ngB m B) B = -zOf m B := by
  by_cases h : B.length = 0
  · rw [zOf_len (by omega), zOf_len (by omega)]; rfl
  · unfold ngB; rw [decide_eq_true (by omega), Bool.and_true]
    cases m <;> simp [sg]
theorem ng_sub {n m : Bool} {A B : List Int} (oB : ok32 B) (vb : validB m B = true) : gR (validB n A && validB (ngB m B) B) (zOf n A + zOf (ngB m B) B) = gR (validB n A && validB m B) (zOf n A - zOf m B) := by
  rw [ng_valid vb, ng_z oB vb, vb, ← Int.sub_eq_add_neg]
theorem len_w {x y : Int} (hx : 0 ≤ x ∧ x < 4294967296) (hy : 0 ≤ y ∧ y < 4294967296) : 0 + (dg (val [x, y])).length ≤ 1000000000000 := by
  have h := word_lt (ok32_two hx hy) (by simp)
  have h2 := (len_dg h.1 2).2 (by have e : (4294967296 : Int) ^ 2 = 18446744073709551616 := rfl
                                  omega)
  omega
theorem sm_of {j : Int} (h0 : -9223372036854775808 ≤ j) (h1 : j ≤ 9223372036854775807) : smB (zN j) (zL j) = true := by
  refine sm_val (valid_zz j) ?_
  rw [zOf_z (small_in h0 h1), eq_comm, decide_eq_true_iff]
  exact ⟨h0, h1⟩
theorem sm_back {j : Int} (h0 : -9223372036854775808 ≤ j) (h1 : j ≤ 9223372036854775807) : smI (zN j) (zL j) = j := by rw [sm_ok (sm_of h0 h1), zOf_z (small_in h0 h1)]
end Go.VL

/- Walks over the Go functions, printed by a program of this session over the kit's print, and by hand. -/
set_option linter.unusedVariables false
set_option linter.unusedSimpArgs false
namespace Go.VL
open Go.Proofs
theorem f66 (L : List Int) (hL : L.length ≤ 1000000000) (oL : ok32 L) : VF Try.prog 66 [u32S (L)] (u32S (dg (val L))) := by
  refine VF_of P_mixed Try.func66 rfl rfl (by kernel_rfl) ?_
  refine VCode.seq ?_
  refine VCode.region ?_
  refine VList.go0 (n' := 1) rfl rfl (.assign _ _ rfl) rfl ?_
  refine VList.nil (Then.go ?_)
  refine VCode.seq ?_
  refine VCode.block ?_
  refine VCode.loop (α := (List Int)) (fun (X : (List Int)) => (0, sl [(0, vS (X))], en [])) (fun (X : (List Int)) => (ok32 X ∧ X.length ≤ L.length) ∧ val X = val L) (fun (X : (List Int)) => X.length) (L) ⟨⟨oL, Nat.le_refl _⟩, rfl⟩ (Weak.of (show 0 ≤ 0 by decide) ⟨⟨rfl, rfl⟩, trivial⟩ trivial) ?_
  intro X hok
  obtain ⟨⟨oX, lX⟩, vX⟩ := hok
  show VCode Try.prog 0 _ 0 (sl [(0, vS (X))]) (en []) _
  refine VCode.seq ?_
  refine VCode.seq ?_
  refine VCode.region ?_
  refine VList.go0 (n' := 1) rfl rfl (.move _ _ rfl) rfl ?_
  refine VList.go0 (n' := 2) rfl rfl (Eff.lenS rfl Try.underlying22) rfl ?_
  refine VList.go0 (n' := 3) rfl rfl (.bin _ _ _ _ _ _ _ _ rfl rfl rfl) rfl ?_
  refine VList.go0 (n' := 4) rfl rfl (.move _ _ rfl) rfl ?_
  refine VList.split (d := 6) _ rfl (fun hc1 => ?_) (fun hc1 => ?_)
  · replace hc1 := of_decide_eq_true hc1
    refine VList.go0 (n' := 5) rfl rfl (.move _ _ rfl) rfl ?_
    refine VList.go0 (n' := 6) rfl rfl (.move _ _ rfl) rfl ?_
    refine VList.go0 (n' := 7) rfl rfl (Eff.lenS rfl Try.underlying22) rfl ?_
    refine VList.go0 (n' := 8) rfl rfl (.bin _ _ _ _ _ _ _ _ rfl rfl (bop_sub_i64 (by first | omega | (simp; done) | (simp; omega)))) rfl ?_
    refine VList.go0 (n' := 9) rfl rfl (Eff.indexRd rfl rfl Try.underlying22 P_sz51 (by first | omega | (simp; done) | (simp; omega)) (by first | omega | (simp; done) | (simp; omega))) rfl ?_
    refine VList.go0 (n' := 10) rfl rfl (.loadRd1 _ _ _ _ rfl P_agg51 rfl) rfl ?_
    refine VList.go0 (n' := 11) rfl rfl (.bin _ _ _ _ _ _ _ _ rfl rfl rfl) rfl ?_
    refine VList.go0 (n' := 12) rfl rfl (.pick _ _ _ _ _ rfl rfl) rfl ?_
    refine VList.nil (Then.go ?_)
    refine VCode.cond _ rfl (fun hc2 => ?_) (fun hc2 => ?_)
    · replace hc2 := eq_of_beq hc2
      refine VCode.skip (Then.go ?_)
      refine VCode.block ?_
      refine VCode.region ?_
      refine VList.go0 (n' := 13) rfl rfl (.move _ _ rfl) rfl ?_
      refine VList.go0 (n' := 14) rfl rfl (.move _ _ rfl) rfl ?_
      refine VList.go0 (n' := 15) rfl rfl (Eff.lenS rfl Try.underlying22) rfl ?_
      refine VList.go0 (n' := 16) rfl rfl (.bin _ _ _ _ _ _ _ _ rfl rfl (bop_sub_i64 (by first | omega | (simp; done) | (simp; omega)))) rfl ?_
      refine VList.go0 (n' := 17) rfl rfl (Eff.cutTo rfl rfl Try.underlying22 P_sz51 (by first | omega | (simp; done) | (simp; omega)) (by first | omega | (simp; done) | (simp; omega))) rfl ?_
      refine VList.go0 (n' := 18) rfl rfl (.assign _ _ rfl) rfl ?_
      exact VList.nil (InBlock.go (Round.go ((X).take ((((X).length : Int) - 1)).toNat) ⟨⟨ok32_take oX _, by simp; omega⟩, (val_trim (q := (((X).length : Int) - 1).toNat) (by omega) (by omega)).trans vX⟩ (by show (List.take _ X).length < X.length; rw [List.length_take]; omega) (Weak.of (show 0 ≤ 0 by decide) ⟨⟨rfl, rfl⟩, trivial⟩ trivial)))
    · replace hc2 := ne_of_beq_false hc2
      refine VCode.exit (Then.exit (Round.exit (InBlock.here (Then.go ?_))))
      refine VCode.seq ?_
      refine VCode.region ?_
      refine VList.go0 (n' := 13) rfl rfl (.move _ _ rfl) rfl ?_
      refine VList.go0 (n' := 14) rfl rfl (.assign _ _ rfl) rfl ?_
      refine VList.nil (Then.go ?_)
      exact VCode.ret (⟨trivial, [u32S (X)], (resVars_cons (resVar_tmp rfl rfl) resVars_nil), (by rw [trim_done (q := (((X).length : Int) - 1).toNat) oX vX (by first | (left; omega) | (right; exact ⟨by omega, by omega⟩))]; rfl)⟩)
  · replace hc1 := of_decide_eq_false hc1
    refine VList.skip (n' := 5) rfl rfl rfl ?_
    refine VList.skip (n' := 6) rfl rfl rfl ?_
    refine VList.skip (n' := 7) rfl rfl rfl ?_
    refine VList.skip (n' := 8) rfl rfl rfl ?_
    refine VList.skip (n' := 9) rfl rfl rfl ?_
    refine VList.skip (n' := 10) rfl rfl rfl ?_
    refine VList.skip (n' := 11) rfl rfl rfl ?_
    refine VList.go0 (n' := 12) rfl rfl (.pick _ _ _ _ _ rfl rfl) rfl ?_
    refine VList.nil (Then.go ?_)
    refine VCode.cond _ rfl (fun h_ => Bool.noConfusion h_) (fun _ => ?_)
    refine VCode.exit (Then.exit (Round.exit (InBlock.here (Then.go ?_))))
    refine VCode.seq ?_
    refine VCode.region ?_
    refine VList.go0 (n' := 13) rfl rfl (.move _ _ rfl) rfl ?_
    refine VList.go0 (n' := 14) rfl rfl (.assign _ _ rfl) rfl ?_
    refine VList.nil (Then.go ?_)
    exact VCode.ret (⟨trivial, [u32S (X)], (resVars_cons (resVar_tmp rfl rfl) resVars_nil), (by rw [trim_done (q := (((X).length : Int) - 1).toNat) oX vX (by first | (left; omega) | (right; exact ⟨by omega, by omega⟩))]; rfl)⟩)
theorem f58 (neg : Bool) (L : List Int) (hL : L.length ≤ 1000000000) (oL : ok32 L) : VF Try.prog 58 [boolB (neg), u32S (L)] (zR (sg neg (val L))) := by
  refine VF_of P_mixed Try.func58 rfl rfl (by kernel_rfl) ?_
  refine VCode.seq ?_
  refine VCode.region ?_
  refine VList.go1 (n' := 1) rfl rfl (.alloc _ _ P_zero24 (List.cons_ne_nil _ _)) rfl ?_
  refine VList.go0 (n' := 2) rfl rfl (.assign _ _ rfl) rfl ?_
  refine VList.nil (Then.go ?_)
  refine VCode.seq ?_
  refine VCode.region ?_
  refine VList.go0 (n' := 3) rfl rfl (.move _ _ rfl) rfl ?_
  refine VList.go0 (n' := 4) rfl rfl (Eff.callV0 rfl (ress_cons rfl ress_nil) (f66 _ (by first | omega | (simp; done) | (simp; omega)) (oL)) rfl) rfl ?_
  refine VList.go0 (n' := 5) rfl rfl (.assign _ _ rfl) rfl ?_
  refine VList.nil (Then.go ?_)
  refine VCode.seq ?_
  refine VCode.seq ?_
  have hv := val_nonneg oL
  refine VCode.region ?_
  refine VList.go0 (n' := 6) rfl rfl (.move _ _ rfl) rfl ?_
  refine VList.go0 (n' := 7) rfl rfl (Eff.lenS rfl Try.underlying22) rfl ?_
  refine VList.go0 (n' := 8) rfl rfl (.bin _ _ _ _ _ _ _ _ rfl rfl rfl) rfl ?_
  refine VList.nil (Then.go ?_)
  refine VCode.cond _ rfl (fun hc1 => ?_) (fun hc1 => ?_)
  · replace hc1 := of_decide_eq_true hc1
    refine VCode.seq ?_
    refine VCode.region ?_
    refine VList.go0 (n' := 9) rfl rfl Eff.int0 rfl ?_
    refine VList.goS (n' := 10) rfl rfl (.store _ _ _ _ _ _ _ rfl rfl rfl rfl P_sz24 (Nat.le_of_ble_eq_true rfl) rfl) rfl ?_
    refine VList.go0 (n' := 11) rfl rfl (.assign _ _ rfl) rfl ?_
    refine VList.nil (Then.go ?_)
    exact VCode.ret (Then.ret (⟨trivial, [.agg [boolB (false), u32S ([])], numB .i64 (2)], (resVars_cons (resVar_cell rfl rfl P_agg24 P_sz24 (Nat.le_of_ble_eq_true rfl) rfl) (resVars_cons (resVar_tmp rfl rfl) resVars_nil)), (by obtain ⟨r1, r2, r3⟩ := res_big (neg := neg) hv hc1; rw [zR, r1, r2, r3]; rfl)⟩))
  · replace hc1 := of_decide_eq_false hc1
    refine VCode.skip (Then.go ?_)
    refine VCode.seq ?_
    refine VCode.region ?_
    refine VList.go0 (n' := 9) rfl rfl (.move _ _ rfl) rfl ?_
    refine VList.go0 (n' := 10) rfl rfl (.move _ _ rfl) rfl ?_
    refine VList.split (d := 13) _ rfl (fun hc2 => ?_) (fun hc2 => ?_)
    · (try simp at hc2)
      refine VList.go0 (n' := 11) rfl rfl (.move _ _ rfl) rfl ?_
      refine VList.go0 (n' := 12) rfl rfl (Eff.lenS rfl Try.underlying22) rfl ?_
      refine VList.go0 (n' := 13) rfl rfl (.bin _ _ _ _ _ _ _ _ rfl rfl rfl) rfl ?_
      refine VList.go0 (n' := 14) rfl rfl (.pick _ _ _ _ _ rfl rfl) rfl ?_
      refine VList.go1 (n' := 15) rfl rfl (Eff.lits0 Try.underlying22 P_zero51 P_sz51) rfl ?_
      refine VList.go0 (n' := 16) rfl rfl (.move _ _ rfl) rfl ?_
      refine VList.goN (n' := 17) rfl rfl (Eff.appendRow rfl rfl (by first | omega | (simp; done) | (simp; omega)) rfl rfl (show _ ∉ ([] : List Nat) from List.not_mem_nil) Try.underlying22 P_sz51 P_bytes51 P_zero51 (by first | omega | (simp; done) | (simp; omega))) rfl ?_
      refine VList.go0 (n' := 18) rfl rfl (Eff.int2 rfl rfl rfl rfl) rfl ?_
      refine VList.goS (n' := 19) rfl rfl (.store _ _ _ _ _ _ _ rfl rfl rfl rfl P_sz24 (Nat.le_of_ble_eq_true rfl) rfl) rfl ?_
      refine VList.go0 (n' := 20) rfl rfl (.assign _ _ rfl) rfl ?_
      refine VList.nil (Then.go ?_)
      exact VCode.ret (⟨trivial, [.agg [boolB (decide (((dg (val (L))).length : Int) > 0)), u32S (([]) ++ (dg (val (L))))], numB .i64 (0)], (resVars_cons (resVar_cell rfl rfl P_agg24 P_sz24 (Nat.le_of_ble_eq_true rfl) (res_agg rfl (by simp))) (resVars_cons (resVar_tmp rfl rfl) resVars_nil)), (by obtain ⟨r1, r2, r3⟩ := res_small (neg := neg) hv hc1; rw [zR, r1, r2, r3, hc2, Bool.true_and]; rfl)⟩)
    · (try simp at hc2)
      refine VList.skip (n' := 11) rfl rfl rfl ?_
      refine VList.skip (n' := 12) rfl rfl rfl ?_
      refine VList.skip (n' := 13) rfl rfl rfl ?_
      refine VList.go0 (n' := 14) rfl rfl (.pick _ _ _ _ _ rfl rfl) rfl ?_
      refine VList.go1 (n' := 15) rfl rfl (Eff.lits0 Try.underlying22 P_zero51 P_sz51) rfl ?_
      refine VList.go0 (n' := 16) rfl rfl (.move _ _ rfl) rfl ?_
      refine VList.goN (n' := 17) rfl rfl (Eff.appendRow rfl rfl (by first | omega | (simp; done) | (simp; omega)) rfl rfl (show _ ∉ ([] : List Nat) from List.not_mem_nil) Try.underlying22 P_sz51 P_bytes51 P_zero51 (by first | omega | (simp; done) | (simp; omega))) rfl ?_
      refine VList.go0 (n' := 18) rfl rfl (Eff.int2 rfl rfl rfl rfl) rfl ?_
      refine VList.goS (n' := 19) rfl rfl (.store _ _ _ _ _ _ _ rfl rfl rfl rfl P_sz24 (Nat.le_of_ble_eq_true rfl) rfl) rfl ?_
      refine VList.go0 (n' := 20) rfl rfl (.assign _ _ rfl) rfl ?_
      refine VList.nil (Then.go ?_)
      exact VCode.ret (⟨trivial, [.agg [boolB (false), u32S (([]) ++ (dg (val (L))))], numB .i64 (0)], (resVars_cons (resVar_cell rfl rfl P_agg24 P_sz24 (Nat.le_of_ble_eq_true rfl) (res_agg rfl (by simp))) (resVars_cons (resVar_tmp rfl rfl) resVars_nil)), (by obtain ⟨r1, r2, r3⟩ := res_small (neg := neg) hv hc1; rw [zR, r1, r2, r3, hc2, Bool.false_and]; rfl)⟩)
theorem f72 (A B : List Int) (hA : A.length ≤ 900000000) (hB : B.length ≤ 900000000) (oA : ok32 A) (oB : ok32 B) (hn : A.length ≠ B.length → cmp3 (val A) (val B) = if A.length < B.length then -1 else 1) : VF Try.prog 72 [u32S (A), u32S (B)] (numB .i64 (cmp3 (val A) (val B))) := by
  refine VF_of P_mixed Try.func72 rfl rfl (by kernel_rfl) ?_
  refine VCode.seq ?_
  refine VCode.region ?_
  refine VList.go0 (n' := 1) rfl rfl (.assign _ _ rfl) rfl ?_
  refine VList.nil (Then.go ?_)
  refine VCode.seq ?_
  refine VCode.seq ?_
  refine VCode.region ?_
  refine VList.go0 (n' := 2) rfl rfl (.move _ _ rfl) rfl ?_
  refine VList.go0 (n' := 3) rfl rfl (Eff.lenS rfl Try.underlying22) rfl ?_
  refine VList.go0 (n' := 4) rfl rfl (.move _ _ rfl) rfl ?_
  refine VList.go0 (n' := 5) rfl rfl (Eff.lenS rfl Try.underlying22) rfl ?_
  refine VList.go0 (n' := 6) rfl rfl (.bin _ _ _ _ _ _ _ _ rfl rfl rfl) rfl ?_
  refine VList.nil (Then.go ?_)
  refine VCode.cond _ rfl (fun hc1 => ?_) (fun hc1 => ?_)
  · replace hc1 := bne_iff_ne.1 hc1
    refine VCode.seq ?_
    refine VCode.seq ?_
    refine VCode.region ?_
    refine VList.go0 (n' := 7) rfl rfl (.move _ _ rfl) rfl ?_
    refine VList.go0 (n' := 8) rfl rfl (Eff.lenS rfl Try.underlying22) rfl ?_
    refine VList.go0 (n' := 9) rfl rfl (.move _ _ rfl) rfl ?_
    refine VList.go0 (n' := 10) rfl rfl (Eff.lenS rfl Try.underlying22) rfl ?_
    refine VList.go0 (n' := 11) rfl rfl (.bin _ _ _ _ _ _ _ _ rfl rfl rfl) rfl ?_
    refine VList.nil (Then.go ?_)
    refine VCode.cond _ rfl (fun hc2 => ?_) (fun hc2 => ?_)
    · replace hc2 := of_decide_eq_true hc2
      refine VCode.seq ?_
      refine VCode.region ?_
      refine VList.go0 (n' := 12) rfl rfl (.assign _ _ rfl) rfl ?_
      refine VList.nil (Then.go ?_)
      exact VCode.ret (Then.ret (Then.ret (⟨trivial, [numB .i64 ((-1))], (resVars_cons (resVar_tmp rfl rfl) resVars_nil), (by rw [hn (by omega), if_pos (by omega)]; rfl)⟩)))
    · replace hc2 := of_decide_eq_false hc2
      refine VCode.skip (Then.go ?_)
      refine VCode.seq ?_
      refine VCode.region ?_
      refine VList.go0 (n' := 12) rfl rfl (.assign _ _ rfl) rfl ?_
      refine VList.nil (Then.go ?_)
      exact VCode.ret (Then.ret (⟨trivial, [numB .i64 (1)], (resVars_cons (resVar_tmp rfl rfl) resVars_nil), (by rw [hn (by omega), if_neg (by omega)]; rfl)⟩))
  · replace hc1 := bne_eq_false_iff_eq.1 hc1
    refine VCode.skip (Then.go ?_)
    refine VCode.seq ?_
    refine VCode.seq ?_
    refine VCode.region ?_
    refine VList.go0 (n' := 7) rfl rfl (.move _ _ rfl) rfl ?_
    refine VList.go0 (n' := 8) rfl rfl (Eff.lenS rfl Try.underlying22) rfl ?_
    refine VList.go0 (n' := 9) rfl rfl (.bin _ _ _ _ _ _ _ _ rfl rfl (bop_sub_i64 (by first | omega | (simp; done) | (simp; omega)))) rfl ?_
    refine VList.go0 (n' := 10) rfl rfl (.assign _ _ rfl) rfl ?_
    refine VList.nil (Then.go ?_)
    refine VCode.block ?_
    refine VCode.loop (α := (Int)) (fun (q : (Int)) => (0, sl [(0, vS (A)), (1, vS (B)), (5, vI .i64 (q))], en [])) (fun (q : (Int)) => CmpInv A B ((A.length : Int) - 1 - q).toNat ∧ -1 ≤ q ∧ q < A.length) (fun (q : (Int)) => (q + 1).toNat) (((A).length : Int) - 1) ⟨by rw [show ((A.length : Int) - 1 - (((A).length : Int) - 1)).toNat = 0 by omega]; exact CmpInv.start (by omega), by omega, by omega⟩ (Weak.of (show 0 ≤ 0 by decide) ⟨⟨rfl, rfl⟩, ⟨⟨rfl, rfl⟩, ⟨⟨rfl, rfl⟩, trivial⟩⟩⟩ trivial) ?_
    intro q hok
    obtain ⟨hC, hq1, hq2⟩ := hok
    have hlen := hC.len
    show VCode Try.prog 0 _ 0 (sl [(0, vS (A)), (1, vS (B)), (5, vI .i64 (q))]) (en []) _
    refine VCode.seq ?_
    refine VCode.seq ?_
    refine VCode.region ?_
    refine VList.go0 (n' := 1) rfl rfl (.move _ _ rfl) rfl ?_
    refine VList.go0 (n' := 2) rfl rfl (.bin _ _ _ _ _ _ _ _ rfl rfl rfl) rfl ?_
    refine VList.nil (Then.go ?_)
    refine VCode.cond _ rfl (fun hc3 => ?_) (fun hc3 => ?_)
    · replace hc3 := of_decide_eq_true hc3
      refine VCode.skip (Then.go ?_)
      refine VCode.seq ?_
      refine VCode.block ?_
      refine VCode.seq ?_
      refine VCode.seq ?_
      refine VCode.draw (by kernel_rfl) ?_
      refine VLog.go0 (n' := 3) rfl rfl (.move _ _ rfl) rfl ?_
      refine VLog.go0 (n' := 4) rfl rfl (.move _ _ rfl) rfl ?_
      refine VLog.go0 (n' := 5) rfl rfl (Eff.indexRd rfl rfl Try.underlying22 P_sz51 (by first | omega | (simp; done) | (simp; omega)) (by first | omega | (simp; done) | (simp; omega))) rfl ?_
      refine VLog.go0 (n' := 6) rfl rfl (.loadRd1 _ _ _ _ rfl P_agg51 rfl) rfl ?_
      refine VLog.go0 (n' := 7) rfl rfl (.move _ _ rfl) rfl ?_
      refine VLog.go0 (n' := 8) rfl rfl (.move _ _ rfl) rfl ?_
      refine VLog.go0 (n' := 9) rfl rfl (Eff.indexRd rfl rfl Try.underlying22 P_sz51 (by first | omega | (simp; done) | (simp; omega)) (by first | omega | (simp; done) | (simp; omega))) rfl ?_
      refine VLog.go0 (n' := 10) rfl rfl (.loadRd1 _ _ _ _ rfl P_agg51 rfl) rfl ?_
      refine VLog.go0 (n' := 11) rfl rfl (.bin _ _ _ _ _ _ _ _ rfl rfl rfl) rfl ?_
      refine VLog.nil ⟨by kernel_rfl, Then.go ?_⟩
      refine VCode.cond _ rfl (fun hc4 => ?_) (fun hc4 => ?_)
      · replace hc4 := of_decide_eq_true hc4
        refine VCode.seq ?_
        refine VCode.region ?_
        refine VList.go0 (n' := 12) rfl rfl (.assign _ _ rfl) rfl ?_
        refine VList.nil (Then.go ?_)
        exact VCode.ret (Then.ret (InBlock.ret (Then.ret (Round.ret (InBlock.ret (Then.ret (⟨trivial, [numB .i64 ((-1))], (resVars_cons (resVar_tmp rfl rfl) resVars_nil), (by rw [hC.diff (q := q.toNat) oA oB (by omega) (by omega), if_pos (by omega)]; rfl)⟩)))))))
      · replace hc4 := of_decide_eq_false hc4
        refine VCode.skip (Then.go ?_)
        refine VCode.seq ?_
        refine VCode.draw (by kernel_rfl) ?_
        refine VLog.go0 (n' := 12) rfl rfl (.move _ _ rfl) rfl ?_
        refine VLog.go0 (n' := 13) rfl rfl (.move _ _ rfl) rfl ?_
        refine VLog.go0 (n' := 14) rfl rfl (Eff.indexRd rfl rfl Try.underlying22 P_sz51 (by first | omega | (simp; done) | (simp; omega)) (by first | omega | (simp; done) | (simp; omega))) rfl ?_
        refine VLog.go0 (n' := 15) rfl rfl (.loadRd1 _ _ _ _ rfl P_agg51 rfl) rfl ?_
        refine VLog.go0 (n' := 16) rfl rfl (.move _ _ rfl) rfl ?_
        refine VLog.go0 (n' := 17) rfl rfl (.move _ _ rfl) rfl ?_
        refine VLog.go0 (n' := 18) rfl rfl (Eff.indexRd rfl rfl Try.underlying22 P_sz51 (by first | omega | (simp; done) | (simp; omega)) (by first | omega | (simp; done) | (simp; omega))) rfl ?_
        refine VLog.go0 (n' := 19) rfl rfl (.loadRd1 _ _ _ _ rfl P_agg51 rfl) rfl ?_
        refine VLog.go0 (n' := 20) rfl rfl (.bin _ _ _ _ _ _ _ _ rfl rfl rfl) rfl ?_
        refine VLog.nil ⟨by kernel_rfl, Then.go ?_⟩
        refine VCode.cond _ rfl (fun hc5 => ?_) (fun hc5 => ?_)
        · replace hc5 := of_decide_eq_true hc5
          refine VCode.seq ?_
          refine VCode.region ?_
          refine VList.go0 (n' := 21) rfl rfl (.assign _ _ rfl) rfl ?_
          refine VList.nil (Then.go ?_)
          exact VCode.ret (InBlock.ret (Then.ret (Round.ret (InBlock.ret (Then.ret (⟨trivial, [numB .i64 (1)], (resVars_cons (resVar_tmp rfl rfl) resVars_nil), (by rw [hC.diff (q := q.toNat) oA oB (by omega) (by omega), if_neg (by omega)]; rfl)⟩))))))
        · replace hc5 := of_decide_eq_false hc5
          refine VCode.skip (InBlock.go (Then.go ?_))
          refine VCode.region ?_
          refine VList.go0 (n' := 21) rfl rfl (.move _ _ rfl) rfl ?_
          refine VList.go0 (n' := 22) rfl rfl (.bin _ _ _ _ _ _ _ _ rfl rfl (bop_sub_i64 (by first | omega | (simp; done) | (simp; omega)))) rfl ?_
          refine VList.go0 (n' := 23) rfl rfl (.assign _ _ rfl) rfl ?_
          exact VList.nil (Round.go (q - 1) ⟨by rw [show ((A.length : Int) - 1 - (q - 1)).toNat = ((A.length : Int) - 1 - q).toNat + 1 by omega]; exact hC.step (q := q.toNat) (by omega) (by omega), by omega, by omega⟩ (by first | (dsimp only; omega) | omega) (Weak.of (show 0 ≤ 0 by decide) ⟨⟨rfl, rfl⟩, ⟨⟨rfl, rfl⟩, ⟨⟨rfl, rfl⟩, trivial⟩⟩⟩ trivial))
    · replace hc3 := of_decide_eq_false hc3
      refine VCode.exit (Then.exit (Round.exit (InBlock.here (Then.go ?_))))
      refine VCode.seq ?_
      refine VCode.region ?_
      refine VList.go0 (n' := 3) rfl rfl (.assign _ _ rfl) rfl ?_
      refine VList.nil (Then.go ?_)
      exact VCode.ret (⟨trivial, [numB .i64 (0)], (resVars_cons (resVar_tmp rfl rfl) resVars_nil), (by rw [hC.fin (by omega)]; rfl)⟩)
theorem f56 (A B : List Int) (hA : A.length ≤ 900000000) (hB : B.length ≤ 900000000) (oA : ok32 A) (oB : ok32 B) : VF Try.prog 56 [u32S (A), u32S (B)] (u32S (dg (val A + val B))) := by
  refine VF_of P_mixed Try.func56 rfl rfl (by kernel_rfl) ?_
  refine VCode.seq ?_
  refine VCode.region ?_
  refine VList.go0 (n' := 1) rfl rfl (.assign _ _ rfl) rfl ?_
  refine VList.nil (Then.go ?_)
  refine VCode.seq ?_
  have hM : ((A).length : Int) ≤ (if ((B).length : Int) > ((A).length : Int) then ((B).length : Int) else ((A).length : Int)) ∧ ((B).length : Int) ≤ (if ((B).length : Int) > ((A).length : Int) then ((B).length : Int) else ((A).length : Int)) ∧ (if ((B).length : Int) > ((A).length : Int) then ((B).length : Int) else ((A).length : Int)) ≤ 900000000 := by split <;> omega
  refine VCode.region ?_
  refine VList.go0 (n' := 2) rfl rfl (.move _ _ rfl) rfl ?_
  refine VList.go0 (n' := 3) rfl rfl (Eff.lenS rfl Try.underlying22) rfl ?_
  refine VList.go0 (n' := 4) rfl rfl (.move _ _ rfl) rfl ?_
  refine VList.go0 (n' := 5) rfl rfl (Eff.lenS rfl Try.underlying22) rfl ?_
  refine VList.go0 (n' := 6) rfl rfl (.max _ _ _ _ _ _ rfl rfl) rfl ?_
  refine VList.go0 (n' := 7) rfl rfl (.bin _ _ _ _ _ _ _ _ rfl rfl (bop_add_i64 (by first | omega | (simp; done) | (simp; omega)))) rfl ?_
  refine VList.go1 (n' := 8) rfl rfl (Eff.makeRow rfl Try.underlying22 P_zero51 P_sz51 P_bytes51 (by first | omega | (simp; done) | (simp; omega)) (by first | omega | (simp; done) | (simp; omega))) rfl ?_
  refine VList.go0 (n' := 9) rfl rfl (.assign _ _ rfl) rfl ?_
  refine VList.nil (Then.go ?_)
  refine VCode.seq ?_
  refine VCode.region ?_
  refine VList.go0 (n' := 10) rfl rfl (.assign _ _ rfl) rfl ?_
  refine VList.nil (Then.go ?_)
  refine VCode.seq ?_
  refine VCode.seq ?_
  refine VCode.region ?_
  refine VList.go0 (n' := 11) rfl rfl (.assign _ _ rfl) rfl ?_
  refine VList.nil (Then.go ?_)
  refine VCode.block ?_
  refine VCode.loop (α := (Nat) × (Int) × (List Int) × (Nat)) (fun (x_ : (Nat) × (Int) × (List Int) × (Nat)) => match x_ with | (n, c, O, m) => (91, sl [(0, vS (A)), (1, vS (B)), (5, .own 90 (m)), (6, vI .u64 (c)), (7, vI .i64 ((n : Int)))], en [(90, row (O))])) (fun (x_ : (Nat) × (Int) × (List Int) × (Nat)) => match x_ with | (n, c, O, m) => PlusInv A B O n c ∧ O.length = m ∧ m ≤ 900000001) (fun (x_ : (Nat) × (Int) × (List Int) × (Nat)) => match x_ with | (n, c, O, m) => m - n) (0, 0, List.replicate ((if ((B).length : Int) > ((A).length : Int) then ((B).length : Int) else ((A).length : Int)) + 1).toNat 0, ((if ((B).length : Int) > ((A).length : Int) then ((B).length : Int) else ((A).length : Int)) + 1).toNat) ⟨PlusInv.start (by simp; omega) (by simp; omega), by simp, by omega⟩ (Weak.ofR (fun i_ => match i_ with | 90 => 7 | i_ => i_) (show 0 ≤ 91 by decide) rfl rfl ⟨⟨rfl, rfl⟩, ⟨⟨rfl, rfl⟩, ⟨⟨rfl, rfl⟩, ⟨⟨rfl, rfl⟩, ⟨⟨rfl, rfl⟩, trivial⟩⟩⟩⟩⟩ ⟨⟨(by rw [row_ren]; rfl), (show 90 < 91 by decide), row_cells⟩, trivial⟩) ?_
  rintro ⟨n, c, O, m⟩ hok0
  obtain ⟨hok, hm, hm9⟩ := hok0
  show VCode Try.prog 0 _ 91 (sl [(0, vS (A)), (1, vS (B)), (5, .own 90 (m)), (6, vI .u64 (c)), (7, vI .i64 ((n : Int)))]) (en [(90, row (O))]) _
  refine VCode.seq ?_
  refine VCode.seq ?_
  refine VCode.region ?_
  refine VList.go0 (n' := 92) rfl rfl (.move _ _ rfl) rfl ?_
  refine VList.go0 (n' := 93) rfl rfl (.move _ _ rfl) rfl ?_
  refine VList.go0 (n' := 94) rfl rfl (Eff.lenO rfl Try.underlying22) rfl ?_
  refine VList.go0 (n' := 95) rfl rfl (.bin _ _ _ _ _ _ _ _ rfl rfl rfl) rfl ?_
  refine VList.nil (Then.go ?_)
  refine VCode.cond _ rfl (fun hc1 => ?_) (fun hc1 => ?_)
  · replace hc1 := of_decide_eq_true hc1
    refine VCode.skip (Then.go ?_)
    refine VCode.seq ?_
    refine VCode.block ?_
    refine VCode.seq ?_
    have hx := ok32_getD oA n
    have hy := ok32_getD oB n
    have h0 := hok.c0
    have h1 := hok.c1
    refine VCode.region ?_
    refine VList.go0 (n' := 96) rfl rfl (.move _ _ rfl) rfl ?_
    refine VList.go0 (n' := 97) rfl rfl (.assign _ _ rfl) rfl ?_
    refine VList.nil (Then.go ?_)
    refine VCode.join (α := (Int)) (fun (s : (Int)) => (91, sl [(0, vS (A)), (1, vS (B)), (5, .own 90 (m)), (7, vI .i64 ((n : Int))), (8, vI .u64 (s))], en [(90, row (O))])) (fun (s : (Int)) => s = c + A.getD n 0) ?_ ?_
    · skip
      refine VCode.seq ?_
      refine VCode.region ?_
      refine VList.go0 (n' := 98) rfl rfl (.move _ _ rfl) rfl ?_
      refine VList.go0 (n' := 99) rfl rfl (.move _ _ rfl) rfl ?_
      refine VList.go0 (n' := 100) rfl rfl (Eff.lenS rfl Try.underlying22) rfl ?_
      refine VList.go0 (n' := 101) rfl rfl (.bin _ _ _ _ _ _ _ _ rfl rfl rfl) rfl ?_
      refine VList.nil (Then.go ?_)
      refine VCode.cond _ rfl (fun hc2 => ?_) (fun hc2 => ?_)
      · replace hc2 := of_decide_eq_true hc2
        refine VCode.region ?_
        refine VList.go0 (n' := 102) rfl rfl (.move _ _ rfl) rfl ?_
        refine VList.go0 (n' := 103) rfl rfl (.move _ _ rfl) rfl ?_
        refine VList.go0 (n' := 104) rfl rfl (.move _ _ rfl) rfl ?_
        refine VList.go0 (n' := 105) rfl rfl (Eff.indexRdN rfl rfl Try.underlying22 P_sz51 (by first | omega | (simp; done) | (simp; omega))) rfl ?_
        refine VList.go0 (n' := 106) rfl rfl (.loadRd1 _ _ _ _ rfl P_agg51 rfl) rfl ?_
        refine VList.go0 (n' := 107) rfl rfl (Eff.convN_u64 rfl Try.underlying51 Try.underlying62 (by first | omega | (simp; done) | (simp; omega))) rfl ?_
        refine VList.go0 (n' := 108) rfl rfl (.bin _ _ _ _ _ _ _ _ rfl rfl (bop_add_u64 (by first | omega | (simp; done) | (simp; omega)))) rfl ?_
        refine VList.go0 (n' := 109) rfl rfl (.assign _ _ rfl) rfl ?_
        exact VList.nil (Joins.go ((c + (A).getD (n) 0)) rfl (Weak.of (show 0 ≤ 91 by decide) ⟨⟨rfl, rfl⟩, ⟨⟨rfl, rfl⟩, ⟨⟨rfl, rfl⟩, ⟨⟨rfl, rfl⟩, ⟨⟨rfl, rfl⟩, trivial⟩⟩⟩⟩⟩ ⟨⟨rfl, (show 90 < 91 by decide), row_cells⟩, trivial⟩))
      · replace hc2 := of_decide_eq_false hc2
        exact VCode.skip (Joins.go (c) (by rw [getD_out (L := A) (by omega)]; omega) (Weak.of (show 0 ≤ 91 by decide) ⟨⟨rfl, rfl⟩, ⟨⟨rfl, rfl⟩, ⟨⟨rfl, rfl⟩, ⟨⟨rfl, rfl⟩, ⟨⟨rfl, rfl⟩, trivial⟩⟩⟩⟩⟩ ⟨⟨rfl, (show 90 < 91 by decide), row_cells⟩, trivial⟩))
    · intro s hs
      show VCode Try.prog 0 _ 91 (sl [(0, vS (A)), (1, vS (B)), (5, .own 90 (m)), (7, vI .i64 ((n : Int))), (8, vI .u64 (s))]) (en [(90, row (O))]) _
      refine VCode.join (α := (Int)) (fun (t : (Int)) => (91, sl [(0, vS (A)), (1, vS (B)), (5, .own 90 (m)), (7, vI .i64 ((n : Int))), (8, vI .u64 (t))], en [(90, row (O))])) (fun (t : (Int)) => t = c + A.getD n 0 + B.getD n 0) ?_ ?_
      · skip
        refine VCode.seq ?_
        refine VCode.region ?_
        refine VList.go0 (n' := 92) rfl rfl (.move _ _ rfl) rfl ?_
        refine VList.go0 (n' := 93) rfl rfl (.move _ _ rfl) rfl ?_
        refine VList.go0 (n' := 94) rfl rfl (Eff.lenS rfl Try.underlying22) rfl ?_
        refine VList.go0 (n' := 95) rfl rfl (.bin _ _ _ _ _ _ _ _ rfl rfl rfl) rfl ?_
        refine VList.nil (Then.go ?_)
        refine VCode.cond _ rfl (fun hc3 => ?_) (fun hc3 => ?_)
        · replace hc3 := of_decide_eq_true hc3
          refine VCode.region ?_
          refine VList.go0 (n' := 96) rfl rfl (.move _ _ rfl) rfl ?_
          refine VList.go0 (n' := 97) rfl rfl (.move _ _ rfl) rfl ?_
          refine VList.go0 (n' := 98) rfl rfl (.move _ _ rfl) rfl ?_
          refine VList.go0 (n' := 99) rfl rfl (Eff.indexRdN rfl rfl Try.underlying22 P_sz51 (by first | omega | (simp; done) | (simp; omega))) rfl ?_
          refine VList.go0 (n' := 100) rfl rfl (.loadRd1 _ _ _ _ rfl P_agg51 rfl) rfl ?_
          refine VList.go0 (n' := 101) rfl rfl (Eff.convN_u64 rfl Try.underlying51 Try.underlying62 (by first | omega | (simp; done) | (simp; omega))) rfl ?_
          refine VList.go0 (n' := 102) rfl rfl (.bin _ _ _ _ _ _ _ _ rfl rfl (bop_add_u64 (by first | omega | (simp; done) | (simp; omega)))) rfl ?_
          refine VList.go0 (n' := 103) rfl rfl (.assign _ _ rfl) rfl ?_
          exact VList.nil (Joins.go ((s + (B).getD (n) 0)) (by omega) (Weak.of (show 0 ≤ 91 by decide) ⟨⟨rfl, rfl⟩, ⟨⟨rfl, rfl⟩, ⟨⟨rfl, rfl⟩, ⟨⟨rfl, rfl⟩, ⟨⟨rfl, rfl⟩, trivial⟩⟩⟩⟩⟩ ⟨⟨rfl, (show 90 < 91 by decide), row_cells⟩, trivial⟩))
        · replace hc3 := of_decide_eq_false hc3
          exact VCode.skip (Joins.go (s) (by rw [getD_out (L := B) (by omega)]; omega) (Weak.of (show 0 ≤ 91 by decide) ⟨⟨rfl, rfl⟩, ⟨⟨rfl, rfl⟩, ⟨⟨rfl, rfl⟩, ⟨⟨rfl, rfl⟩, ⟨⟨rfl, rfl⟩, trivial⟩⟩⟩⟩⟩ ⟨⟨rfl, (show 90 < 91 by decide), row_cells⟩, trivial⟩))
      · intro t ht
        show VCode Try.prog 0 _ 91 (sl [(0, vS (A)), (1, vS (B)), (5, .own 90 (m)), (7, vI .i64 ((n : Int))), (8, vI .u64 (t))]) (en [(90, row (O))]) _
        refine VCode.seq ?_
        refine VCode.region ?_
        refine VList.go0 (n' := 92) rfl rfl (.move _ _ rfl) rfl ?_
        refine VList.go0 (n' := 93) rfl rfl (.move _ _ rfl) rfl ?_
        refine VList.go0 (n' := 94) rfl rfl (.move _ _ rfl) rfl ?_
        refine VList.go0 (n' := 95) rfl rfl (Eff.convM_u32 rfl Try.underlying62 Try.underlying51) rfl ?_
        refine VList.go0 (n' := 96) rfl rfl (Eff.indexRowN rfl rfl Try.underlying22 P_sz51 (by first | omega | (simp; done) | (simp; omega))) rfl ?_
        refine VList.goS (n' := 97) rfl rfl (Eff.store32 rfl rfl rfl P_sz51 (by first | omega | (simp; done) | (simp; omega))) rfl ?_
        refine VList.nil (Then.go ?_)
        refine VCode.region ?_
        refine VList.go0 (n' := 98) rfl rfl (.move _ _ rfl) rfl ?_
        refine VList.go0 (n' := 99) rfl rfl (.bin _ _ _ _ _ _ _ _ rfl rfl (bop_quo_u64 (by first | omega | (simp; done) | (simp; omega)) (by first | omega | (simp; done) | (simp; omega)) (by first | omega | (simp; done) | (simp; omega)))) rfl ?_
        refine VList.go0 (n' := 100) rfl rfl (.assign _ _ rfl) rfl ?_
        refine VList.nil (InBlock.go (Then.go ?_))
        refine VCode.region ?_
        refine VList.go0 (n' := 101) rfl rfl (.move _ _ rfl) rfl ?_
        refine VList.go0 (n' := 102) rfl rfl (.bin _ _ _ _ _ _ _ _ rfl rfl (bop_add_i64 (by first | omega | (simp; done) | (simp; omega)))) rfl ?_
        refine VList.go0 (n' := 103) rfl rfl (.assign _ _ rfl) rfl ?_
        exact VList.nil (Round.go (n + 1, t / 4294967296, (O).set ((n)) (((t) % 4294967296)), m) ⟨hok.step oA oB (by omega) (by omega), by simp [hm], hm9⟩ (by first | (dsimp only; omega) | omega) (Weak.of (show 0 ≤ 91 by decide) ⟨⟨rfl, rfl⟩, ⟨⟨rfl, rfl⟩, ⟨⟨rfl, rfl⟩, ⟨⟨rfl, rfl⟩, ⟨⟨rfl, rfl⟩, trivial⟩⟩⟩⟩⟩ ⟨⟨rfl, (show 90 < 91 by decide), row_cells⟩, trivial⟩))
  · replace hc1 := of_decide_eq_false hc1
    refine VCode.exit (Then.exit (Round.exit (InBlock.here (Then.go ?_))))
    refine VCode.seq ?_
    obtain ⟨e1, e2⟩ := hok.fin oA oB (by omega)
    have hle := hok.le
    refine VCode.region ?_
    refine VList.go0 (n' := 96) rfl rfl (.move _ _ rfl) rfl ?_
    refine VList.goN (n' := 97) rfl rfl (.callV _ _ _ _ _ _ rfl (ress_cons (res_row rfl (by first | omega | (simp; done) | (simp; omega) | (simp [*]; done) | (simp [*]; omega))) ress_nil) (f66 _ (by first | omega | (simp; done) | (simp; omega)) (e2))) rfl ?_
    refine VList.go0 (n' := 98) rfl rfl (.assign _ _ rfl) rfl ?_
    refine VList.nil (Then.go ?_)
    exact VCode.ret (⟨trivial, [u32S (dg (val (O)))], (resVars_cons (resVar_tmp rfl rfl) resVars_nil), (by rw [e1]; rfl)⟩)
theorem f57 (A B : List Int) (hA : A.length ≤ 900000000) (hB : B.length ≤ 900000000) (oA : ok32 A) (oB : ok32 B) (hl : B.length ≤ A.length) (hv : val B ≤ val A) : VF Try.prog 57 [u32S (A), u32S (B)] (u32S (dg (val A - val B))) := by
  refine VF_of P_mixed Try.func57 rfl rfl (by kernel_rfl) ?_
  refine VCode.seq ?_
  refine VCode.region ?_
  refine VList.go0 (n' := 1) rfl rfl (.assign _ _ rfl) rfl ?_
  refine VList.nil (Then.go ?_)
  refine VCode.seq ?_
  refine VCode.region ?_
  refine VList.go0 (n' := 2) rfl rfl (.move _ _ rfl) rfl ?_
  refine VList.go0 (n' := 3) rfl rfl (Eff.lenS rfl Try.underlying22) rfl ?_
  refine VList.go1 (n' := 4) rfl rfl (Eff.makeRow rfl Try.underlying22 P_zero51 P_sz51 P_bytes51 (by first | omega | (simp; done) | (simp; omega)) (by first | omega | (simp; done) | (simp; omega))) rfl ?_
  refine VList.go0 (n' := 5) rfl rfl (.assign _ _ rfl) rfl ?_
  refine VList.nil (Then.go ?_)
  refine VCode.seq ?_
  refine VCode.region ?_
  refine VList.go0 (n' := 6) rfl rfl (.assign _ _ rfl) rfl ?_
  refine VList.nil (Then.go ?_)
  refine VCode.seq ?_
  refine VCode.seq ?_
  refine VCode.region ?_
  refine VList.go0 (n' := 7) rfl rfl (.assign _ _ rfl) rfl ?_
  refine VList.nil (Then.go ?_)
  refine VCode.block ?_
  refine VCode.loop (α := (Nat) × (Int) × (List Int)) (fun (x_ : (Nat) × (Int) × (List Int)) => match x_ with | (n, c, O) => (4, sl [(0, vS (A)), (1, vS (B)), (5, .own 3 ((((A).length : Int)).toNat)), (6, vI .u64 (c)), (7, vI .i64 ((n : Int)))], en [(3, row (O))])) (fun (x_ : (Nat) × (Int) × (List Int)) => match x_ with | (n, c, O) => DiffInv A B O n c) (fun (x_ : (Nat) × (Int) × (List Int)) => match x_ with | (n, c, O) => A.length - n) (0, 0, List.replicate (((A).length : Int)).toNat 0) (DiffInv.start (by simp)) (Weak.of (show 0 ≤ 4 by decide) ⟨⟨rfl, rfl⟩, ⟨⟨rfl, rfl⟩, ⟨⟨rfl, rfl⟩, ⟨⟨rfl, rfl⟩, ⟨⟨rfl, rfl⟩, trivial⟩⟩⟩⟩⟩ ⟨⟨rfl, (show 3 < 4 by decide), row_cells⟩, trivial⟩) ?_
  rintro ⟨n, c, O⟩ hok
  show VCode Try.prog 0 _ 4 (sl [(0, vS (A)), (1, vS (B)), (5, .own 3 ((((A).length : Int)).toNat)), (6, vI .u64 (c)), (7, vI .i64 ((n : Int)))]) (en [(3, row (O))]) _
  refine VCode.seq ?_
  refine VCode.seq ?_
  refine VCode.region ?_
  refine VList.go0 (n' := 5) rfl rfl (.move _ _ rfl) rfl ?_
  refine VList.go0 (n' := 6) rfl rfl (.move _ _ rfl) rfl ?_
  refine VList.go0 (n' := 7) rfl rfl (Eff.lenS rfl Try.underlying22) rfl ?_
  refine VList.go0 (n' := 8) rfl rfl (.bin _ _ _ _ _ _ _ _ rfl rfl rfl) rfl ?_
  refine VList.nil (Then.go ?_)
  refine VCode.cond _ rfl (fun hc1 => ?_) (fun hc1 => ?_)
  · replace hc1 := of_decide_eq_true hc1
    refine VCode.skip (Then.go ?_)
    refine VCode.seq ?_
    refine VCode.block ?_
    refine VCode.seq ?_
    have hx := ok32_getD oA n
    have hy := ok32_getD oB n
    have h0 := hok.c0
    have h1 := hok.c1
    have hO := hok.len
    refine VCode.region ?_
    refine VList.go0 (n' := 9) rfl rfl (.move _ _ rfl) rfl ?_
    refine VList.go0 (n' := 10) rfl rfl (.assign _ _ rfl) rfl ?_
    refine VList.nil (Then.go ?_)
    refine VCode.join (α := (Int)) (fun (s : (Int)) => (4, sl [(0, vS (A)), (1, vS (B)), (5, .own 3 ((((A).length : Int)).toNat)), (7, vI .i64 ((n : Int))), (8, vI .u64 (s))], en [(3, row (O))])) (fun (s : (Int)) => s = c + B.getD n 0) ?_ ?_
    · skip
      refine VCode.seq ?_
      refine VCode.region ?_
      refine VList.go0 (n' := 11) rfl rfl (.move _ _ rfl) rfl ?_
      refine VList.go0 (n' := 12) rfl rfl (.move _ _ rfl) rfl ?_
      refine VList.go0 (n' := 13) rfl rfl (Eff.lenS rfl Try.underlying22) rfl ?_
      refine VList.go0 (n' := 14) rfl rfl (.bin _ _ _ _ _ _ _ _ rfl rfl rfl) rfl ?_
      refine VList.nil (Then.go ?_)
      refine VCode.cond _ rfl (fun hc2 => ?_) (fun hc2 => ?_)
      · replace hc2 := of_decide_eq_true hc2
        refine VCode.region ?_
        refine VList.go0 (n' := 15) rfl rfl (.move _ _ rfl) rfl ?_
        refine VList.go0 (n' := 16) rfl rfl (.move _ _ rfl) rfl ?_
        refine VList.go0 (n' := 17) rfl rfl (.move _ _ rfl) rfl ?_
        refine VList.go0 (n' := 18) rfl rfl (Eff.indexRdN rfl rfl Try.underlying22 P_sz51 (by first | omega | (simp; done) | (simp; omega))) rfl ?_
        refine VList.go0 (n' := 19) rfl rfl (.loadRd1 _ _ _ _ rfl P_agg51 rfl) rfl ?_
        refine VList.go0 (n' := 20) rfl rfl (Eff.convN_u64 rfl Try.underlying51 Try.underlying62 (by first | omega | (simp; done) | (simp; omega))) rfl ?_
        refine VList.go0 (n' := 21) rfl rfl (.bin _ _ _ _ _ _ _ _ rfl rfl (bop_add_u64 (by first | omega | (simp; done) | (simp; omega)))) rfl ?_
        refine VList.go0 (n' := 22) rfl rfl (.assign _ _ rfl) rfl ?_
        exact VList.nil (Joins.go ((c + (B).getD (n) 0)) rfl (Weak.of (show 0 ≤ 4 by decide) ⟨⟨rfl, rfl⟩, ⟨⟨rfl, rfl⟩, ⟨⟨rfl, rfl⟩, ⟨⟨rfl, rfl⟩, ⟨⟨rfl, rfl⟩, trivial⟩⟩⟩⟩⟩ ⟨⟨rfl, (show 3 < 4 by decide), row_cells⟩, trivial⟩))
      · replace hc2 := of_decide_eq_false hc2
        exact VCode.skip (Joins.go (c) (by rw [getD_out (L := B) (by omega)]; omega) (Weak.of (show 0 ≤ 4 by decide) ⟨⟨rfl, rfl⟩, ⟨⟨rfl, rfl⟩, ⟨⟨rfl, rfl⟩, ⟨⟨rfl, rfl⟩, ⟨⟨rfl, rfl⟩, trivial⟩⟩⟩⟩⟩ ⟨⟨rfl, (show 3 < 4 by decide), row_cells⟩, trivial⟩))
    · intro s hs
      show VCode Try.prog 0 _ 4 (sl [(0, vS (A)), (1, vS (B)), (5, .own 3 ((((A).length : Int)).toNat)), (7, vI .i64 ((n : Int))), (8, vI .u64 (s))]) (en [(3, row (O))]) _
      refine VCode.seq ?_
      refine VCode.region ?_
      refine VList.go0 (n' := 5) rfl rfl (.move _ _ rfl) rfl ?_
      refine VList.go0 (n' := 6) rfl rfl (.move _ _ rfl) rfl ?_
      refine VList.go0 (n' := 7) rfl rfl (Eff.indexRdN rfl rfl Try.underlying22 P_sz51 (by first | omega | (simp; done) | (simp; omega))) rfl ?_
      refine VList.go0 (n' := 8) rfl rfl (.loadRd1 _ _ _ _ rfl P_agg51 rfl) rfl ?_
      refine VList.go0 (n' := 9) rfl rfl (Eff.convN_u64 rfl Try.underlying51 Try.underlying62 (by first | omega | (simp; done) | (simp; omega))) rfl ?_
      refine VList.go0 (n' := 10) rfl rfl (.move _ _ rfl) rfl ?_
      refine VList.go0 (n' := 11) rfl rfl (.bin _ _ _ _ _ _ _ _ rfl rfl rfl) rfl ?_
      refine VList.nil (Then.go ?_)
      refine VCode.cond _ rfl (fun hc3 => ?_) (fun hc3 => ?_)
      · replace hc3 := of_decide_eq_true hc3
        refine VCode.seq ?_
        refine VCode.region ?_
        refine VList.go0 (n' := 12) rfl rfl (.move _ _ rfl) rfl ?_
        refine VList.go0 (n' := 13) rfl rfl (.move _ _ rfl) rfl ?_
        refine VList.go0 (n' := 14) rfl rfl (.move _ _ rfl) rfl ?_
        refine VList.go0 (n' := 15) rfl rfl (.move _ _ rfl) rfl ?_
        refine VList.go0 (n' := 16) rfl rfl (Eff.indexRdN rfl rfl Try.underlying22 P_sz51 (by first | omega | (simp; done) | (simp; omega))) rfl ?_
        refine VList.go0 (n' := 17) rfl rfl (.loadRd1 _ _ _ _ rfl P_agg51 rfl) rfl ?_
        refine VList.go0 (n' := 18) rfl rfl (Eff.convN_u64 rfl Try.underlying51 Try.underlying62 (by first | omega | (simp; done) | (simp; omega))) rfl ?_
        refine VList.go0 (n' := 19) rfl rfl (.bin _ _ _ _ _ _ _ _ rfl rfl (bop_add_u64 (by first | omega | (simp; done) | (simp; omega)))) rfl ?_
        refine VList.go0 (n' := 20) rfl rfl (.move _ _ rfl) rfl ?_
        refine VList.go0 (n' := 21) rfl rfl (.bin _ _ _ _ _ _ _ _ rfl rfl (bop_sub_u64 (by first | omega | (simp; done) | (simp; omega)))) rfl ?_
        refine VList.go0 (n' := 22) rfl rfl (Eff.convM_u32 rfl Try.underlying62 Try.underlying51) rfl ?_
        refine VList.go0 (n' := 23) rfl rfl (Eff.indexRowN rfl rfl Try.underlying22 P_sz51 (by first | omega | (simp; done) | (simp; omega))) rfl ?_
        refine VList.goS (n' := 24) rfl rfl (Eff.store32 rfl rfl rfl P_sz51 (by first | omega | (simp; done) | (simp; omega))) rfl ?_
        refine VList.nil (Then.go ?_)
        refine VCode.region ?_
        refine VList.go0 (n' := 25) rfl rfl (.assign _ _ rfl) rfl ?_
        refine VList.nil (InBlock.go (Then.go ?_))
        refine VCode.region ?_
        refine VList.go0 (n' := 26) rfl rfl (.move _ _ rfl) rfl ?_
        refine VList.go0 (n' := 27) rfl rfl (.bin _ _ _ _ _ _ _ _ rfl rfl (bop_add_i64 (by first | omega | (simp; done) | (simp; omega)))) rfl ?_
        refine VList.go0 (n' := 28) rfl rfl (.assign _ _ rfl) rfl ?_
        exact VList.nil (Round.go (n + 1, 1, (O).set ((n)) ((((((A).getD (n) 0 + 4294967296) - s)) % 4294967296))) (hok.step2 oA oB (by omega) hs (by first | (left; exact ⟨by omega, rfl, rfl⟩) | (right; exact ⟨by omega, rfl, rfl⟩))) (by first | (dsimp only; omega) | omega) (Weak.of (show 0 ≤ 4 by decide) ⟨⟨rfl, rfl⟩, ⟨⟨rfl, rfl⟩, ⟨⟨rfl, rfl⟩, ⟨⟨rfl, rfl⟩, ⟨⟨rfl, rfl⟩, trivial⟩⟩⟩⟩⟩ ⟨⟨rfl, (show 3 < 4 by decide), row_cells⟩, trivial⟩))
      · replace hc3 := of_decide_eq_false hc3
        refine VCode.seq ?_
        refine VCode.region ?_
        refine VList.go0 (n' := 12) rfl rfl (.move _ _ rfl) rfl ?_
        refine VList.go0 (n' := 13) rfl rfl (.move _ _ rfl) rfl ?_
        refine VList.go0 (n' := 14) rfl rfl (.move _ _ rfl) rfl ?_
        refine VList.go0 (n' := 15) rfl rfl (.move _ _ rfl) rfl ?_
        refine VList.go0 (n' := 16) rfl rfl (Eff.indexRdN rfl rfl Try.underlying22 P_sz51 (by first | omega | (simp; done) | (simp; omega))) rfl ?_
        refine VList.go0 (n' := 17) rfl rfl (.loadRd1 _ _ _ _ rfl P_agg51 rfl) rfl ?_
        refine VList.go0 (n' := 18) rfl rfl (Eff.convN_u64 rfl Try.underlying51 Try.underlying62 (by first | omega | (simp; done) | (simp; omega))) rfl ?_
        refine VList.go0 (n' := 19) rfl rfl (.move _ _ rfl) rfl ?_
        refine VList.go0 (n' := 20) rfl rfl (.bin _ _ _ _ _ _ _ _ rfl rfl (bop_sub_u64 (by first | omega | (simp; done) | (simp; omega)))) rfl ?_
        refine VList.go0 (n' := 21) rfl rfl (Eff.convM_u32 rfl Try.underlying62 Try.underlying51) rfl ?_
        refine VList.go0 (n' := 22) rfl rfl (Eff.indexRowN rfl rfl Try.underlying22 P_sz51 (by first | omega | (simp; done) | (simp; omega))) rfl ?_
        refine VList.goS (n' := 23) rfl rfl (Eff.store32 rfl rfl rfl P_sz51 (by first | omega | (simp; done) | (simp; omega))) rfl ?_
        refine VList.nil (Then.go ?_)
        refine VCode.region ?_
        refine VList.go0 (n' := 24) rfl rfl (.assign _ _ rfl) rfl ?_
        refine VList.nil (InBlock.go (Then.go ?_))
        refine VCode.region ?_
        refine VList.go0 (n' := 25) rfl rfl (.move _ _ rfl) rfl ?_
        refine VList.go0 (n' := 26) rfl rfl (.bin _ _ _ _ _ _ _ _ rfl rfl (bop_add_i64 (by first | omega | (simp; done) | (simp; omega)))) rfl ?_
        refine VList.go0 (n' := 27) rfl rfl (.assign _ _ rfl) rfl ?_
        exact VList.nil (Round.go (n + 1, 0, (O).set ((n)) (((((A).getD (n) 0 - s)) % 4294967296))) (hok.step2 oA oB (by omega) hs (by first | (left; exact ⟨by omega, rfl, rfl⟩) | (right; exact ⟨by omega, rfl, rfl⟩))) (by first | (dsimp only; omega) | omega) (Weak.of (show 0 ≤ 4 by decide) ⟨⟨rfl, rfl⟩, ⟨⟨rfl, rfl⟩, ⟨⟨rfl, rfl⟩, ⟨⟨rfl, rfl⟩, ⟨⟨rfl, rfl⟩, trivial⟩⟩⟩⟩⟩ ⟨⟨rfl, (show 3 < 4 by decide), row_cells⟩, trivial⟩))
  · replace hc1 := of_decide_eq_false hc1
    refine VCode.exit (Then.exit (Round.exit (InBlock.here (Then.go ?_))))
    refine VCode.seq ?_
    have hn := hok.le
    have hO := hok.len
    obtain ⟨e1, e2⟩ := hok.fin oB (by omega) hl hv
    refine VCode.region ?_
    refine VList.go0 (n' := 9) rfl rfl (.move _ _ rfl) rfl ?_
    refine VList.goN (n' := 10) rfl rfl (.callV _ _ _ _ _ _ rfl (ress_cons (res_row rfl (by first | omega | (simp; done) | (simp; omega) | (simp [*]; done) | (simp [*]; omega))) ress_nil) (f66 _ (by first | omega | (simp; done) | (simp; omega)) (e2))) rfl ?_
    refine VList.go0 (n' := 11) rfl rfl (.assign _ _ rfl) rfl ?_
    refine VList.nil (Then.go ?_)
    exact VCode.ret (⟨trivial, [u32S (dg (val (O)))], (resVars_cons (resVar_tmp rfl rfl) resVars_nil), (by rw [e1]; rfl)⟩)
theorem f65 (A B : List Int) (hA : A.length ≤ 400000000) (hB : B.length ≤ 400000000) (oA : ok32 A) (oB : ok32 B) : VF Try.prog 65 [u32S (A), u32S (B)] (u32S (dg (val A * val B))) := by
  refine VF_of P_mixed Try.func65 rfl rfl (by kernel_rfl) ?_
  refine VCode.seq ?_
  refine VCode.region ?_
  refine VList.go0 (n' := 1) rfl rfl (.assign _ _ rfl) rfl ?_
  refine VList.nil (Then.go ?_)
  refine VCode.seq ?_
  refine VCode.region ?_
  refine VList.go0 (n' := 2) rfl rfl (.move _ _ rfl) rfl ?_
  refine VList.go0 (n' := 3) rfl rfl (Eff.lenS rfl Try.underlying22) rfl ?_
  refine VList.go0 (n' := 4) rfl rfl (.move _ _ rfl) rfl ?_
  refine VList.go0 (n' := 5) rfl rfl (Eff.lenS rfl Try.underlying22) rfl ?_
  refine VList.go0 (n' := 6) rfl rfl (.bin _ _ _ _ _ _ _ _ rfl rfl (bop_add_i64 (by first | omega | (simp; done) | (simp; omega)))) rfl ?_
  refine VList.go1 (n' := 7) rfl rfl (Eff.makeRow rfl Try.underlying22 P_zero51 P_sz51 P_bytes51 (by first | omega | (simp; done) | (simp; omega)) (by first | omega | (simp; done) | (simp; omega))) rfl ?_
  refine VList.go0 (n' := 8) rfl rfl (.assign _ _ rfl) rfl ?_
  refine VList.nil (Then.go ?_)
  refine VCode.seq ?_
  refine VCode.seq ?_
  refine VCode.region ?_
  refine VList.go0 (n' := 9) rfl rfl (.assign _ _ rfl) rfl ?_
  refine VList.nil (Then.go ?_)
  refine VCode.block ?_
  refine VCode.loop (α := (Nat) × (List Int)) (fun (x_ : (Nat) × (List Int)) => match x_ with | (n, O) => (7, sl [(0, vS (A)), (1, vS (B)), (5, .own 6 (((((A).length : Int) + ((B).length : Int))).toNat)), (6, vI .i64 ((n : Int)))], en [(6, row (O))])) (fun (x_ : (Nat) × (List Int)) => match x_ with | (n, O) => ProdInv A B O n) (fun (x_ : (Nat) × (List Int)) => match x_ with | (n, O) => A.length - n) (0, List.replicate (((A).length : Int) + ((B).length : Int)).toNat 0) (ProdInv.start (by first | rfl | (congr 1; omega))) (Weak.of (show 0 ≤ 7 by decide) ⟨⟨rfl, rfl⟩, ⟨⟨rfl, rfl⟩, ⟨⟨rfl, rfl⟩, ⟨⟨rfl, rfl⟩, trivial⟩⟩⟩⟩ ⟨⟨rfl, (show 6 < 7 by decide), row_cells⟩, trivial⟩) ?_
  rintro ⟨n, O⟩ hok
  show VCode Try.prog 0 _ 7 (sl [(0, vS (A)), (1, vS (B)), (5, .own 6 (((((A).length : Int) + ((B).length : Int))).toNat)), (6, vI .i64 ((n : Int)))]) (en [(6, row (O))]) _
  refine VCode.seq ?_
  refine VCode.seq ?_
  refine VCode.region ?_
  refine VList.go0 (n' := 8) rfl rfl (.move _ _ rfl) rfl ?_
  refine VList.go0 (n' := 9) rfl rfl (.move _ _ rfl) rfl ?_
  refine VList.go0 (n' := 10) rfl rfl (Eff.lenS rfl Try.underlying22) rfl ?_
  refine VList.go0 (n' := 11) rfl rfl (.bin _ _ _ _ _ _ _ _ rfl rfl rfl) rfl ?_
  refine VList.nil (Then.go ?_)
  refine VCode.cond _ rfl (fun hc1 => ?_) (fun hc1 => ?_)
  · replace hc1 := of_decide_eq_true hc1
    refine VCode.skip (Then.go ?_)
    refine VCode.seq ?_
    refine VCode.block ?_
    refine VCode.seq ?_
    refine VCode.region ?_
    refine VList.go0 (n' := 12) rfl rfl (.assign _ _ rfl) rfl ?_
    refine VList.nil (Then.go ?_)
    refine VCode.seq ?_
    refine VCode.seq ?_
    refine VCode.region ?_
    refine VList.go0 (n' := 13) rfl rfl (.assign _ _ rfl) rfl ?_
    refine VList.nil (Then.go ?_)
    refine VCode.block ?_
    refine VCode.loop (α := (Nat) × (Int) × (List Int)) (fun (x_ : (Nat) × (Int) × (List Int)) => match x_ with | (k, c, O) => (7, sl [(0, vS (A)), (1, vS (B)), (5, .own 6 (((((A).length : Int) + ((B).length : Int))).toNat)), (6, vI .i64 ((n : Int))), (7, vI .u64 (c)), (8, vI .i64 ((k : Int)))], en [(6, row (O))])) (fun (x_ : (Nat) × (Int) × (List Int)) => match x_ with | (k, c, O) => ProdIn A B O n k c) (fun (x_ : (Nat) × (Int) × (List Int)) => match x_ with | (k, c, O) => B.length - k) (0, 0, O) (hok.enter (by omega)) (Weak.of (show 0 ≤ 7 by decide) ⟨⟨rfl, rfl⟩, ⟨⟨rfl, rfl⟩, ⟨⟨rfl, rfl⟩, ⟨⟨rfl, rfl⟩, ⟨⟨rfl, rfl⟩, ⟨⟨rfl, rfl⟩, trivial⟩⟩⟩⟩⟩⟩ ⟨⟨rfl, (show 6 < 7 by decide), row_cells⟩, trivial⟩) ?_
    rintro ⟨k, c, O⟩ hok2
    show VCode Try.prog 0 _ 7 (sl [(0, vS (A)), (1, vS (B)), (5, .own 6 (((((A).length : Int) + ((B).length : Int))).toNat)), (6, vI .i64 ((n : Int))), (7, vI .u64 (c)), (8, vI .i64 ((k : Int)))]) (en [(6, row (O))]) _
    refine VCode.seq ?_
    refine VCode.seq ?_
    refine VCode.region ?_
    refine VList.go0 (n' := 8) rfl rfl (.move _ _ rfl) rfl ?_
    refine VList.go0 (n' := 9) rfl rfl (.move _ _ rfl) rfl ?_
    refine VList.go0 (n' := 10) rfl rfl (Eff.lenS rfl Try.underlying22) rfl ?_
    refine VList.go0 (n' := 11) rfl rfl (.bin _ _ _ _ _ _ _ _ rfl rfl rfl) rfl ?_
    refine VList.nil (Then.go ?_)
    refine VCode.cond _ rfl (fun hc2 => ?_) (fun hc2 => ?_)
    · replace hc2 := of_decide_eq_true hc2
      refine VCode.skip (Then.go ?_)
      refine VCode.seq ?_
      refine VCode.block ?_
      refine VCode.seq ?_
      have hi : (((n : Int)) + ((k : Int))).toNat = n + k := (by omega)
      have hx := ok32_getD oA n
      have hy := ok32_getD oB k
      have hxy := mul_small hx hy
      have hz := ok32_getD hok2.ok (((n : Int)) + ((k : Int))).toNat
      have h0 := hok2.c0
      have h1 := hok2.c1
      have hO := hok2.len
      have hkl := hok2.le
      refine VCode.draw (by kernel_rfl) ?_
      refine VLog.go0 (n' := 12) rfl rfl (.move _ _ rfl) rfl ?_
      refine VLog.go0 (n' := 13) rfl rfl (.move _ _ rfl) rfl ?_
      refine VLog.go0 (n' := 14) rfl rfl (Eff.indexRdN rfl rfl Try.underlying22 P_sz51 (by first | omega | (simp; done) | (simp; omega))) rfl ?_
      refine VLog.go0 (n' := 15) rfl rfl (.loadRd1 _ _ _ _ rfl P_agg51 rfl) rfl ?_
      refine VLog.go0 (n' := 16) rfl rfl (Eff.convN_u64 rfl Try.underlying51 Try.underlying62 (by first | omega | (simp; done) | (simp; omega))) rfl ?_
      refine VLog.go0 (n' := 17) rfl rfl (.move _ _ rfl) rfl ?_
      refine VLog.go0 (n' := 18) rfl rfl (.move _ _ rfl) rfl ?_
      refine VLog.go0 (n' := 19) rfl rfl (Eff.indexRdN rfl rfl Try.underlying22 P_sz51 (by first | omega | (simp; done) | (simp; omega))) rfl ?_
      refine VLog.go0 (n' := 20) rfl rfl (.loadRd1 _ _ _ _ rfl P_agg51 rfl) rfl ?_
      refine VLog.go0 (n' := 21) rfl rfl (Eff.convN_u64 rfl Try.underlying51 Try.underlying62 (by first | omega | (simp; done) | (simp; omega))) rfl ?_
      refine VLog.go0 (n' := 22) rfl rfl (.bin _ _ _ _ _ _ _ _ rfl rfl (bop_mul_u64 (by first | omega | (simp; done) | (simp; omega)))) rfl ?_
      refine VLog.go0 (n' := 23) rfl rfl (.move _ _ rfl) rfl ?_
      refine VLog.go0 (n' := 24) rfl rfl (.move _ _ rfl) rfl ?_
      refine VLog.go0 (n' := 25) rfl rfl (.move _ _ rfl) rfl ?_
      refine VLog.go0 (n' := 26) rfl rfl (.bin _ _ _ _ _ _ _ _ rfl rfl (bop_add_i64 (by first | omega | (simp; done) | (simp; omega)))) rfl ?_
      refine VLog.go0 (n' := 27) rfl rfl (Eff.indexRow rfl rfl Try.underlying22 P_sz51 (by first | omega | (simp; done) | (simp; omega)) (by first | omega | (simp; done) | (simp; omega))) rfl ?_
      refine VLog.go0 (n' := 28) rfl rfl (Eff.load32 rfl rfl P_agg51 (by first | omega | (simp; done) | (simp; omega))) rfl ?_
      refine VLog.go0 (n' := 29) rfl rfl (Eff.convN_u64 rfl Try.underlying51 Try.underlying62 (by first | omega | (simp; done) | (simp; omega))) rfl ?_
      refine VLog.go0 (n' := 30) rfl rfl (.bin _ _ _ _ _ _ _ _ rfl rfl (bop_add_u64 (by first | omega | (simp; done) | (simp; omega)))) rfl ?_
      refine VLog.go0 (n' := 31) rfl rfl (.move _ _ rfl) rfl ?_
      refine VLog.go0 (n' := 32) rfl rfl (.bin _ _ _ _ _ _ _ _ rfl rfl (bop_add_u64 (by first | omega | (simp; done) | (simp; omega)))) rfl ?_
      refine VLog.go0 (n' := 33) rfl rfl (.assign _ _ rfl) rfl ?_
      refine VLog.nil ⟨by kernel_rfl, Then.go ?_⟩
      refine VCode.seq ?_
      refine VCode.region ?_
      refine VList.go0 (n' := 34) rfl rfl (.move _ _ rfl) rfl ?_
      refine VList.go0 (n' := 35) rfl rfl (.move _ _ rfl) rfl ?_
      refine VList.go0 (n' := 36) rfl rfl (.move _ _ rfl) rfl ?_
      refine VList.go0 (n' := 37) rfl rfl (.bin _ _ _ _ _ _ _ _ rfl rfl (bop_add_i64 (by first | omega | (simp; done) | (simp; omega)))) rfl ?_
      refine VList.go0 (n' := 38) rfl rfl (.move _ _ rfl) rfl ?_
      refine VList.go0 (n' := 39) rfl rfl (Eff.convM_u32 rfl Try.underlying62 Try.underlying51) rfl ?_
      refine VList.go0 (n' := 40) rfl rfl (Eff.indexRow rfl rfl Try.underlying22 P_sz51 (by first | omega | (simp; done) | (simp; omega)) (by first | omega | (simp; done) | (simp; omega))) rfl ?_
      refine VList.goS (n' := 41) rfl rfl (Eff.store32 rfl rfl rfl P_sz51 (by first | omega | (simp; done) | (simp; omega))) rfl ?_
      refine VList.nil (Then.go ?_)
      refine VCode.region ?_
      refine VList.go0 (n' := 42) rfl rfl (.move _ _ rfl) rfl ?_
      refine VList.go0 (n' := 43) rfl rfl (.bin _ _ _ _ _ _ _ _ rfl rfl (bop_quo_u64 (by first | omega | (simp; done) | (simp; omega)) (by first | omega | (simp; done) | (simp; omega)) (by first | omega | (simp; done) | (simp; omega)))) rfl ?_
      refine VList.go0 (n' := 44) rfl rfl (.assign _ _ rfl) rfl ?_
      refine VList.nil (InBlock.go (Then.go ?_))
      refine VCode.region ?_
      refine VList.go0 (n' := 45) rfl rfl (.move _ _ rfl) rfl ?_
      refine VList.go0 (n' := 46) rfl rfl (.bin _ _ _ _ _ _ _ _ rfl rfl (bop_add_i64 (by first | omega | (simp; done) | (simp; omega)))) rfl ?_
      refine VList.go0 (n' := 47) rfl rfl (.assign _ _ rfl) rfl ?_
      exact VList.nil (Round.go (k + 1, (A.getD n 0 * B.getD k 0 + O.getD (((n : Int)) + ((k : Int))).toNat 0 + c) / 4294967296, O.set (((n : Int)) + ((k : Int))).toNat ((A.getD n 0 * B.getD k 0 + O.getD (((n : Int)) + ((k : Int))).toNat 0 + c) % 4294967296)) (by rw [hi]; exact hok2.step oA oB (by omega) rfl) (by first | (dsimp only; omega) | omega) (Weak.of (show 0 ≤ 7 by decide) ⟨⟨rfl, rfl⟩, ⟨⟨rfl, rfl⟩, ⟨⟨rfl, rfl⟩, ⟨⟨rfl, rfl⟩, ⟨⟨rfl, rfl⟩, ⟨⟨rfl, rfl⟩, trivial⟩⟩⟩⟩⟩⟩ ⟨⟨rfl, (show 6 < 7 by decide), row_cells⟩, trivial⟩))
    · replace hc2 := of_decide_eq_false hc2
      refine VCode.exit (Then.exit (Round.exit (InBlock.here (Then.go ?_))))
      have hO := hok2.len
      have hkl := hok2.le
      have h0 := hok2.c0
      have h1 := hok2.c1
      refine VCode.region ?_
      refine VList.go0 (n' := 12) rfl rfl (.move _ _ rfl) rfl ?_
      refine VList.go0 (n' := 13) rfl rfl (.move _ _ rfl) rfl ?_
      refine VList.go0 (n' := 14) rfl rfl (.move _ _ rfl) rfl ?_
      refine VList.go0 (n' := 15) rfl rfl (Eff.lenS rfl Try.underlying22) rfl ?_
      refine VList.go0 (n' := 16) rfl rfl (.bin _ _ _ _ _ _ _ _ rfl rfl (bop_add_i64 (by first | omega | (simp; done) | (simp; omega)))) rfl ?_
      refine VList.go0 (n' := 17) rfl rfl (.move _ _ rfl) rfl ?_
      refine VList.go0 (n' := 18) rfl rfl (Eff.convM_u32 rfl Try.underlying62 Try.underlying51) rfl ?_
      refine VList.go0 (n' := 19) rfl rfl (Eff.indexRow rfl rfl Try.underlying22 P_sz51 (by first | omega | (simp; done) | (simp; omega)) (by first | omega | (simp; done) | (simp; omega))) rfl ?_
      refine VList.goS (n' := 20) rfl rfl (Eff.store32 rfl rfl rfl P_sz51 (by first | omega | (simp; done) | (simp; omega))) rfl ?_
      refine VList.nil (InBlock.go (Then.go ?_))
      refine VCode.region ?_
      refine VList.go0 (n' := 21) rfl rfl (.move _ _ rfl) rfl ?_
      refine VList.go0 (n' := 22) rfl rfl (.bin _ _ _ _ _ _ _ _ rfl rfl (bop_add_i64 (by first | omega | (simp; done) | (simp; omega)))) rfl ?_
      refine VList.go0 (n' := 23) rfl rfl (.assign _ _ rfl) rfl ?_
      exact VList.nil (Round.go (n + 1, O.set (((n : Int)) + ((B).length : Int)).toNat (c % 4294967296)) (by have hi : (((n : Int)) + ((B).length : Int)).toNat = n + B.length := (by omega); rw [hi]; exact hok2.leave (by omega)) (by first | (dsimp only; omega) | omega) (Weak.of (show 0 ≤ 7 by decide) ⟨⟨rfl, rfl⟩, ⟨⟨rfl, rfl⟩, ⟨⟨rfl, rfl⟩, ⟨⟨rfl, rfl⟩, trivial⟩⟩⟩⟩ ⟨⟨rfl, (show 6 < 7 by decide), row_cells⟩, trivial⟩))
  · replace hc1 := of_decide_eq_false hc1
    refine VCode.exit (Then.exit (Round.exit (InBlock.here (Then.go ?_))))
    refine VCode.seq ?_
    have hn := hok.le
    have hO := hok.len
    have e1 := hok.fin (by omega)
    refine VCode.region ?_
    refine VList.go0 (n' := 12) rfl rfl (.move _ _ rfl) rfl ?_
    refine VList.goN (n' := 13) rfl rfl (.callV _ _ _ _ _ _ rfl (ress_cons (res_row rfl (by first | omega | (simp; done) | (simp; omega) | (simp [*]; done) | (simp [*]; omega))) ress_nil) (f66 _ (by first | omega | (simp; done) | (simp; omega)) (hok.ok))) rfl ?_
    refine VList.go0 (n' := 14) rfl rfl (.assign _ _ rfl) rfl ?_
    refine VList.nil (Then.go ?_)
    exact VCode.ret (⟨trivial, [u32S (dg (val (O)))], (resVars_cons (resVar_tmp rfl rfl) resVars_nil), (by rw [e1]; rfl)⟩)
end Go.VL

/- Walks over the Go functions, printed by a program of this session over the kit's print, and by hand. -/
set_option linter.unusedVariables false
set_option linter.unusedSimpArgs false
namespace Go.VL
open Go.Proofs
theorem f39 (n : Bool) (A : List Int) (m : Bool) (B : List Int) (hA : A.length ≤ 9223372036854775807) (hB : B.length ≤ 9223372036854775807) (oA : ok32 A) (oB : ok32 B) : VF Try.prog 39 [.agg [boolB (n), u32S (A)], .agg [boolB (m), u32S (B)]] (gR (validB n A && validB m B) (zOf n A + zOf m B)) := by
  refine VF_of P_mixed Try.func39 rfl rfl (by kernel_rfl) ?_
  refine VCode.seq ?_
  refine VCode.region ?_
  refine VList.go1 (n' := 1) rfl rfl (.box _ _ _ rfl (List.cons_ne_nil _ _) rfl) rfl ?_
  refine VList.go1 (n' := 2) rfl rfl (.box _ _ _ rfl (List.cons_ne_nil _ _) rfl) rfl ?_
  refine VList.go1 (n' := 3) rfl rfl (.alloc _ _ P_zero24 (List.cons_ne_nil _ _)) rfl ?_
  refine VList.go0 (n' := 4) rfl rfl (.assign _ _ rfl) rfl ?_
  refine VList.nil (Then.go ?_)
  refine VCode.seq ?_
  refine VCode.seq ?_
  refine VCode.region ?_
  refine VList.go0 (n' := 5) rfl rfl (.loadS _ _ _ _ _ _ rfl rfl P_agg24 P_sz24 (Nat.le_of_ble_eq_true rfl)) rfl ?_
  refine VList.go0 (n' := 6) rfl rfl (.callF _ _ _ _ _ _ rfl (ress_cons rfl ress_nil) (f26 _ _ (by first | omega | assumption | (simp; done) | (simp; omega))) rfl) rfl ?_
  refine VList.go0 (n' := 7) rfl rfl (.un _ _ _ _ _ rfl rfl) rfl ?_
  refine VList.go0 (n' := 8) rfl rfl (.move _ _ rfl) rfl ?_
  refine VList.split (d := 9) _ rfl (fun hc1 => ?_) (fun hc1 => ?_)
  · replace hc1 := (bnot_t hc1)
    refine VList.skip (n' := 9) rfl rfl rfl ?_
    refine VList.skip (n' := 10) rfl rfl rfl ?_
    refine VList.skip (n' := 11) rfl rfl rfl ?_
    refine VList.go0 (n' := 12) rfl rfl (.pick _ _ _ _ _ rfl rfl) rfl ?_
    refine VList.nil (Then.go ?_)
    refine VCode.cond _ rfl (fun _ => ?_) (fun h_ => Bool.noConfusion h_)
    refine VCode.seq ?_
    refine VCode.region ?_
    refine VList.go0 (n' := 13) rfl rfl Eff.int0 rfl ?_
    refine VList.goS (n' := 14) rfl rfl (.store _ _ _ _ _ _ _ rfl rfl rfl rfl P_sz24 (Nat.le_of_ble_eq_true rfl) rfl) rfl ?_
    refine VList.go0 (n' := 15) rfl rfl (.assign _ _ rfl) rfl ?_
    refine VList.nil (Then.go ?_)
    exact VCode.ret (Then.ret (⟨trivial, [.agg [boolB (false), u32S ([])], numB .i64 (1)], (resVars_cons (resVar_cell rfl rfl P_agg24 P_sz24 (Nat.le_of_ble_eq_true rfl) rfl) (resVars_cons (resVar_tmp rfl rfl) resVars_nil)), (by rw [gR_false (by simp [*])]; rfl)⟩))
  · replace hc1 := (bnot_f hc1)
    refine VList.go0 (n' := 9) rfl rfl (.loadS _ _ _ _ _ _ rfl rfl P_agg24 P_sz24 (Nat.le_of_ble_eq_true rfl)) rfl ?_
    refine VList.go0 (n' := 10) rfl rfl (.callF _ _ _ _ _ _ rfl (ress_cons rfl ress_nil) (f26 _ _ (by first | omega | assumption | (simp; done) | (simp; omega))) rfl) rfl ?_
    refine VList.go0 (n' := 11) rfl rfl (.un _ _ _ _ _ rfl rfl) rfl ?_
    refine VList.go0 (n' := 12) rfl rfl (.pick _ _ _ _ _ rfl rfl) rfl ?_
    refine VList.nil (Then.go ?_)
    refine VCode.cond _ rfl (fun hc2 => ?_) (fun hc2 => ?_)
    · replace hc2 := (bnot_t hc2)
      refine VCode.seq ?_
      refine VCode.region ?_
      refine VList.go0 (n' := 13) rfl rfl Eff.int0 rfl ?_
      refine VList.goS (n' := 14) rfl rfl (.store _ _ _ _ _ _ _ rfl rfl rfl rfl P_sz24 (Nat.le_of_ble_eq_true rfl) rfl) rfl ?_
      refine VList.go0 (n' := 15) rfl rfl (.assign _ _ rfl) rfl ?_
      refine VList.nil (Then.go ?_)
      exact VCode.ret (Then.ret (⟨trivial, [.agg [boolB (false), u32S ([])], numB .i64 (1)], (resVars_cons (resVar_cell rfl rfl P_agg24 P_sz24 (Nat.le_of_ble_eq_true rfl) rfl) (resVars_cons (resVar_tmp rfl rfl) resVars_nil)), (by rw [gR_false (by simp [*])]; rfl)⟩))
    · replace hc2 := (bnot_f hc2)
      refine VCode.skip (Then.go ?_)
      refine VCode.seq ?_
      refine VCode.seq ?_
      have va : validB n A = true := by assumption
      have vb : validB m B = true := by assumption
      have hv := vv va vb
      obtain ⟨nA, lA, sA⟩ := valid_norm oA va
      obtain ⟨nB, lB, sB⟩ := valid_norm oB vb
      have vA := val_nonneg oA
      have vB_ := val_nonneg oB
      refine VCode.region ?_
      refine VList.go0 (n' := 13) rfl rfl (.fieldAddr _ _ _ _ _ _ _ _ rfl P_fld24_0) rfl ?_
      refine VList.go0 (n' := 14) rfl rfl (.load1 _ _ _ _ _ _ rfl rfl P_agg4 rfl) rfl ?_
      refine VList.go0 (n' := 15) rfl rfl (.fieldAddr _ _ _ _ _ _ _ _ rfl P_fld24_0) rfl ?_
      refine VList.go0 (n' := 16) rfl rfl (.load1 _ _ _ _ _ _ rfl rfl P_agg4 rfl) rfl ?_
      refine VList.go0 (n' := 17) rfl rfl (.binB _ _ _ _ _ _ _ _ rfl rfl Try.underlying4 rfl) rfl ?_
      refine VList.nil (Then.go ?_)
      refine VCode.cond _ rfl (fun hc3 => ?_) (fun hc3 => ?_)
      · replace hc3 := eq_of_beq hc3
        refine VCode.seq ?_
        refine VCode.draw (by kernel_rfl) ?_
        refine VLog.go0 (n' := 18) rfl rfl (.fieldAddr _ _ _ _ _ _ _ _ rfl P_fld24_0) rfl ?_
        refine VLog.go0 (n' := 19) rfl rfl (.load1 _ _ _ _ _ _ rfl rfl P_agg4 rfl) rfl ?_
        refine VLog.go0 (n' := 20) rfl rfl (.fieldAddr _ _ _ _ _ _ _ _ rfl P_fld24_1) rfl ?_
        refine VLog.go0 (n' := 21) rfl rfl (.load1 _ _ _ _ _ _ rfl rfl P_agg22 rfl) rfl ?_
        refine VLog.go0 (n' := 22) rfl rfl (.fieldAddr _ _ _ _ _ _ _ _ rfl P_fld24_1) rfl ?_
        refine VLog.go0 (n' := 23) rfl rfl (.load1 _ _ _ _ _ _ rfl rfl P_agg22 rfl) rfl ?_
        refine VLog.go0 (n' := 24) rfl rfl (Eff.callV0 rfl (ress_cons rfl (ress_cons rfl ress_nil)) (f56 _ _ (by first | omega | assumption | (simp; done) | (simp; omega)) (by first | omega | assumption | (simp; done) | (simp; omega)) (by first | omega | assumption | (simp; done) | (simp; omega)) (by first | omega | assumption | (simp; done) | (simp; omega))) rfl) rfl ?_
        refine VLog.go0 (n' := 25) rfl rfl (Eff.callV0 rfl (ress_cons rfl (ress_cons rfl ress_nil)) (f58 _ _ (add_len oA oB lA lB) (ok32_dg _)) rfl) rfl ?_
        refine VLog.go0 (n' := 26) rfl rfl (.extract _ _ _ _ rfl rfl) rfl ?_
        refine VLog.go0 (n' := 27) rfl rfl (.extract _ _ _ _ rfl rfl) rfl ?_
        refine VLog.goS (n' := 28) rfl rfl (.store _ _ _ _ _ _ _ rfl rfl rfl rfl P_sz24 (Nat.le_of_ble_eq_true rfl) rfl) rfl ?_
        refine VLog.go0 (n' := 29) rfl rfl (.assign _ _ rfl) rfl ?_
        refine VLog.nil ⟨by kernel_rfl, Then.go ?_⟩
        exact VCode.ret (Then.ret (⟨trivial, [.agg [boolB (zN (sg (n) (val (dg (val (A) + val (B)))))), u32S (zL (sg (n) (val (dg (val (A) + val (B))))))], numB .i64 (zE (sg (n) (val (dg (val (A) + val (B))))))], (resVars_cons (resVar_cell rfl rfl P_agg24 P_sz24 (Nat.le_of_ble_eq_true rfl) rfl) (resVars_cons (resVar_tmp rfl rfl) resVars_nil)), (by rw [gR_true hv]; show zR (sg n (val A) + sg m (val B)) = _; rw [val_dg (by omega), sg_add, ← hc3]; rfl)⟩))
      · replace hc3 := ne_of_beq_false hc3
        refine VCode.skip (Then.go ?_)
        refine VCode.seq ?_
        refine VCode.seq ?_
        refine VCode.region ?_
        refine VList.go0 (n' := 18) rfl rfl (.fieldAddr _ _ _ _ _ _ _ _ rfl P_fld24_1) rfl ?_
        refine VList.go0 (n' := 19) rfl rfl (.load1 _ _ _ _ _ _ rfl rfl P_agg22 rfl) rfl ?_
        refine VList.go0 (n' := 20) rfl rfl (.fieldAddr _ _ _ _ _ _ _ _ rfl P_fld24_1) rfl ?_
        refine VList.go0 (n' := 21) rfl rfl (.load1 _ _ _ _ _ _ rfl rfl P_agg22 rfl) rfl ?_
        refine VList.go0 (n' := 22) rfl rfl (.callF _ _ _ _ _ _ rfl (ress_cons rfl (ress_cons rfl ress_nil)) (f72 _ _ (by first | omega | assumption | (simp; done) | (simp; omega)) (by first | omega | assumption | (simp; done) | (simp; omega)) (by first | omega | assumption | (simp; done) | (simp; omega)) (by first | omega | assumption | (simp; done) | (simp; omega)) (fun h => cmp_len nA nB h)) rfl) rfl ?_
        refine VList.go0 (n' := 23) rfl rfl (.bin _ _ _ _ _ _ _ _ rfl rfl rfl) rfl ?_
        refine VList.nil (Then.go ?_)
        refine VCode.cond _ rfl (fun hc4 => ?_) (fun hc4 => ?_)
        · replace hc4 := of_decide_eq_true hc4
          refine VCode.seq ?_
          refine VCode.draw (by kernel_rfl) ?_
          refine VLog.go0 (n' := 24) rfl rfl (.fieldAddr _ _ _ _ _ _ _ _ rfl P_fld24_0) rfl ?_
          refine VLog.go0 (n' := 25) rfl rfl (.load1 _ _ _ _ _ _ rfl rfl P_agg4 rfl) rfl ?_
          refine VLog.go0 (n' := 26) rfl rfl (.fieldAddr _ _ _ _ _ _ _ _ rfl P_fld24_1) rfl ?_
          refine VLog.go0 (n' := 27) rfl rfl (.load1 _ _ _ _ _ _ rfl rfl P_agg22 rfl) rfl ?_
          refine VLog.go0 (n' := 28) rfl rfl (.fieldAddr _ _ _ _ _ _ _ _ rfl P_fld24_1) rfl ?_
          refine VLog.go0 (n' := 29) rfl rfl (.load1 _ _ _ _ _ _ rfl rfl P_agg22 rfl) rfl ?_
          refine VLog.go0 (n' := 30) rfl rfl (Eff.callV0 rfl (ress_cons rfl (ress_cons rfl ress_nil)) (f57 _ _ (by first | omega | assumption | (simp; done) | (simp; omega)) (by first | omega | assumption | (simp; done) | (simp; omega)) (by first | omega | assumption | (simp; done) | (simp; omega)) (by first | omega | assumption | (simp; done) | (simp; omega)) (norm_le_len nB nA (cmp3_ge (by assumption))) (cmp3_ge (by assumption))) rfl) rfl ?_
          refine VLog.go0 (n' := 31) rfl rfl (Eff.callV0 rfl (ress_cons rfl (ress_cons rfl ress_nil)) (f58 _ _ (sub_len oA oB lA) (ok32_dg _)) rfl) rfl ?_
          refine VLog.go0 (n' := 32) rfl rfl (.extract _ _ _ _ rfl rfl) rfl ?_
          refine VLog.go0 (n' := 33) rfl rfl (.extract _ _ _ _ rfl rfl) rfl ?_
          refine VLog.goS (n' := 34) rfl rfl (.store _ _ _ _ _ _ _ rfl rfl rfl rfl P_sz24 (Nat.le_of_ble_eq_true rfl) rfl) rfl ?_
          refine VLog.go0 (n' := 35) rfl rfl (.assign _ _ rfl) rfl ?_
          refine VLog.nil ⟨by kernel_rfl, Then.go ?_⟩
          exact VCode.ret (Then.ret (⟨trivial, [.agg [boolB (zN (sg (n) (val (dg (val (A) - val (B)))))), u32S (zL (sg (n) (val (dg (val (A) - val (B))))))], numB .i64 (zE (sg (n) (val (dg (val (A) - val (B))))))], (resVars_cons (resVar_cell rfl rfl P_agg24 P_sz24 (Nat.le_of_ble_eq_true rfl) rfl) (resVars_cons (resVar_tmp rfl rfl) resVars_nil)), (by have h2 := cmp3_ge hc4; rw [gR_true hv]; show zR (sg n (val A) + sg m (val B)) = _; rw [val_dg (by omega), sg_mix' hc3]; rfl)⟩))
        · replace hc4 := of_decide_eq_false hc4
          refine VCode.skip (Then.go ?_)
          refine VCode.seq ?_
          refine VCode.draw (by kernel_rfl) ?_
          refine VLog.go0 (n' := 24) rfl rfl (.fieldAddr _ _ _ _ _ _ _ _ rfl P_fld24_0) rfl ?_
          refine VLog.go0 (n' := 25) rfl rfl (.load1 _ _ _ _ _ _ rfl rfl P_agg4 rfl) rfl ?_
          refine VLog.go0 (n' := 26) rfl rfl (.fieldAddr _ _ _ _ _ _ _ _ rfl P_fld24_1) rfl ?_
          refine VLog.go0 (n' := 27) rfl rfl (.load1 _ _ _ _ _ _ rfl rfl P_agg22 rfl) rfl ?_
          refine VLog.go0 (n' := 28) rfl rfl (.fieldAddr _ _ _ _ _ _ _ _ rfl P_fld24_1) rfl ?_
          refine VLog.go0 (n' := 29) rfl rfl (.load1 _ _ _ _ _ _ rfl rfl P_agg22 rfl) rfl ?_
          refine VLog.go0 (n' := 30) rfl rfl (Eff.callV0 rfl (ress_cons rfl (ress_cons rfl ress_nil)) (f57 _ _ (by first | omega | assumption | (simp; done) | (simp; omega)) (by first | omega | assumption | (simp; done) | (simp; omega)) (by first | omega | assumption | (simp; done) | (simp; omega)) (by first | omega | assumption | (simp; done) | (simp; omega)) (norm_le_len nA nB (Int.le_of_lt (cmp3_nge (by assumption)))) (Int.le_of_lt (cmp3_nge (by assumption)))) rfl) rfl ?_
          refine VLog.go0 (n' := 31) rfl rfl (Eff.callV0 rfl (ress_cons rfl (ress_cons rfl ress_nil)) (f58 _ _ (sub_len oB oA lB) (ok32_dg _)) rfl) rfl ?_
          refine VLog.go0 (n' := 32) rfl rfl (.extract _ _ _ _ rfl rfl) rfl ?_
          refine VLog.go0 (n' := 33) rfl rfl (.extract _ _ _ _ rfl rfl) rfl ?_
          refine VLog.goS (n' := 34) rfl rfl (.store _ _ _ _ _ _ _ rfl rfl rfl rfl P_sz24 (Nat.le_of_ble_eq_true rfl) rfl) rfl ?_
          refine VLog.go0 (n' := 35) rfl rfl (.assign _ _ rfl) rfl ?_
          refine VLog.nil ⟨by kernel_rfl, Then.go ?_⟩
          exact VCode.ret (⟨trivial, [.agg [boolB (zN (sg (m) (val (dg (val (B) - val (A)))))), u32S (zL (sg (m) (val (dg (val (B) - val (A))))))], numB .i64 (zE (sg (m) (val (dg (val (B) - val (A))))))], (resVars_cons (resVar_cell rfl rfl P_agg24 P_sz24 (Nat.le_of_ble_eq_true rfl) rfl) (resVars_cons (resVar_tmp rfl rfl) resVars_nil)), (by have h2 := cmp3_nge hc4; rw [gR_true hv]; show zR (sg n (val A) + sg m (val B)) = _; rw [val_dg (by omega), sg_mix hc3]; rfl)⟩)
theorem f76 (m : Bool) (B : List Int) (hB : B.length ≤ 1000000000) : VF Try.prog 76 [.agg [boolB (m), u32S (B)]] (intB (ngB m B) B) := by
  refine VF_of P_mixed Try.func76 rfl rfl (by kernel_rfl) ?_
  refine VCode.seq ?_
  refine VCode.region ?_
  refine VList.go1 (n' := 1) rfl rfl (.box _ _ _ rfl (List.cons_ne_nil _ _) rfl) rfl ?_
  refine VList.go1 (n' := 2) rfl rfl (.alloc _ _ P_zero24 (List.cons_ne_nil _ _)) rfl ?_
  refine VList.nil (Then.go ?_)
  refine VCode.seq ?_
  refine VCode.draw (by kernel_rfl) ?_
  refine VLog.go0 (n' := 3) rfl rfl (.fieldAddr _ _ _ _ _ _ _ _ rfl P_fld24_0) rfl ?_
  refine VLog.go0 (n' := 4) rfl rfl (.load1 _ _ _ _ _ _ rfl rfl P_agg4 rfl) rfl ?_
  refine VLog.go0 (n' := 5) rfl rfl (.un _ _ _ _ _ rfl rfl) rfl ?_
  refine VLog.go0 (n' := 6) rfl rfl (.move _ _ rfl) rfl ?_
  refine VLog.split (d := 6) _ rfl (fun hc1 => ?_) (fun hc1 => ?_)
  · replace hc1 := bnot_t hc1
    refine VLog.go0 (n' := 7) rfl rfl (.fieldAddr _ _ _ _ _ _ _ _ rfl P_fld24_1) rfl ?_
    refine VLog.go0 (n' := 8) rfl rfl (.load1 _ _ _ _ _ _ rfl rfl P_agg22 rfl) rfl ?_
    refine VLog.go0 (n' := 9) rfl rfl (Eff.lenS rfl Try.underlying22) rfl ?_
    refine VLog.go0 (n' := 10) rfl rfl (.bin _ _ _ _ _ _ _ _ rfl rfl rfl) rfl ?_
    refine VLog.go0 (n' := 11) rfl rfl (.pick _ _ _ _ _ rfl rfl) rfl ?_
    refine VLog.go1 (n' := 12) rfl rfl (Eff.lits0 Try.underlying22 P_zero51 P_sz51) rfl ?_
    refine VLog.go0 (n' := 13) rfl rfl (.fieldAddr _ _ _ _ _ _ _ _ rfl P_fld24_1) rfl ?_
    refine VLog.go0 (n' := 14) rfl rfl (.load1 _ _ _ _ _ _ rfl rfl P_agg22 rfl) rfl ?_
    refine VLog.goN (n' := 15) rfl rfl (Eff.appendRow rfl rfl (by first | omega | (simp; done) | (simp; omega)) rfl rfl (show _ ∉ ([] : List Nat) from List.not_mem_nil) Try.underlying22 P_sz51 P_bytes51 P_zero51 (by first | omega | (simp; done) | (simp; omega))) rfl ?_
    refine VLog.go0 (n' := 16) rfl rfl (Eff.int2 rfl rfl rfl rfl) rfl ?_
    refine VLog.goS (n' := 17) rfl rfl (.store _ _ _ _ _ _ _ rfl rfl rfl rfl P_sz24 (Nat.le_of_ble_eq_true rfl) rfl) rfl ?_
    refine VLog.nil ⟨by kernel_rfl, Then.go ?_⟩
    exact VCode.ret (⟨trivial, [.agg [boolB (decide (((B).length : Int) > 0)), u32S (([]) ++ (B))]], (resVars_cons (resVar_cell rfl rfl P_agg24 P_sz24 (Nat.le_of_ble_eq_true rfl) (res_agg rfl (by simp))) resVars_nil), (by rw [ngB, hc1]; rfl)⟩)
  · replace hc1 := bnot_f hc1
    refine VLog.skip (n' := 7) rfl rfl rfl ?_
    refine VLog.skip (n' := 8) rfl rfl rfl ?_
    refine VLog.skip (n' := 9) rfl rfl rfl ?_
    refine VLog.skip (n' := 10) rfl rfl rfl ?_
    refine VLog.go0 (n' := 11) rfl rfl (.pick _ _ _ _ _ rfl rfl) rfl ?_
    refine VLog.go1 (n' := 12) rfl rfl (Eff.lits0 Try.underlying22 P_zero51 P_sz51) rfl ?_
    refine VLog.go0 (n' := 13) rfl rfl (.fieldAddr _ _ _ _ _ _ _ _ rfl P_fld24_1) rfl ?_
    refine VLog.go0 (n' := 14) rfl rfl (.load1 _ _ _ _ _ _ rfl rfl P_agg22 rfl) rfl ?_
    refine VLog.goN (n' := 15) rfl rfl (Eff.appendRow rfl rfl (by first | omega | (simp; done) | (simp; omega)) rfl rfl (show _ ∉ ([] : List Nat) from List.not_mem_nil) Try.underlying22 P_sz51 P_bytes51 P_zero51 (by first | omega | (simp; done) | (simp; omega))) rfl ?_
    refine VLog.go0 (n' := 16) rfl rfl (Eff.int2 rfl rfl rfl rfl) rfl ?_
    refine VLog.goS (n' := 17) rfl rfl (.store _ _ _ _ _ _ _ rfl rfl rfl rfl P_sz24 (Nat.le_of_ble_eq_true rfl) rfl) rfl ?_
    refine VLog.nil ⟨by kernel_rfl, Then.go ?_⟩
    exact VCode.ret (⟨trivial, [.agg [boolB (false), u32S (([]) ++ (B))]], (resVars_cons (resVar_cell rfl rfl P_agg24 P_sz24 (Nat.le_of_ble_eq_true rfl) (res_agg rfl (by simp))) resVars_nil), (by rw [ngB, hc1]; rfl)⟩)
theorem f41 (n : Bool) (A : List Int) (m : Bool) (B : List Int) (hA : A.length ≤ 9223372036854775807) (hB : B.length ≤ 9223372036854775807) (oA : ok32 A) (oB : ok32 B) : VF Try.prog 41 [.agg [boolB (n), u32S (A)], .agg [boolB (m), u32S (B)]] (gR (validB n A && validB m B) (zOf n A - zOf m B)) := by
  refine VF_of P_mixed Try.func41 rfl rfl (by kernel_rfl) ?_
  refine VCode.seq ?_
  refine VCode.region ?_
  refine VList.go1 (n' := 1) rfl rfl (.box _ _ _ rfl (List.cons_ne_nil _ _) rfl) rfl ?_
  refine VList.go1 (n' := 2) rfl rfl (.box _ _ _ rfl (List.cons_ne_nil _ _) rfl) rfl ?_
  refine VList.go1 (n' := 3) rfl rfl (.alloc _ _ P_zero24 (List.cons_ne_nil _ _)) rfl ?_
  refine VList.go0 (n' := 4) rfl rfl (.assign _ _ rfl) rfl ?_
  refine VList.nil (Then.go ?_)
  refine VCode.seq ?_
  refine VCode.seq ?_
  refine VCode.region ?_
  refine VList.go0 (n' := 5) rfl rfl (.loadS _ _ _ _ _ _ rfl rfl P_agg24 P_sz24 (Nat.le_of_ble_eq_true rfl)) rfl ?_
  refine VList.go0 (n' := 6) rfl rfl (.callF _ _ _ _ _ _ rfl (ress_cons rfl ress_nil) (f26 _ _ (by first | omega | assumption | (simp; done) | (simp; omega))) rfl) rfl ?_
  refine VList.go0 (n' := 7) rfl rfl (.un _ _ _ _ _ rfl rfl) rfl ?_
  refine VList.go0 (n' := 8) rfl rfl (.move _ _ rfl) rfl ?_
  refine VList.split (d := 9) _ rfl (fun hc1 => ?_) (fun hc1 => ?_)
  · replace hc1 := (bnot_t hc1)
    refine VList.skip (n' := 9) rfl rfl rfl ?_
    refine VList.skip (n' := 10) rfl rfl rfl ?_
    refine VList.skip (n' := 11) rfl rfl rfl ?_
    refine VList.go0 (n' := 12) rfl rfl (.pick _ _ _ _ _ rfl rfl) rfl ?_
    refine VList.nil (Then.go ?_)
    refine VCode.cond _ rfl (fun _ => ?_) (fun h_ => Bool.noConfusion h_)
    refine VCode.seq ?_
    refine VCode.region ?_
    refine VList.go0 (n' := 13) rfl rfl Eff.int0 rfl ?_
    refine VList.goS (n' := 14) rfl rfl (.store _ _ _ _ _ _ _ rfl rfl rfl rfl P_sz24 (Nat.le_of_ble_eq_true rfl) rfl) rfl ?_
    refine VList.go0 (n' := 15) rfl rfl (.assign _ _ rfl) rfl ?_
    refine VList.nil (Then.go ?_)
    exact VCode.ret (Then.ret (⟨trivial, [.agg [boolB (false), u32S ([])], numB .i64 (1)], (resVars_cons (resVar_cell rfl rfl P_agg24 P_sz24 (Nat.le_of_ble_eq_true rfl) rfl) (resVars_cons (resVar_tmp rfl rfl) resVars_nil)), (by rw [gR_false (by simp [*])]; rfl)⟩))
  · replace hc1 := (bnot_f hc1)
    refine VList.go0 (n' := 9) rfl rfl (.loadS _ _ _ _ _ _ rfl rfl P_agg24 P_sz24 (Nat.le_of_ble_eq_true rfl)) rfl ?_
    refine VList.go0 (n' := 10) rfl rfl (.callF _ _ _ _ _ _ rfl (ress_cons rfl ress_nil) (f26 _ _ (by first | omega | assumption | (simp; done) | (simp; omega))) rfl) rfl ?_
    refine VList.go0 (n' := 11) rfl rfl (.un _ _ _ _ _ rfl rfl) rfl ?_
    refine VList.go0 (n' := 12) rfl rfl (.pick _ _ _ _ _ rfl rfl) rfl ?_
    refine VList.nil (Then.go ?_)
    refine VCode.cond _ rfl (fun hc2 => ?_) (fun hc2 => ?_)
    · replace hc2 := (bnot_t hc2)
      refine VCode.seq ?_
      refine VCode.region ?_
      refine VList.go0 (n' := 13) rfl rfl Eff.int0 rfl ?_
      refine VList.goS (n' := 14) rfl rfl (.store _ _ _ _ _ _ _ rfl rfl rfl rfl P_sz24 (Nat.le_of_ble_eq_true rfl) rfl) rfl ?_
      refine VList.go0 (n' := 15) rfl rfl (.assign _ _ rfl) rfl ?_
      refine VList.nil (Then.go ?_)
      exact VCode.ret (Then.ret (⟨trivial, [.agg [boolB (false), u32S ([])], numB .i64 (1)], (resVars_cons (resVar_cell rfl rfl P_agg24 P_sz24 (Nat.le_of_ble_eq_true rfl) rfl) (resVars_cons (resVar_tmp rfl rfl) resVars_nil)), (by rw [gR_false (by simp [*])]; rfl)⟩))
    · replace hc2 := (bnot_f hc2)
      refine VCode.skip (Then.go ?_)
      refine VCode.seq ?_
      have va : validB n A = true := by assumption
      have vb : validB m B = true := by assumption
      have hv := vv va vb
      obtain ⟨nA, lA, sA⟩ := valid_norm oA va
      obtain ⟨nB, lB, sB⟩ := valid_norm oB vb
      have vA := val_nonneg oA
      have vB_ := val_nonneg oB
      refine VCode.draw (by kernel_rfl) ?_
      refine VLog.go0 (n' := 13) rfl rfl (.loadS _ _ _ _ _ _ rfl rfl P_agg24 P_sz24 (Nat.le_of_ble_eq_true rfl)) rfl ?_
      refine VLog.go0 (n' := 14) rfl rfl (.loadS _ _ _ _ _ _ rfl rfl P_agg24 P_sz24 (Nat.le_of_ble_eq_true rfl)) rfl ?_
      refine VLog.go0 (n' := 15) rfl rfl (Eff.callV0 rfl (ress_cons rfl ress_nil) (f76 _ _ (by first | omega | assumption | (simp; done) | (simp; omega))) rfl) rfl ?_
      refine VLog.go0 (n' := 16) rfl rfl (Eff.callV0 rfl (ress_cons rfl (ress_cons rfl ress_nil)) (f39 _ _ _ _ (by first | omega | assumption | (simp; done) | (simp; omega)) (by first | omega | assumption | (simp; done) | (simp; omega)) (by first | omega | assumption | (simp; done) | (simp; omega)) (by first | omega | assumption | (simp; done) | (simp; omega))) rfl) rfl ?_
      refine VLog.go0 (n' := 17) rfl rfl (.extract _ _ _ _ rfl rfl) rfl ?_
      refine VLog.go0 (n' := 18) rfl rfl (.extract _ _ _ _ rfl rfl) rfl ?_
      refine VLog.goS (n' := 19) rfl rfl (.store _ _ _ _ _ _ _ rfl rfl rfl rfl P_sz24 (Nat.le_of_ble_eq_true rfl) rfl) rfl ?_
      refine VLog.go0 (n' := 20) rfl rfl (.assign _ _ rfl) rfl ?_
      refine VLog.nil ⟨by kernel_rfl, Then.go ?_⟩
      exact VCode.ret (⟨trivial, [.agg [boolB (gN (validB (n) (A) && validB ((ngB (m) (B))) (B)) (zOf (n) (A) + zOf ((ngB (m) (B))) (B))), u32S (gL (validB (n) (A) && validB ((ngB (m) (B))) (B)) (zOf (n) (A) + zOf ((ngB (m) (B))) (B)))], numB .i64 (gE (validB (n) (A) && validB ((ngB (m) (B))) (B)) (zOf (n) (A) + zOf ((ngB (m) (B))) (B)))], (resVars_cons (resVar_cell rfl rfl P_agg24 P_sz24 (Nat.le_of_ble_eq_true rfl) rfl) (resVars_cons (resVar_tmp rfl rfl) resVars_nil)), (ng_sub oB vb).symm⟩)
theorem f30 (n : Bool) (A : List Int) (m : Bool) (B : List Int) (hA : A.length ≤ 9223372036854775807) (hB : B.length ≤ 9223372036854775807) (oA : ok32 A) (oB : ok32 B) : VF Try.prog 30 [.agg [boolB (n), u32S (A)], .agg [boolB (m), u32S (B)]] (gR (validB n A && validB m B) (zOf n A * zOf m B)) := by
  refine VF_of P_mixed Try.func30 rfl rfl (by kernel_rfl) ?_
  refine VCode.seq ?_
  refine VCode.region ?_
  refine VList.go1 (n' := 1) rfl rfl (.box _ _ _ rfl (List.cons_ne_nil _ _) rfl) rfl ?_
  refine VList.go1 (n' := 2) rfl rfl (.box _ _ _ rfl (List.cons_ne_nil _ _) rfl) rfl ?_
  refine VList.go1 (n' := 3) rfl rfl (.alloc _ _ P_zero24 (List.cons_ne_nil _ _)) rfl ?_
  refine VList.go0 (n' := 4) rfl rfl (.assign _ _ rfl) rfl ?_
  refine VList.nil (Then.go ?_)
  refine VCode.seq ?_
  refine VCode.seq ?_
  refine VCode.region ?_
  refine VList.go0 (n' := 5) rfl rfl (.loadS _ _ _ _ _ _ rfl rfl P_agg24 P_sz24 (Nat.le_of_ble_eq_true rfl)) rfl ?_
  refine VList.go0 (n' := 6) rfl rfl (.callF _ _ _ _ _ _ rfl (ress_cons rfl ress_nil) (f26 _ _ (by first | omega | assumption | (simp; done) | (simp; omega))) rfl) rfl ?_
  refine VList.go0 (n' := 7) rfl rfl (.un _ _ _ _ _ rfl rfl) rfl ?_
  refine VList.go0 (n' := 8) rfl rfl (.move _ _ rfl) rfl ?_
  refine VList.split (d := 9) _ rfl (fun hc1 => ?_) (fun hc1 => ?_)
  · replace hc1 := (bnot_t hc1)
    refine VList.skip (n' := 9) rfl rfl rfl ?_
    refine VList.skip (n' := 10) rfl rfl rfl ?_
    refine VList.skip (n' := 11) rfl rfl rfl ?_
    refine VList.go0 (n' := 12) rfl rfl (.pick _ _ _ _ _ rfl rfl) rfl ?_
    refine VList.nil (Then.go ?_)
    refine VCode.cond _ rfl (fun _ => ?_) (fun h_ => Bool.noConfusion h_)
    refine VCode.seq ?_
    refine VCode.region ?_
    refine VList.go0 (n' := 13) rfl rfl Eff.int0 rfl ?_
    refine VList.goS (n' := 14) rfl rfl (.store _ _ _ _ _ _ _ rfl rfl rfl rfl P_sz24 (Nat.le_of_ble_eq_true rfl) rfl) rfl ?_
    refine VList.go0 (n' := 15) rfl rfl (.assign _ _ rfl) rfl ?_
    refine VList.nil (Then.go ?_)
    exact VCode.ret (Then.ret (⟨trivial, [.agg [boolB (false), u32S ([])], numB .i64 (1)], (resVars_cons (resVar_cell rfl rfl P_agg24 P_sz24 (Nat.le_of_ble_eq_true rfl) rfl) (resVars_cons (resVar_tmp rfl rfl) resVars_nil)), (by rw [gR_false (by simp [*])]; rfl)⟩))
  · replace hc1 := (bnot_f hc1)
    refine VList.go0 (n' := 9) rfl rfl (.loadS _ _ _ _ _ _ rfl rfl P_agg24 P_sz24 (Nat.le_of_ble_eq_true rfl)) rfl ?_
    refine VList.go0 (n' := 10) rfl rfl (.callF _ _ _ _ _ _ rfl (ress_cons rfl ress_nil) (f26 _ _ (by first | omega | assumption | (simp; done) | (simp; omega))) rfl) rfl ?_
    refine VList.go0 (n' := 11) rfl rfl (.un _ _ _ _ _ rfl rfl) rfl ?_
    refine VList.go0 (n' := 12) rfl rfl (.pick _ _ _ _ _ rfl rfl) rfl ?_
    refine VList.nil (Then.go ?_)
    refine VCode.cond _ rfl (fun hc2 => ?_) (fun hc2 => ?_)
    · replace hc2 := (bnot_t hc2)
      refine VCode.seq ?_
      refine VCode.region ?_
      refine VList.go0 (n' := 13) rfl rfl Eff.int0 rfl ?_
      refine VList.goS (n' := 14) rfl rfl (.store _ _ _ _ _ _ _ rfl rfl rfl rfl P_sz24 (Nat.le_of_ble_eq_true rfl) rfl) rfl ?_
      refine VList.go0 (n' := 15) rfl rfl (.assign _ _ rfl) rfl ?_
      refine VList.nil (Then.go ?_)
      exact VCode.ret (Then.ret (⟨trivial, [.agg [boolB (false), u32S ([])], numB .i64 (1)], (resVars_cons (resVar_cell rfl rfl P_agg24 P_sz24 (Nat.le_of_ble_eq_true rfl) rfl) (resVars_cons (resVar_tmp rfl rfl) resVars_nil)), (by rw [gR_false (by simp [*])]; rfl)⟩))
    · replace hc2 := (bnot_f hc2)
      refine VCode.skip (Then.go ?_)
      refine VCode.seq ?_
      have va : validB n A = true := by assumption
      have vb : validB m B = true := by assumption
      have hv := vv va vb
      obtain ⟨nA, lA, sA⟩ := valid_norm oA va
      obtain ⟨nB, lB, sB⟩ := valid_norm oB vb
      have vA := val_nonneg oA
      have vB_ := val_nonneg oB
      have m0 := Int.mul_nonneg (val_nonneg oA) (val_nonneg oB)
      refine VCode.draw (by kernel_rfl) ?_
      refine VLog.go0 (n' := 13) rfl rfl (.fieldAddr _ _ _ _ _ _ _ _ rfl P_fld24_0) rfl ?_
      refine VLog.go0 (n' := 14) rfl rfl (.load1 _ _ _ _ _ _ rfl rfl P_agg4 rfl) rfl ?_
      refine VLog.go0 (n' := 15) rfl rfl (.fieldAddr _ _ _ _ _ _ _ _ rfl P_fld24_0) rfl ?_
      refine VLog.go0 (n' := 16) rfl rfl (.load1 _ _ _ _ _ _ rfl rfl P_agg4 rfl) rfl ?_
      refine VLog.go0 (n' := 17) rfl rfl (.binB _ _ _ _ _ _ _ _ rfl rfl Try.underlying4 rfl) rfl ?_
      refine VLog.go0 (n' := 18) rfl rfl (.fieldAddr _ _ _ _ _ _ _ _ rfl P_fld24_1) rfl ?_
      refine VLog.go0 (n' := 19) rfl rfl (.load1 _ _ _ _ _ _ rfl rfl P_agg22 rfl) rfl ?_
      refine VLog.go0 (n' := 20) rfl rfl (.fieldAddr _ _ _ _ _ _ _ _ rfl P_fld24_1) rfl ?_
      refine VLog.go0 (n' := 21) rfl rfl (.load1 _ _ _ _ _ _ rfl rfl P_agg22 rfl) rfl ?_
      refine VLog.go0 (n' := 22) rfl rfl (Eff.callV0 rfl (ress_cons rfl (ress_cons rfl ress_nil)) (f65 _ _ (by first | omega | assumption | (simp; done) | (simp; omega)) (by first | omega | assumption | (simp; done) | (simp; omega)) (by first | omega | assumption | (simp; done) | (simp; omega)) (by first | omega | assumption | (simp; done) | (simp; omega))) rfl) rfl ?_
      refine VLog.go0 (n' := 23) rfl rfl (Eff.callV0 rfl (ress_cons rfl (ress_cons rfl ress_nil)) (f58 _ _ (mul_len oA oB lA lB) (ok32_dg _)) rfl) rfl ?_
      refine VLog.go0 (n' := 24) rfl rfl (.extract _ _ _ _ rfl rfl) rfl ?_
      refine VLog.go0 (n' := 25) rfl rfl (.extract _ _ _ _ rfl rfl) rfl ?_
      refine VLog.goS (n' := 26) rfl rfl (.store _ _ _ _ _ _ _ rfl rfl rfl rfl P_sz24 (Nat.le_of_ble_eq_true rfl) rfl) rfl ?_
      refine VLog.go0 (n' := 27) rfl rfl (.assign _ _ rfl) rfl ?_
      refine VLog.nil ⟨by kernel_rfl, Then.go ?_⟩
      exact VCode.ret (⟨trivial, [.agg [boolB (zN (sg ((!(n == m))) (val (dg (val (A) * val (B)))))), u32S (zL (sg ((!(n == m))) (val (dg (val (A) * val (B))))))], numB .i64 (zE (sg ((!(n == m))) (val (dg (val (A) * val (B))))))], (resVars_cons (resVar_cell rfl rfl P_agg24 P_sz24 (Nat.le_of_ble_eq_true rfl) rfl) (resVars_cons (resVar_tmp rfl rfl) resVars_nil)), (by rw [gR_true hv, show zOf n A * zOf m B = sg (!(n == m)) (val A * val B) from sg_mul, val_dg m0]; rfl)⟩)
theorem f37 (n : Int) (h0 : -9223372036854775808 ≤ n) (h1 : n ≤ 9223372036854775807) : VF Try.prog 37 [numB .i64 (n)] (intB (zN n) (zL n)) := by
  refine VF_of P_mixed Try.func37 rfl rfl (by kernel_rfl) ?_
  refine VCode.seq ?_
  refine VCode.region ?_
  refine VList.go1 (n' := 1) rfl rfl (.alloc _ _ P_zero24 (List.cons_ne_nil _ _)) rfl ?_
  refine VList.nil (Then.go ?_)
  refine VCode.seq ?_
  have hi := small_in h0 h1
  refine VCode.region ?_
  refine VList.go0 (n' := 2) rfl rfl (.move _ _ rfl) rfl ?_
  refine VList.go0 (n' := 3) rfl rfl (Eff.convM_u64 rfl Try.underlying3 Try.underlying62) rfl ?_
  refine VList.go0 (n' := 4) rfl rfl (.assign _ _ rfl) rfl ?_
  refine VList.nil (Then.go ?_)
  refine VCode.seq ?_
  refine VCode.seq ?_
  refine VCode.region ?_
  refine VList.go0 (n' := 5) rfl rfl (.move _ _ rfl) rfl ?_
  refine VList.go0 (n' := 6) rfl rfl (.bin _ _ _ _ _ _ _ _ rfl rfl rfl) rfl ?_
  refine VList.nil (Then.go ?_)
  refine VCode.cond _ rfl (fun hc1 => ?_) (fun hc1 => ?_)
  · replace hc1 := of_decide_eq_true hc1
    refine VCode.region ?_
    refine VList.go0 (n' := 7) rfl rfl (.move _ _ rfl) rfl ?_
    refine VList.go0 (n' := 8) rfl rfl (.un _ _ _ _ _ rfl (uopM_neg_u64 _)) rfl ?_
    refine VList.go0 (n' := 9) rfl rfl (.assign _ _ rfl) rfl ?_
    refine VList.nil (Then.go ?_)
    refine VCode.seq ?_
    refine VCode.region ?_
    refine VList.go0 (n' := 10) rfl rfl (.move _ _ rfl) rfl ?_
    refine VList.go0 (n' := 11) rfl rfl (.bin _ _ _ _ _ _ _ _ rfl rfl rfl) rfl ?_
    refine VList.go1 (n' := 12) rfl rfl (Eff.lits0 Try.underlying22 P_zero51 P_sz51) rfl ?_
    refine VList.go0 (n' := 13) rfl rfl (.move _ _ rfl) rfl ?_
    refine VList.go0 (n' := 14) rfl rfl (Eff.convM_u32 rfl Try.underlying62 Try.underlying51) rfl ?_
    refine VList.go0 (n' := 15) rfl rfl (.move _ _ rfl) rfl ?_
    refine VList.go0 (n' := 16) rfl rfl (.bin _ _ _ _ _ _ _ _ rfl rfl (bop_shrL_u64 (q := 4294967296) (by decide) (by decide) (by decide))) rfl ?_
    refine VList.go0 (n' := 17) rfl rfl (Eff.convM_u32 rfl Try.underlying62 Try.underlying51) rfl ?_
    refine VList.go1 (n' := 18) rfl rfl (Eff.lits2 rfl rfl Try.underlying22 P_zero51 P_sz51) rfl ?_
    refine VList.goN (n' := 19) rfl rfl (.callV _ _ _ _ _ _ rfl (ress_cons (res_row rfl (by first | omega | (simp; done) | (simp; omega) | (simp [*]; done) | (simp [*]; omega))) ress_nil) (f66 _ (by simp) (ok32_two (by omega) (by omega)))) rfl ?_
    refine VList.goN (n' := 20) rfl rfl (Eff.appendRow rfl rfl (by first | omega | (simp; done) | (simp; omega)) rfl rfl (show _ ∉ ([] : List Nat) from List.not_mem_nil) Try.underlying22 P_sz51 P_bytes51 P_zero51 (len_w (by omega) (by omega))) rfl ?_
    refine VList.go0 (n' := 21) rfl rfl (Eff.int2 rfl rfl rfl rfl) rfl ?_
    refine VList.goS (n' := 22) rfl rfl (.store _ _ _ _ _ _ _ rfl rfl rfl rfl P_sz24 (Nat.le_of_ble_eq_true rfl) rfl) rfl ?_
    refine VList.nil (Then.go ?_)
    exact VCode.ret (⟨trivial, [.agg [boolB (decide (n < 0)), u32S (([]) ++ (dg (val ([((((0 - ((n) % 18446744073709551616)) % 18446744073709551616)) % 4294967296), (((((0 - ((n) % 18446744073709551616)) % 18446744073709551616) / 4294967296)) % 4294967296)]))))]], (resVars_cons (resVar_cell rfl rfl P_agg24 P_sz24 (Nat.le_of_ble_eq_true rfl) (res_agg rfl (by simp))) resVars_nil), (by rw [(z_in hi).1, (z_in hi).2, of_val (by omega), show (0 - n % 18446744073709551616) % 18446744073709551616 = (n.natAbs : Int) by omega]; rfl)⟩)
  · replace hc1 := of_decide_eq_false hc1
    refine VCode.skip (Then.go ?_)
    refine VCode.seq ?_
    refine VCode.region ?_
    refine VList.go0 (n' := 7) rfl rfl (.move _ _ rfl) rfl ?_
    refine VList.go0 (n' := 8) rfl rfl (.bin _ _ _ _ _ _ _ _ rfl rfl rfl) rfl ?_
    refine VList.go1 (n' := 9) rfl rfl (Eff.lits0 Try.underlying22 P_zero51 P_sz51) rfl ?_
    refine VList.go0 (n' := 10) rfl rfl (.move _ _ rfl) rfl ?_
    refine VList.go0 (n' := 11) rfl rfl (Eff.convM_u32 rfl Try.underlying62 Try.underlying51) rfl ?_
    refine VList.go0 (n' := 12) rfl rfl (.move _ _ rfl) rfl ?_
    refine VList.go0 (n' := 13) rfl rfl (.bin _ _ _ _ _ _ _ _ rfl rfl (bop_shrL_u64 (q := 4294967296) (by decide) (by decide) (by decide))) rfl ?_
    refine VList.go0 (n' := 14) rfl rfl (Eff.convM_u32 rfl Try.underlying62 Try.underlying51) rfl ?_
    refine VList.go1 (n' := 15) rfl rfl (Eff.lits2 rfl rfl Try.underlying22 P_zero51 P_sz51) rfl ?_
    refine VList.goN (n' := 16) rfl rfl (.callV _ _ _ _ _ _ rfl (ress_cons (res_row rfl (by first | omega | (simp; done) | (simp; omega) | (simp [*]; done) | (simp [*]; omega))) ress_nil) (f66 _ (by simp) (ok32_two (by omega) (by omega)))) rfl ?_
    refine VList.goN (n' := 17) rfl rfl (Eff.appendRow rfl rfl (by first | omega | (simp; done) | (simp; omega)) rfl rfl (show _ ∉ ([] : List Nat) from List.not_mem_nil) Try.underlying22 P_sz51 P_bytes51 P_zero51 (len_w (by omega) (by omega))) rfl ?_
    refine VList.go0 (n' := 18) rfl rfl (Eff.int2 rfl rfl rfl rfl) rfl ?_
    refine VList.goS (n' := 19) rfl rfl (.store _ _ _ _ _ _ _ rfl rfl rfl rfl P_sz24 (Nat.le_of_ble_eq_true rfl) rfl) rfl ?_
    refine VList.nil (Then.go ?_)
    exact VCode.ret (⟨trivial, [.agg [boolB (decide (n < 0)), u32S (([]) ++ (dg (val ([((((n) % 18446744073709551616)) % 4294967296), (((((n) % 18446744073709551616) / 4294967296)) % 4294967296)]))))]], (resVars_cons (resVar_cell rfl rfl P_agg24 P_sz24 (Nat.le_of_ble_eq_true rfl) (res_agg rfl (by simp))) resVars_nil), (by rw [(z_in hi).1, (z_in hi).2, of_val (by omega), show n % 18446744073709551616 = (n.natAbs : Int) by omega]; rfl)⟩)
theorem f34 (n : Bool) (A : List Int) (m : Bool) (B : List Int) (hA : A.length ≤ 9223372036854775807) (hB : B.length ≤ 9223372036854775807) (oA : ok32 A) (oB : ok32 B) : VF Try.prog 34 [.agg [boolB (n), u32S (A)], .agg [boolB (m), u32S (B)]] (.tup [numB .i64 (cC (validB n A && validB m B) (zOf n A) (zOf m B)), numB .i64 (cE (validB n A && validB m B))]) := by
  refine VF_of P_mixed Try.func34 rfl rfl (by kernel_rfl) ?_
  refine VCode.seq ?_
  refine VCode.region ?_
  refine VList.go1 (n' := 1) rfl rfl (.box _ _ _ rfl (List.cons_ne_nil _ _) rfl) rfl ?_
  refine VList.go1 (n' := 2) rfl rfl (.box _ _ _ rfl (List.cons_ne_nil _ _) rfl) rfl ?_
  refine VList.go0 (n' := 3) rfl rfl (.assign _ _ rfl) rfl ?_
  refine VList.go0 (n' := 4) rfl rfl (.assign _ _ rfl) rfl ?_
  refine VList.nil (Then.go ?_)
  refine VCode.seq ?_
  refine VCode.seq ?_
  refine VCode.region ?_
  refine VList.go0 (n' := 5) rfl rfl (.loadS _ _ _ _ _ _ rfl rfl P_agg24 P_sz24 (Nat.le_of_ble_eq_true rfl)) rfl ?_
  refine VList.go0 (n' := 6) rfl rfl (.callF _ _ _ _ _ _ rfl (ress_cons rfl ress_nil) (f26 _ _ (by first | omega | assumption | (simp; done) | (simp; omega))) rfl) rfl ?_
  refine VList.go0 (n' := 7) rfl rfl (.un _ _ _ _ _ rfl rfl) rfl ?_
  refine VList.go0 (n' := 8) rfl rfl (.move _ _ rfl) rfl ?_
  refine VList.split (d := 9) _ rfl (fun hc1 => ?_) (fun hc1 => ?_)
  · replace hc1 := (bnot_t hc1)
    refine VList.skip (n' := 9) rfl rfl rfl ?_
    refine VList.skip (n' := 10) rfl rfl rfl ?_
    refine VList.skip (n' := 11) rfl rfl rfl ?_
    refine VList.go0 (n' := 12) rfl rfl (.pick _ _ _ _ _ rfl rfl) rfl ?_
    refine VList.nil (Then.go ?_)
    refine VCode.cond _ rfl (fun _ => ?_) (fun h_ => Bool.noConfusion h_)
    refine VCode.seq ?_
    refine VCode.region ?_
    refine VList.go0 (n' := 13) rfl rfl (.assign _ _ rfl) rfl ?_
    refine VList.go0 (n' := 14) rfl rfl (.assign _ _ rfl) rfl ?_
    refine VList.nil (Then.go ?_)
    exact VCode.ret (Then.ret (⟨trivial, [numB .i64 (0), numB .i64 (1)], (resVars_cons (resVar_tmp rfl rfl) (resVars_cons (resVar_tmp rfl rfl) resVars_nil)), (by rw [cC_false (by simp [*]), cE_false (by simp [*])]; rfl)⟩))
  · replace hc1 := (bnot_f hc1)
    refine VList.go0 (n' := 9) rfl rfl (.loadS _ _ _ _ _ _ rfl rfl P_agg24 P_sz24 (Nat.le_of_ble_eq_true rfl)) rfl ?_
    refine VList.go0 (n' := 10) rfl rfl (.callF _ _ _ _ _ _ rfl (ress_cons rfl ress_nil) (f26 _ _ (by first | omega | assumption | (simp; done) | (simp; omega))) rfl) rfl ?_
    refine VList.go0 (n' := 11) rfl rfl (.un _ _ _ _ _ rfl rfl) rfl ?_
    refine VList.go0 (n' := 12) rfl rfl (.pick _ _ _ _ _ rfl rfl) rfl ?_
    refine VList.nil (Then.go ?_)
    refine VCode.cond _ rfl (fun hc2 => ?_) (fun hc2 => ?_)
    · replace hc2 := (bnot_t hc2)
      refine VCode.seq ?_
      refine VCode.region ?_
      refine VList.go0 (n' := 13) rfl rfl (.assign _ _ rfl) rfl ?_
      refine VList.go0 (n' := 14) rfl rfl (.assign _ _ rfl) rfl ?_
      refine VList.nil (Then.go ?_)
      exact VCode.ret (Then.ret (⟨trivial, [numB .i64 (0), numB .i64 (1)], (resVars_cons (resVar_tmp rfl rfl) (resVars_cons (resVar_tmp rfl rfl) resVars_nil)), (by rw [cC_false (by simp [*]), cE_false (by simp [*])]; rfl)⟩))
    · replace hc2 := (bnot_f hc2)
      refine VCode.skip (Then.go ?_)
      refine VCode.seq ?_
      refine VCode.seq ?_
      have va : validB n A = true := by assumption
      have vb : validB m B = true := by assumption
      have hv := vv va vb
      obtain ⟨nA, lA, sA⟩ := valid_norm oA va
      obtain ⟨nB, lB, sB⟩ := valid_norm oB vb
      have vA := val_nonneg oA
      have vB_ := val_nonneg oB
      refine VCode.region ?_
      refine VList.go0 (n' := 13) rfl rfl (.fieldAddr _ _ _ _ _ _ _ _ rfl P_fld24_0) rfl ?_
      refine VList.go0 (n' := 14) rfl rfl (.load1 _ _ _ _ _ _ rfl rfl P_agg4 rfl) rfl ?_
      refine VList.go0 (n' := 15) rfl rfl (.fieldAddr _ _ _ _ _ _ _ _ rfl P_fld24_0) rfl ?_
      refine VList.go0 (n' := 16) rfl rfl (.load1 _ _ _ _ _ _ rfl rfl P_agg4 rfl) rfl ?_
      refine VList.go0 (n' := 17) rfl rfl (.binB _ _ _ _ _ _ _ _ rfl rfl Try.underlying4 rfl) rfl ?_
      refine VList.nil (Then.go ?_)
      refine VCode.cond _ rfl (fun hc3 => ?_) (fun hc3 => ?_)
      · replace hc3 := ne_of_beq_false (bnot_t hc3)
        refine VCode.seq ?_
        refine VCode.seq ?_
        refine VCode.region ?_
        refine VList.go0 (n' := 18) rfl rfl (.fieldAddr _ _ _ _ _ _ _ _ rfl P_fld24_0) rfl ?_
        refine VList.go0 (n' := 19) rfl rfl (.load1 _ _ _ _ _ _ rfl rfl P_agg4 rfl) rfl ?_
        refine VList.nil (Then.go ?_)
        refine VCode.cond _ rfl (fun hc4 => ?_) (fun hc4 => ?_)
        · (try simp at hc4)
          refine VCode.seq ?_
          refine VCode.region ?_
          refine VList.go0 (n' := 20) rfl rfl (.assign _ _ rfl) rfl ?_
          refine VList.go0 (n' := 21) rfl rfl (.assign _ _ rfl) rfl ?_
          refine VList.nil (Then.go ?_)
          exact VCode.ret (Then.ret (Then.ret (⟨trivial, [numB .i64 ((-1)), numB .i64 (0)], (resVars_cons (resVar_tmp rfl rfl) (resVars_cons (resVar_tmp rfl rfl) resVars_nil)), (by rw [cC_true hv, cE_true hv]; cases n <;> cases m <;> first | contradiction | (rw [cmp3_np (neg_pos nA sA rfl) vB_]; rfl) | (rw [cmp3_pn vA (neg_pos nB sB rfl)]; rfl) | (rw [cmp3_nn, ← cmp3_anti]; rfl) | (rw [cmp3_pp]; rfl))⟩)))
        · (try simp at hc4)
          refine VCode.skip (Then.go ?_)
          refine VCode.seq ?_
          refine VCode.region ?_
          refine VList.go0 (n' := 20) rfl rfl (.assign _ _ rfl) rfl ?_
          refine VList.go0 (n' := 21) rfl rfl (.assign _ _ rfl) rfl ?_
          refine VList.nil (Then.go ?_)
          exact VCode.ret (Then.ret (⟨trivial, [numB .i64 (1), numB .i64 (0)], (resVars_cons (resVar_tmp rfl rfl) (resVars_cons (resVar_tmp rfl rfl) resVars_nil)), (by rw [cC_true hv, cE_true hv]; cases n <;> cases m <;> first | contradiction | (rw [cmp3_np (neg_pos nA sA rfl) vB_]; rfl) | (rw [cmp3_pn vA (neg_pos nB sB rfl)]; rfl) | (rw [cmp3_nn, ← cmp3_anti]; rfl) | (rw [cmp3_pp]; rfl))⟩))
      · replace hc3 := eq_of_beq (bnot_f hc3)
        refine VCode.skip (Then.go ?_)
        refine VCode.seq ?_
        refine VCode.seq ?_
        refine VCode.region ?_
        refine VList.go0 (n' := 18) rfl rfl (.fieldAddr _ _ _ _ _ _ _ _ rfl P_fld24_0) rfl ?_
        refine VList.go0 (n' := 19) rfl rfl (.load1 _ _ _ _ _ _ rfl rfl P_agg4 rfl) rfl ?_
        refine VList.nil (Then.go ?_)
        refine VCode.cond _ rfl (fun hc5 => ?_) (fun hc5 => ?_)
        · (try simp at hc5)
          refine VCode.seq ?_
          refine VCode.region ?_
          refine VList.go0 (n' := 20) rfl rfl (.fieldAddr _ _ _ _ _ _ _ _ rfl P_fld24_1) rfl ?_
          refine VList.go0 (n' := 21) rfl rfl (.load1 _ _ _ _ _ _ rfl rfl P_agg22 rfl) rfl ?_
          refine VList.go0 (n' := 22) rfl rfl (.fieldAddr _ _ _ _ _ _ _ _ rfl P_fld24_1) rfl ?_
          refine VList.go0 (n' := 23) rfl rfl (.load1 _ _ _ _ _ _ rfl rfl P_agg22 rfl) rfl ?_
          refine VList.go0 (n' := 24) rfl rfl (.callF _ _ _ _ _ _ rfl (ress_cons rfl (ress_cons rfl ress_nil)) (f72 _ _ (by first | omega | assumption | (simp; done) | (simp; omega)) (by first | omega | assumption | (simp; done) | (simp; omega)) (by first | omega | assumption | (simp; done) | (simp; omega)) (by first | omega | assumption | (simp; done) | (simp; omega)) (fun h => cmp_len nB nA h)) rfl) rfl ?_
          refine VList.go0 (n' := 25) rfl rfl (.assign _ _ rfl) rfl ?_
          refine VList.go0 (n' := 26) rfl rfl (.assign _ _ rfl) rfl ?_
          refine VList.nil (Then.go ?_)
          exact VCode.ret (Then.ret (⟨trivial, [numB .i64 (cmp3 (val (B)) (val (A))), numB .i64 (0)], (resVars_cons (resVar_tmp rfl rfl) (resVars_cons (resVar_tmp rfl rfl) resVars_nil)), (by rw [cC_true hv, cE_true hv]; cases n <;> cases m <;> first | contradiction | (rw [cmp3_np (neg_pos nA sA rfl) vB_]; rfl) | (rw [cmp3_pn vA (neg_pos nB sB rfl)]; rfl) | (rw [cmp3_nn, ← cmp3_anti]; rfl) | (rw [cmp3_pp]; rfl))⟩))
        · (try simp at hc5)
          refine VCode.skip (Then.go ?_)
          refine VCode.seq ?_
          refine VCode.region ?_
          refine VList.go0 (n' := 20) rfl rfl (.fieldAddr _ _ _ _ _ _ _ _ rfl P_fld24_1) rfl ?_
          refine VList.go0 (n' := 21) rfl rfl (.load1 _ _ _ _ _ _ rfl rfl P_agg22 rfl) rfl ?_
          refine VList.go0 (n' := 22) rfl rfl (.fieldAddr _ _ _ _ _ _ _ _ rfl P_fld24_1) rfl ?_
          refine VList.go0 (n' := 23) rfl rfl (.load1 _ _ _ _ _ _ rfl rfl P_agg22 rfl) rfl ?_
          refine VList.go0 (n' := 24) rfl rfl (.callF _ _ _ _ _ _ rfl (ress_cons rfl (ress_cons rfl ress_nil)) (f72 _ _ (by first | omega | assumption | (simp; done) | (simp; omega)) (by first | omega | assumption | (simp; done) | (simp; omega)) (by first | omega | assumption | (simp; done) | (simp; omega)) (by first | omega | assumption | (simp; done) | (simp; omega)) (fun h => cmp_len nA nB h)) rfl) rfl ?_
          refine VList.go0 (n' := 25) rfl rfl (.assign _ _ rfl) rfl ?_
          refine VList.go0 (n' := 26) rfl rfl (.assign _ _ rfl) rfl ?_
          refine VList.nil (Then.go ?_)
          exact VCode.ret (⟨trivial, [numB .i64 (cmp3 (val (A)) (val (B))), numB .i64 (0)], (resVars_cons (resVar_tmp rfl rfl) (resVars_cons (resVar_tmp rfl rfl) resVars_nil)), (by rw [cC_true hv, cE_true hv]; cases n <;> cases m <;> first | contradiction | (rw [cmp3_np (neg_pos nA sA rfl) vB_]; rfl) | (rw [cmp3_pn vA (neg_pos nB sB rfl)]; rfl) | (rw [cmp3_nn, ← cmp3_anti]; rfl) | (rw [cmp3_pp]; rfl))⟩)
end Go.VL

/- Walks over the Go functions, printed by a program of this session over the kit's print, and by hand. -/
set_option linter.unusedVariables false
set_option linter.unusedSimpArgs false
namespace Go.VL
open Go.Proofs
theorem f10 (n : Bool) (A : List Int) (j : Int) (hA : A.length ≤ 9223372036854775807) (oA : ok32 A) (j0 : -9223372036854775808 ≤ j) (j1 : j ≤ 9223372036854775807) : VF Try.prog 10 [.agg [boolB (n), u32S (A)], numB .i64 (j)] (boolB true) := by
  refine VF_of P_mixed Try.func10 rfl rfl (by kernel_rfl) ?_
  refine VCode.seq ?_
  refine VCode.region ?_
  refine VList.go1 (n' := 1) rfl rfl (.box _ _ _ rfl (List.cons_ne_nil _ _) rfl) rfl ?_
  refine VList.go0 (n' := 2) rfl rfl (.assign _ _ rfl) rfl ?_
  refine VList.nil (Then.go ?_)
  refine VCode.seq ?_
  refine VCode.region ?_
  refine VList.go0 (n' := 3) rfl rfl (.move _ _ rfl) rfl ?_
  refine VList.go0 (n' := 4) rfl rfl (Eff.callV0 rfl (ress_cons rfl ress_nil) (f28 _ (by first | omega | assumption | (simp; done) | (simp; omega)) (by first | omega | assumption | (simp; done) | (simp; omega))) rfl) rfl ?_
  refine VList.go1 (n' := 5) rfl rfl (.alloc _ _ P_zero24 (List.cons_ne_nil _ _)) rfl ?_
  refine VList.goS (n' := 6) rfl rfl (.store _ _ _ _ _ _ _ rfl rfl rfl rfl P_sz24 (Nat.le_of_ble_eq_true rfl) rfl) rfl ?_
  refine VList.nil (Then.go ?_)
  refine VCode.seq ?_
  refine VCode.region ?_
  refine VList.go0 (n' := 7) rfl rfl (.loadS _ _ _ _ _ _ rfl rfl P_agg24 P_sz24 (Nat.le_of_ble_eq_true rfl)) rfl ?_
  refine VList.go0 (n' := 8) rfl rfl (.callF _ _ _ _ _ _ rfl (ress_cons rfl ress_nil) (f35 _ _ (by first | with_reducible assumption | with_reducible exact len_gL' _ _ | with_reducible exact len_zL' _) (by first | with_reducible assumption | with_reducible exact ok32_gL _ _ | with_reducible exact ok32_zL _)) rfl) rfl ?_
  refine VList.go0 (n' := 9) rfl rfl (.move _ _ rfl) rfl ?_
  refine VList.go0 (n' := 10) rfl rfl (.extract _ _ _ _ rfl rfl) rfl ?_
  refine VList.go0 (n' := 11) rfl rfl (.extract _ _ _ _ rfl rfl) rfl ?_
  refine VList.go0 (n' := 12) rfl rfl (.assign _ _ rfl) rfl ?_
  refine VList.go0 (n' := 13) rfl rfl (Eff.castB (show (smB (zN (j)) (zL (j))) = true from sm_of j0 j1) (.assign _ _ rfl)) rfl ?_
  refine VList.nil (Then.go ?_)
  refine VCode.seq ?_
  refine VCode.draw (by kernel_rfl) ?_
  refine VLog.go0 (n' := 14) rfl rfl (.callF _ _ _ _ _ _ rfl ress_nil (f20) rfl) rfl ?_
  refine VLog.go0 (n' := 15) rfl rfl (.move _ _ rfl) rfl ?_
  refine VLog.go0 (n' := 16) rfl rfl (.loadS _ _ _ _ _ _ rfl rfl P_agg24 P_sz24 (Nat.le_of_ble_eq_true rfl)) rfl ?_
  refine VLog.go0 (n' := 17) rfl rfl (.callF _ _ _ _ _ _ rfl (ress_cons rfl ress_nil) (f36 _ _ (by first | with_reducible assumption | with_reducible exact len_gL' _ _ | with_reducible exact len_zL' _)) rfl) rfl ?_
  refine VLog.go0 (n' := 18) rfl rfl (.loadS _ _ _ _ _ _ rfl rfl P_agg24 P_sz24 (Nat.le_of_ble_eq_true rfl)) rfl ?_
  refine VLog.go0 (n' := 19) rfl rfl (.callF _ _ _ _ _ _ rfl (ress_cons rfl ress_nil) (f26 _ _ (by first | with_reducible assumption | with_reducible exact len_gL' _ _ | with_reducible exact len_zL' _)) rfl) rfl ?_
  refine VLog.go0 (n' := 20) rfl rfl (Eff.castB (show ((validB (n) (A)) == (validB (n) (A))) = true from beq_bool rfl) (.binB _ _ _ _ _ _ _ _ rfl rfl Try.underlying4 rfl)) rfl ?_
  refine VLog.go0 (n' := 21) rfl rfl (.pick _ _ _ _ _ rfl rfl) rfl ?_
  refine VLog.go0 (n' := 22) rfl rfl (.move _ _ rfl) rfl ?_
  refine VLog.go0 (n' := 23) rfl rfl (.loadS _ _ _ _ _ _ rfl rfl P_agg24 P_sz24 (Nat.le_of_ble_eq_true rfl)) rfl ?_
  refine VLog.go0 (n' := 24) rfl rfl (.move _ _ rfl) rfl ?_
  refine VLog.go0 (n' := 25) rfl rfl (Eff.callV0 rfl (ress_cons rfl ress_nil) (f37 _ (by first | omega | assumption | (simp; done) | (simp; omega)) (by first | omega | assumption | (simp; done) | (simp; omega))) rfl) rfl ?_
  refine VLog.go0 (n' := 26) rfl rfl (Eff.castB (show (sameB (zN (j)) (zL (j)) (zN (j)) (zL (j))) = true from sameB_refl _ _) (.callF _ _ _ _ _ _ rfl (ress_cons rfl (ress_cons rfl ress_nil)) (f21 _ _ _ _ (by first | with_reducible assumption | with_reducible exact len_gL' _ _ | with_reducible exact len_zL' _) (by first | with_reducible assumption | with_reducible exact len_gL' _ _ | with_reducible exact len_zL' _)) rfl)) rfl ?_
  refine VLog.go0 (n' := 27) rfl rfl (.pick _ _ _ _ _ rfl rfl) rfl ?_
  refine VLog.go0 (n' := 28) rfl rfl (.move _ _ rfl) rfl ?_
  refine VLog.go0 (n' := 29) rfl rfl (.loadS _ _ _ _ _ _ rfl rfl P_agg24 P_sz24 (Nat.le_of_ble_eq_true rfl)) rfl ?_
  refine VLog.go0 (n' := 30) rfl rfl (Eff.castB (show (validB (zN (j)) (zL (j))) = true from valid_zz _) (.callF _ _ _ _ _ _ rfl (ress_cons rfl ress_nil) (f36 _ _ (by first | with_reducible assumption | with_reducible exact len_gL' _ _ | with_reducible exact len_zL' _)) rfl)) rfl ?_
  refine VLog.go0 (n' := 31) rfl rfl (.pick _ _ _ _ _ rfl rfl) rfl ?_
  refine VLog.go0 (n' := 32) rfl rfl (.move _ _ rfl) rfl ?_
  refine VLog.go0 (n' := 33) rfl rfl (.move _ _ rfl) rfl ?_
  refine VLog.go0 (n' := 34) rfl rfl (.pick _ _ _ _ _ rfl rfl) rfl ?_
  refine VLog.go0 (n' := 35) rfl rfl (.move _ _ rfl) rfl ?_
  refine VLog.go0 (n' := 36) rfl rfl (.move _ _ rfl) rfl ?_
  refine VLog.go0 (n' := 37) rfl rfl (.move _ _ rfl) rfl ?_
  refine VLog.go0 (n' := 38) rfl rfl (Eff.castB (show (smI (zN (j)) (zL (j)) == j) = true from beq_yes (sm_back j0 j1)) (.bin _ _ _ _ _ _ _ _ rfl rfl rfl)) rfl ?_
  refine VLog.go0 (n' := 39) rfl rfl (.pick _ _ _ _ _ rfl rfl) rfl ?_
  refine VLog.go0 (n' := 40) rfl rfl (.assign _ _ rfl) rfl ?_
  refine VLog.nil ⟨by kernel_rfl, Then.go ?_⟩
  exact VCode.ret (⟨trivial, [boolB (true)], (resVars_cons (resVar_tmp rfl rfl) resVars_nil), rfl⟩)
end Go.VL

set_option linter.unusedVariables false
set_option linter.unusedSimpArgs false
namespace Go.Proofs.Ytipajnobkladeaa
open Go.ChangeShapes Go.WideShapes Go.ChangeAt Go.RowKit Go.VL

set_option maxRecDepth 100000 in
theorem integerValid_lifted (os : Os) (started : os.Started) (H : Type) (enc : TypeId × Value → H) :
    ReturnsInHanded {} Try.checked os 10 .any (Rows.integerValidSpec.pre6 enc Try.prog Try.f10 Rows.integerValidRow.domain false) (Rows.integerValidSpec.post enc Try.prog Try.f10 false true false false) := by
  refine returnsInHanded_of_change (C := Try.checked) Try_own started (by kernel_rfl) Try.func10
    (ChangeSpec.witness6 (enc := enc) (C := Try.checked) false ⟨#[], #[.agg #[.bool false, .slice none 0 0], .int .i64 0], []⟩ 8 (by kernel_rfl) (by kernel_rfl) (by kernel_rfl) (by kernel_rfl)) ?_
  intro W base args ds gs before hval0 hW hcnd _
  have hval : ∀ (j : Nat) t v, Try.f10.params[j]? = some t → args[j]? = some v → Value.okWide Try.prog W .any base t v := hval0
  have hW' := hW
  obtain ⟨p, q, hA0, hV, rfl, hfz, hnd⟩ := hW
  have hA : DataW.TrodAll enc Try.prog W 0 (fun _ => true) true Try.f10.params.toList args.toList ds p := hA0
  have hA1 := hA
  rw [Try.params10] at hA hval
  obtain ⟨v0, v1, d0, d1, p0, p1, rfl, rfl, rfl, h0, h1⟩ := trodAll_two hA
  obtain ⟨rfl, rfl⟩ := trodVars_none hV
  obtain ⟨n0, L0, r0, o0, l0⟩ := open_api (hval 0 24 v0 rfl rfl) h0
  obtain ⟨k1, r1, a1, b1⟩ := open_i64 (hval 1 3 v1 rfl rfl) h1
  simp only [List.append_nil] at hW'
  have hlt : ∀ x ∈ p0 ++ p1, x.block < W.heap.size := fun x hx => hW'.lt x hx
  have hread : ∀ t ∈ Try.f10.params.toList, Try.prog.readableRec t = true ∧ t < Try.prog.types.size := by rw [Try.params10]; exact types_cons T24 (types_cons T3 (types_nil))
  refine ((f10 n0 L0 k1 l0 o0 a1 b1).runs (xs := [v0, v1]) rfl (reps_cons r0 (reps_cons r1 reps_nil))).mono fun e W' ⟨he, hb⟩ => ?_
  subst he
  exact ⟨_, rfl, post_of_below (pa := _) (pv := []) hW' (fun _ _ _ => trodAll_mk1 shut_true) (fun sp hsp => args_stay Try_laidOut hb hread hA1 hlt hsp) (fun _ _ => rfl) (by simp) hb (ok_one (by kernel_rfl) rfl ok_true)⟩

theorem integerValid_facts : joinedFacts Try.pinned.checked.prog 10 Try.f10 Rows.integerValidSpec Rows.integerValidRow = true := by
  unfold joinedFacts
  rw [head_may, head_lifts, head_make]
  kernel_rfl

theorem integerValid_holds : Rows.IntegerValidSaid :=
  OpenClaim.holds_of_wide 10 Try.f10 rfl rfl rfl rfl rfl rfl rfl ⟨rfl, rfl, rfl, rfl, rfl⟩ rfl rfl rfl rfl rfl (by kernel_rfl) Try.func10 integerValid_facts
    (of_decide_eq_true (by kernel_rfl)) (by unfold Func.isWrapper; rw [if_neg (of_decide_eq_false (by kernel_rfl))]; exact ⟨rfl, rfl⟩)
    (fun os started H enc _ => integerValid_lifted os started H enc)

end Go.Proofs.Ytipajnobkladeaa
