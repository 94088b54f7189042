/- A small program logic over the translated Go code, plain laws, and walks over the functions: several texts in one. No condition. -/
import Derived.Test.YtipajnobkladeaaK3
/- Plain laws that the statements about rings and orders of integers need. No program here. -/
set_option linter.unusedVariables false
set_option linter.unusedSimpArgs false
namespace Go.VL

theorem same_gg {ok ok' : Bool} {z z' : Int} (h : ok = true) (h' : ok' = true) (e : z = z') : sameB (gN ok z) (gL ok z) (gN ok' z') (gL ok' z') = true := by
  subst e; rw [h, h']; exact sameB_refl _ _
theorem gz {ok : Bool} {z : Int} (h : gE ok z = 0) : zOf (gN ok z) (gL ok z) = z := zOf_gg (gE_zero.1 h).1 (gE_zero.1 h).2
theorem go {ok : Bool} {z : Int} (h : gE ok z = 0) : ok = true := (gE_zero.1 h).1
theorem ring_add {o1 o2 o3 o4 : Bool} {a b c : Int} (e : gE o1 (a + b) = 0) (f : gE o2 (zOf (gN o1 (a + b)) (gL o1 (a + b)) + c) = 0) (g : gE o3 (b + c) = 0) (h : gE o4 (a + zOf (gN o3 (b + c)) (gL o3 (b + c))) = 0) :
    sameB (gN o2 (zOf (gN o1 (a + b)) (gL o1 (a + b)) + c)) (gL o2 (zOf (gN o1 (a + b)) (gL o1 (a + b)) + c)) (gN o4 (a + zOf (gN o3 (b + c)) (gL o3 (b + c)))) (gL o4 (a + zOf (gN o3 (b + c)) (gL o3 (b + c)))) = true :=
  same_gg (go f) (go h) (by rw [gz e, gz g]; omega)
theorem ring_mul {o1 o2 o3 o4 : Bool} {a b c : Int} (e : gE o1 (a * b) = 0) (f : gE o2 (zOf (gN o1 (a * b)) (gL o1 (a * b)) * c) = 0) (g : gE o3 (b * c) = 0) (h : gE o4 (a * zOf (gN o3 (b * c)) (gL o3 (b * c))) = 0) :
    sameB (gN o2 (zOf (gN o1 (a * b)) (gL o1 (a * b)) * c)) (gL o2 (zOf (gN o1 (a * b)) (gL o1 (a * b)) * c)) (gN o4 (a * zOf (gN o3 (b * c)) (gL o3 (b * c)))) (gL o4 (a * zOf (gN o3 (b * c)) (gL o3 (b * c)))) = true :=
  same_gg (go f) (go h) (by rw [gz e, gz g, Int.mul_assoc])
theorem ring_dist {o1 o2 o3 o4 o5 : Bool} {a b c : Int} (e : gE o1 (a * b) = 0) (f : gE o2 (a * c) = 0) (g : gE o3 (b + c) = 0) (h : gE o4 (a * zOf (gN o3 (b + c)) (gL o3 (b + c))) = 0)
    (i : gE o5 (zOf (gN o1 (a * b)) (gL o1 (a * b)) + zOf (gN o2 (a * c)) (gL o2 (a * c))) = 0) :
    sameB (gN o4 (a * zOf (gN o3 (b + c)) (gL o3 (b + c)))) (gL o4 (a * zOf (gN o3 (b + c)) (gL o3 (b + c)))) (gN o5 (zOf (gN o1 (a * b)) (gL o1 (a * b)) + zOf (gN o2 (a * c)) (gL o2 (a * c)))) (gL o5 (zOf (gN o1 (a * b)) (gL o1 (a * b)) + zOf (gN o2 (a * c)) (gL o2 (a * c)))) = true :=
  same_gg (go h) (go i) (by rw [gz e, gz f, gz g, Int.mul_add])
theorem ring_dist' {o1 o2 o3 o4 o5 : Bool} {a b c : Int} (e : gE o1 (a * b) = 0) (f : gE o2 (a * c) = 0) (g : gE o3 (b - c) = 0) (h : gE o4 (a * zOf (gN o3 (b - c)) (gL o3 (b - c))) = 0)
    (i : gE o5 (zOf (gN o1 (a * b)) (gL o1 (a * b)) - zOf (gN o2 (a * c)) (gL o2 (a * c))) = 0) :
    sameB (gN o4 (a * zOf (gN o3 (b - c)) (gL o3 (b - c)))) (gL o4 (a * zOf (gN o3 (b - c)) (gL o3 (b - c)))) (gN o5 (zOf (gN o1 (a * b)) (gL o1 (a * b)) - zOf (gN o2 (a * c)) (gL o2 (a * c)))) (gL o5 (zOf (gN o1 (a * b)) (gL o1 (a * b)) - zOf (gN o2 (a * c)) (gL o2 (a * c)))) = true :=
  same_gg (go h) (go i) (by rw [gz e, gz f, gz g, Int.mul_sub])
theorem comm_E {u v : Bool} {x y : Int} (h : x = y) : gE (u && v) x = gE (v && u) y := by rw [Bool.and_comm, h]
theorem comm_same {u v : Bool} {x y : Int} (h : x = y) : sameB (gN (u && v) x) (gL (u && v) x) (gN (v && u) y) (gL (v && u) y) = true := by rw [Bool.and_comm, h]; exact sameB_refl _ _
theorem cmp3_anti (a b : Int) : cmp3 a b = -cmp3 b a := by
  unfold cmp3
  rcases Int.lt_trichotomy a b with h | h | h
  · rw [if_pos h, if_neg (by omega), if_neg (by omega)]
  · subst h; simp
  · rw [if_neg (by omega), if_neg (by omega), if_pos h]; rfl
theorem cmp3_le {a b : Int} : cmp3 a b ≤ 0 ↔ a ≤ b := by unfold cmp3; split <;> (try split) <;> omega
theorem cmp3_gt {a b : Int} : cmp3 a b > 0 ↔ b < a := by unfold cmp3; split <;> (try split) <;> omega
theorem cmp3_le' {a b : Int} : cmp3 a b ≥ 0 ↔ b ≤ a := by unfold cmp3; split <;> (try split) <;> omega
theorem cmp_same {n m : Bool} {A B : List Int} (oA : ok32 A) (oB : ok32 B) (va : validB n A = true) (vb : validB m B = true) : (cmp3 (zOf n A) (zOf m B) == 0) = sameB n A m B := by
  rw [Bool.eq_iff_iff, beq_iff_eq, cmp3_zero, sameB_iff]
  refine ⟨fun h => ?_, fun h => by rw [h.1, h.2]⟩
  have e1 := z_of oA va
  have e2 := z_of oB vb
  rw [h] at e1
  exact ⟨e1.1.symm.trans e2.1, e1.2.symm.trans e2.2⟩
theorem cmp3_shift {a b : Int} (c : Int) : cmp3 (a + c) (b + c) = cmp3 a b := by
  unfold cmp3
  rcases Int.lt_trichotomy a b with h | h | h
  · rw [if_pos h, if_pos (by omega)]
  · subst h; simp
  · rw [if_neg (by omega), if_neg (by omega), if_neg (by omega), if_neg (by omega)]
theorem in_zero : inB 0 = true := small_in (by decide) (by decide)
theorem ord_diff {o : Bool} {a b : Int} (h : gE o (a - b) = 0) : cC (validB (gN o (a - b)) (gL o (a - b)) && validB (zN 0) (zL 0)) (zOf (gN o (a - b)) (gL o (a - b))) (zOf (zN 0) (zL 0)) = cmp3 a b := by
  rw [valid_gg, valid_zz, cC_true (ok := true && true) rfl, gz h, zOf_z in_zero]
  have := cmp3_shift (a := a - b) (b := 0) b
  rw [show a - b + b = a by omega, show 0 + b = b by omega] at this
  exact this.symm
theorem ord_add {o1 o2 : Bool} {a b c : Int} (h1 : gE o1 (a + c) = 0) (h2 : gE o2 (b + c) = 0) :
    cC (validB (gN o1 (a + c)) (gL o1 (a + c)) && validB (gN o2 (b + c)) (gL o2 (b + c))) (zOf (gN o1 (a + c)) (gL o1 (a + c))) (zOf (gN o2 (b + c)) (gL o2 (b + c))) = cmp3 a b := by
  rw [valid_gg, valid_gg, cC_true (ok := true && true) rfl, gz h1, gz h2]
  exact cmp3_shift c
theorem beq_bool {x y : Bool} (h : x = y) : (x == y) = true := by subst h; simp
theorem vv {u v : Bool} (h1 : u = true) (h2 : v = true) : (u && v) = true := by rw [h1, h2]; rfl
end Go.VL

/- Plain laws that the statements about squares and division of integers need. No program here. -/
set_option linter.unusedVariables false
set_option linter.unusedSimpArgs false
namespace Go.VL

theorem in_le {x y : Int} (h : inB y = true) (h0 : 0 ≤ x) (h1 : x ≤ y) : inB x = true := by
  unfold inB at *; rw [decide_eq_true_iff] at *; omega
theorem in_abs {x : Int} (h0 : 0 ≤ x) (h1 : x < limit) : inB x = true := by unfold inB; rw [decide_eq_true_iff]; omega
theorem in_lt {x : Int} (h : inB x = true) : x < limit := by unfold inB at h; rw [decide_eq_true_iff] at h; omega
theorem four_limit : 16 < limit := by
  unfold limit
  have h3 := pow_mono (show 1 ≤ 128 by omega)
  have h4 : (4294967296 : Int) ^ 1 = 4294967296 := rfl
  rw [h4] at h3; omega
section sq
variable {n : Bool} {A : List Int}
theorem sq_z (va : validB n A = true) (oA : ok32 A) (hn : n = false) : 0 ≤ zOf n A ∧ inB (zOf n A) = true ∧ sqOk (validB n A) (zOf n A) = true := by
  have h := val_nonneg oA
  have e : zOf n A = val A := by rw [hn]; rfl
  refine ⟨by omega, in_of_valid oA va, ?_⟩
  unfold sqOk; rw [va]; simp; omega
theorem sq_in {z : Int} (h0 : 0 ≤ z) (hz : inB z = true) : inB (isq z) = true ∧ inB (isq z * isq z) = true ∧ inB (isq z + 1) = true := by
  obtain ⟨s0, s1, s2⟩ := isq_spec h0
  have h1 := isq_le h0
  refine ⟨in_le hz s0 h1, in_le hz (Int.mul_nonneg s0 s0) s1, ?_⟩
  by_cases h : isq z ≤ 2
  · have := four_limit; exact in_abs (by omega) (by omega)
  · have h2 := Int.mul_le_mul_of_nonneg_left (show 2 ≤ isq z by omega) s0
    exact in_le hz (by omega) (by omega)
theorem sq_x (va : validB n A = true) (oA : ok32 A) (hn : n = false) : zOf (gN (sqOk (validB n A) (zOf n A)) (isq (zOf n A))) (gL (sqOk (validB n A) (zOf n A)) (isq (zOf n A))) = isq (zOf n A) := by
  obtain ⟨h1, h2, h3⟩ := sq_z va oA hn
  exact zOf_gg h3 (sq_in h1 h2).1
theorem sqE_zero (va : validB n A = true) (oA : ok32 A) (hn : n = false) : sqE (validB n A) (zOf n A) = 0 := by
  obtain ⟨h1, h2, h3⟩ := sq_z va oA hn
  unfold sqE; rw [if_pos va, if_neg (by omega)]
end sq
theorem gE_in {ok : Bool} {z : Int} (h : ok = true) (hz : inB z = true) : gE ok z = 0 := gE_zero.2 ⟨h, hz⟩
theorem in_one : inB 1 = true := small_in (by decide) (by decide)
theorem isq_sq {z : Int} (h : 0 ≤ z) : isq (z * z) = z := isq_uniq h (Int.le_refl _) (by rw [Int.add_mul, Int.mul_add]; omega)
theorem gE_two {ok : Bool} {z : Int} (h : ok = true) (h2 : gE ok z ≠ 2) : gE ok z = 0 := by
  unfold gE at *; rw [if_pos h] at *; unfold zE at *; split <;> simp_all
/-- The quotient of two integers in the range is in the range. -/
theorem fdiv_in {x y : Int} (hx : inB x = true) (hy : y ≠ 0) : inB (x.fdiv y) = true := by
  obtain ⟨n, a, ha, rfl⟩ : ∃ (n : Bool) (a : Int), 0 ≤ a ∧ x = sg n a := by
    by_cases h : x < 0
    · exact ⟨true, -x, by omega, by simp [sg]⟩
    · exact ⟨false, x, by omega, by simp [sg]⟩
  obtain ⟨m, b, hb, rfl⟩ : ∃ (m : Bool) (b : Int), 0 < b ∧ y = sg m b := by
    by_cases h : y < 0
    · exact ⟨true, -y, by omega, by simp [sg]⟩
    · exact ⟨false, y, by omega, by simp [sg]⟩
  rw [inB_sg ha, decide_eq_true_iff] at hx
  have q0 := Int.ediv_nonneg ha (Int.le_of_lt hb)
  have q1 := Int.ediv_le_self b ha
  by_cases h : n = m
  · subst h
    rw [(fdiv_same ha hb).1]; exact in_abs q0 (by omega)
  · by_cases hr : a % b = 0
    · rw [(fdiv_even h ha hb hr).1]
      unfold inB; rw [decide_eq_true_iff]; omega
    · rw [(fdiv_odd h ha hb hr).1]
      have hb1 : b ≠ 1 := fun e => hr (by rw [e]; exact Int.emod_one _)
      have h2 : a / b * 2 ≤ a := by
        have h3 := Int.mul_ediv_self_le (x := a) (k := b) (by omega)
        have h4 := Int.mul_le_mul_of_nonneg_right (show 2 ≤ b by omega) q0
        rw [Int.mul_comm (a / b) 2]; omega
      have h5 : a ≠ 0 := fun e => hr (by rw [e]; exact Int.zero_emod _)
      unfold inB; rw [decide_eq_true_iff]; omega
theorem fmod_in {x y : Int} (hy : y ≠ 0) (hyb : inB y = true) : inB (x.fmod y) = true ∧ ((x.fmod y).natAbs < y.natAbs) ∧ (x.fmod y = 0 ∨ (x.fmod y < 0 ↔ y < 0)) := by
  have h : (x.fmod y).natAbs < y.natAbs ∧ (x.fmod y = 0 ∨ (x.fmod y < 0 ↔ y < 0)) := by
    obtain ⟨n, a, ha, rfl⟩ : ∃ (n : Bool) (a : Int), 0 ≤ a ∧ x = sg n a := by
      by_cases h : x < 0
      · exact ⟨true, -x, by omega, by simp [sg]⟩
      · exact ⟨false, x, by omega, by simp [sg]⟩
    obtain ⟨m, b, hb, rfl⟩ : ∃ (m : Bool) (b : Int), 0 < b ∧ y = sg m b := by
      by_cases h : y < 0
      · exact ⟨true, -y, by omega, by simp [sg]⟩
      · exact ⟨false, y, by omega, by simp [sg]⟩
    have m0 := Int.emod_nonneg a (show b ≠ 0 by omega)
    have m1 := Int.emod_lt_of_pos a hb
    by_cases h : n = m
    · subst h
      rw [(fdiv_same ha hb).2]
      cases n <;> simp [sg] <;> omega
    · by_cases hr : a % b = 0
      · rw [(fdiv_even h ha hb hr).2, hr]
        cases m <;> simp [sg] <;> omega
      · rw [(fdiv_odd h ha hb hr).2]
        cases m <;> simp [sg] <;> omega
  refine ⟨?_, h⟩
  unfold inB at *; rw [decide_eq_true_iff] at *; omega
theorem sq_c {ok v : Bool} {x q w : Int} (hx : x = q) (ho : ok = true) (hq : inB (q * q) = true) (hv : v = true) : cC (validB (gN ok (x * x)) (gL ok (x * x)) && v) (zOf (gN ok (x * x)) (gL ok (x * x))) w = cmp3 (q * q) w := by
  subst hx; rw [valid_gg, hv, cC_true (ok := true && true) rfl, zOf_gg ho hq]
theorem sq_d {ok v : Bool} {x q w : Int} (hx : x = q) (ho : ok = true) (h2 : gE ok (x * x) ≠ 2) (hv : v = true) : cC (validB (gN ok (x * x)) (gL ok (x * x)) && v) (zOf (gN ok (x * x)) (gL ok (x * x))) w = cmp3 (q * q) w := by
  have h := gE_two ho h2
  subst hx; rw [valid_gg, hv, cC_true (ok := true && true) rfl, gz h]
theorem cmp3_one {a w : Int} (h : w < a) : cmp3 a w = 1 := by unfold cmp3; rw [if_neg (by omega), if_neg (by omega)]
theorem sq_is {v : Bool} {z : Int} (h : sqOk v z = true) : sqB v z = (cmp3 (isq z * isq z) z == 0) := by
  rw [sqB, h, Bool.true_and, Bool.eq_iff_iff, beq_iff_eq, cmp3_zero, decide_eq_true_iff]
theorem sqE_pos {v : Bool} {z : Int} (h : v = true) (hz : 0 ≤ z) : sqE v z = 0 := by unfold sqE; rw [if_pos h, if_neg (by omega)]
theorem sqB_sq {v : Bool} {z' z : Int} (h : v = true) (e : z' = z * z) (hz : 0 ≤ z) : sqB v z' = true := by
  subst e
  have h1 := Int.mul_nonneg hz hz
  unfold sqB sqOk
  rw [h, isq_sq hz]; simp; exact h1
theorem sq_back {v n : Bool} {z' : Int} {A : List Int} (h : v = true) (e : z' = zOf n A * zOf n A) (hz : 0 ≤ zOf n A) (oA : ok32 A) (va : validB n A = true) : sameB (gN (sqOk v z') (isq z')) (gL (sqOk v z') (isq z')) n A = true := by
  subst e
  have h1 := Int.mul_nonneg hz hz
  have h2 : sqOk v (zOf n A * zOf n A) = true := by unfold sqOk; rw [h]; simp; exact h1
  rw [h2, isq_sq hz, (gg_yes rfl).1, (gg_yes rfl).2, (z_of oA va).1, (z_of oA va).2]
  exact sameB_refl _ _
/-- Division. -/
theorem dmE_bad {ok : Bool} {x y : Int} (h : ok = false) : dmE ok x y = 1 := by unfold dmE; rw [h]; rfl
theorem dmE_nil {ok : Bool} {x y : Int} (h : ok = true) (hy : y = 0) : dmE ok x y = 4 := by unfold dmE; rw [if_pos h, if_pos hy]
theorem dmE_yes {ok : Bool} {x y : Int} (h : ok = true) (hx : inB x = true) (hy : y ≠ 0) : dmE ok x y = 0 := by unfold dmE; rw [if_pos h, if_neg hy]; exact zE_in.2 (fdiv_in hx hy)
theorem okQ_yes {ok : Bool} {x y : Int} (h : ok = true) (hx : inB x = true) (hy : y ≠ 0) : okQ ok x y = true := by unfold okQ; rw [h, fdiv_in hx hy]; simp [hy]
theorem zOf_len {n : Bool} {A : List Int} (h : (A.length : Int) = 0) : zOf n A = 0 := by
  have : A = [] := List.length_eq_zero_iff.1 (by omega)
  subst this; cases n <;> rfl
theorem zOf_ne {n : Bool} {A : List Int} (oA : ok32 A) (v : validB n A = true) (h : (A.length : Int) ≠ 0) : zOf n A ≠ 0 := by
  obtain ⟨nA, lA, sA⟩ := valid_norm oA v
  have := norm_pos nA (fun e => h (by rw [e]; rfl))
  intro hc
  have := sg_zero.1 hc
  omega
theorem zOf_mag {n : Bool} {A : List Int} : zOf false A = val A := rfl
theorem val_abs {n : Bool} {A : List Int} (oA : ok32 A) : val A = ((zOf n A).natAbs : Int) := (sg_abs (val_nonneg oA)).symm
/-- A magnitude is a valid integer. -/
theorem valid_mag {n : Bool} {A : List Int} (v : validB n A = true) : validB false A = true := by
  by_cases h : A.length = 0
  · rw [validB_nil h]; rfl
  · unfold validB at *; rw [if_neg h] at *; exact v
theorem cE_yes {ok : Bool} (h : ok = true) : cE ok = 0 := cE_true h
theorem div_less {okr m : Bool} {r y : Int} {B : List Int} (oB : ok32 B) (vB' : validB m B = true) (ho : okr = true) (hr : inB r = true) (hy : y = zOf m B) (h : r.natAbs < y.natAbs) : cC (validB false (gL okr r) && validB false B) (zOf false (gL okr r)) (zOf false B) = -1 := by
  rw [valid_mag (n := gN okr r) (valid_gg okr r), valid_mag vB', cC_true (ok := true && true) rfl, zOf_mag (n := false), zOf_mag (n := false), val_abs (n := gN okr r) (ok32_gL _ _), val_abs (n := m) oB, zOf_gg ho hr]
  subst hy
  unfold cmp3; rw [if_pos (by omega)]
theorem div_sign {okr m : Bool} {r : Int} {B : List Int} (vB' : validB m B = true) (ho : okr = true) (hr : inB r = true) (h : r = 0 ∨ (r < 0 ↔ zOf m B < 0)) (hy : zOf m B ≠ 0)
    (hc : cC (validB (gN okr r) (gL okr r) && validB (zN 0) (zL 0)) (zOf (gN okr r) (gL okr r)) (zOf (zN 0) (zL 0)) ≠ 0) :
    cC (validB (gN okr r) (gL okr r) && validB (zN 0) (zL 0)) (zOf (gN okr r) (gL okr r)) (zOf (zN 0) (zL 0)) = cC (validB m B && validB (zN 0) (zL 0)) (zOf m B) (zOf (zN 0) (zL 0)) := by
  rw [valid_gg, valid_zz, cC_true (ok := true && true) rfl, zOf_gg ho hr, zOf_z in_zero] at *
  rw [vB', cC_true (ok := true && true) rfl]
  rw [Ne, cmp3_zero] at hc
  have h' := h.resolve_left hc
  unfold cmp3
  by_cases h0 : r < 0
  · rw [if_pos h0, if_pos (h'.1 h0)]
  · rw [if_neg h0, if_neg hc, if_neg (fun hh => h0 (h'.2 hh)), if_neg hy]
theorem div_back {g n o1 o2 : Bool} {x y : Int} {A : List Int} (oA : ok32 A) (va : validB n A = true) (hx : x = zOf n A) (hg : g = true) (hq : inB (x.fdiv y) = true) (hr : inB (x.fmod y) = true)
    (h1 : gE o1 (zOf (gN g (x.fdiv y)) (gL g (x.fdiv y)) * y) = 0)
    (h2 : gE o2 (zOf (gN o1 (zOf (gN g (x.fdiv y)) (gL g (x.fdiv y)) * y)) (gL o1 (zOf (gN g (x.fdiv y)) (gL g (x.fdiv y)) * y)) + zOf (gN g (x.fmod y)) (gL g (x.fmod y))) = 0) :
    sameB (gN o2 (zOf (gN o1 (zOf (gN g (x.fdiv y)) (gL g (x.fdiv y)) * y)) (gL o1 (zOf (gN g (x.fdiv y)) (gL g (x.fdiv y)) * y)) + zOf (gN g (x.fmod y)) (gL g (x.fmod y))))
      (gL o2 (zOf (gN o1 (zOf (gN g (x.fdiv y)) (gL g (x.fdiv y)) * y)) (gL o1 (zOf (gN g (x.fdiv y)) (gL g (x.fdiv y)) * y)) + zOf (gN g (x.fmod y)) (gL g (x.fmod y)))) n A = true := by
  have e : zOf (gN o1 (zOf (gN g (x.fdiv y)) (gL g (x.fdiv y)) * y)) (gL o1 (zOf (gN g (x.fdiv y)) (gL g (x.fdiv y)) * y)) + zOf (gN g (x.fmod y)) (gL g (x.fmod y)) = zOf n A := by
    rw [gz h1, zOf_gg hg hq, zOf_gg hg hr, ← hx]
    rw [Int.fmod_def x y, Int.mul_comm y]; omega
  rw [e, go h2, (gg_yes rfl).1, (gg_yes rfl).2, (z_of oA va).1, (z_of oA va).2]
  exact sameB_refl _ _
end Go.VL

/- Plain laws that the statements about divisors and shifts of integers need. No program here. -/
set_option linter.unusedVariables false
set_option linter.unusedSimpArgs false
namespace Go.VL

theorem gcd_in {x y : Int} (hx : inB x = true) (hy : inB y = true) : inB ((Int.gcd x y : Nat) : Int) = true := by
  unfold inB at *
  rw [decide_eq_true_iff] at *
  by_cases h : y = 0
  · subst h; rw [Int.gcd_zero_right]; omega
  · have h1 : Int.gcd x y ≤ y.natAbs := Nat.le_of_dvd (by omega) (Nat.gcd_dvd_right _ _)
    omega
theorem gcd_pos {x y : Int} (h : y ≠ 0) : ((Int.gcd x y : Nat) : Int) ≠ 0 := by
  have : 0 < Int.gcd x y := Nat.gcd_pos_of_pos_right _ (by omega)
  omega
theorem fmod_split (x y : Int) : x = x.fmod y + y * x.fdiv y := by rw [Int.fmod_def]; omega
theorem gcd_fmod (x y : Int) : Int.gcd y (x.fmod y) = Int.gcd x y := by
  have a1 := Int.gcd_dvd_left y (x.fmod y)
  have a2 := Int.gcd_dvd_right y (x.fmod y)
  have b1 := Int.gcd_dvd_left x y
  have b2 := Int.gcd_dvd_right x y
  have h1 : ((Int.gcd y (x.fmod y) : Nat) : Int) ∣ x := by
    have h : ((Int.gcd y (x.fmod y) : Nat) : Int) ∣ x.fmod y + y * x.fdiv y := Int.dvd_add a2 (Int.dvd_mul_of_dvd_left a1)
    rwa [← fmod_split] at h
  have h2 : ((Int.gcd x y : Nat) : Int) ∣ x.fmod y := by
    rw [Int.fmod_def]; exact Int.dvd_sub b1 (Int.dvd_mul_of_dvd_left b2)
  have k1 := Int.dvd_coe_gcd h1 a1
  have k2 := Int.dvd_coe_gcd b2 h2
  exact Nat.dvd_antisymm (Int.natCast_dvd_natCast.1 k1) (Int.natCast_dvd_natCast.1 k2)
theorem fmod_dvd {x g : Int} (h : g ∣ x) (hg : 0 ≤ g) : x.fmod g = 0 := by
  rw [Int.fmod_eq_emod_of_nonneg x hg]; exact Int.emod_eq_zero_of_dvd h
theorem gL_zero (ok : Bool) : gL ok 0 = [] := by
  cases ok <;> simp [gL, zL, in_zero, dg_zero]
theorem gcd_abs (x y z : Int) : ((Int.gcd (x * z) (y * z) : Nat) : Int) = ((Int.gcd x y : Nat) : Int) * (z.natAbs : Int) := by
  rw [Int.gcd_mul_right, Int.natCast_mul]
section eu
variable {n m k : Bool} {A B C : List Int} {x y : Int}
theorem eu_x {o : Bool} {w G : Int} (hG : G = ((Int.gcd x y : Nat) : Int)) (h : w = x ∨ w = y) : ((gL o (w.fmod G)).length : Int) = 0 := by
  have hd : G ∣ w := by
    subst hG
    rcases h with h | h
    · rw [h]; exact Int.gcd_dvd_left x y
    · rw [h]; exact Int.gcd_dvd_right x y
  rw [fmod_dvd hd (by omega), gL_zero]; rfl
theorem eu_mul {o1 o2 o3 o4 : Bool} {z g c : Int} (h1 : o1 = true) (h2 : o2 = true) (hp : gE o3 (x * z) = 0) (hq : gE o4 (y * z) = 0) (hg : g = ((Int.gcd x y : Nat) : Int)) (hc : c = (z.natAbs : Int)) :
    gE o1 ((Int.gcd (zOf (gN o3 (x * z)) (gL o3 (x * z))) (zOf (gN o4 (y * z)) (gL o4 (y * z))) : Nat) : Int) = 0 ∧ gE o2 (g * c) = 0 ∧
      sameB (gN o1 ((Int.gcd (zOf (gN o3 (x * z)) (gL o3 (x * z))) (zOf (gN o4 (y * z)) (gL o4 (y * z))) : Nat) : Int)) (gL o1 ((Int.gcd (zOf (gN o3 (x * z)) (gL o3 (x * z))) (zOf (gN o4 (y * z)) (gL o4 (y * z))) : Nat) : Int)) (gN o2 (g * c)) (gL o2 (g * c)) = true := by
  subst hg; subst hc
  rw [gz hp, gz hq]
  have hi := gcd_in (gE_zero.1 hp).2 (gE_zero.1 hq).2
  refine ⟨gE_in h1 hi, ?_, same_gg h1 h2 (gcd_abs x y z)⟩
  rw [← gcd_abs]; exact gE_in h2 hi
end eu
/-- Shifts. -/
theorem shZ_up {z k : Int} (h : 0 ≤ k) : shZ z k = z * 2 ^ k.toNat := by unfold shZ; rw [if_pos h]
theorem shZ_down {z k : Int} (h : 0 ≤ k) : shZ z (-k) = z.fdiv (2 ^ k.toNat) := by
  unfold shZ
  by_cases h0 : k = 0
  · subst h0; rw [if_pos (by omega)]; simp
  · rw [if_neg (by omega), Int.neg_neg]
theorem shZ_back {z k : Int} (h : 0 ≤ k) : shZ (shZ z k) (-k) = z := by
  rw [shZ_up h, shZ_down h]
  have hp := two_pow_pos k.toNat
  exact Int.mul_fdiv_cancel z (by omega)
theorem two_in {k : Int} (h0 : 0 ≤ k) (h : k ≤ 4095) : inB (2 ^ k.toNat) = true := by
  have h1 := two_mono (show k.toNat + 1 ≤ 4096 by omega)
  rw [← limit_two, Int.pow_succ] at h1
  have h2 := two_pow_pos k.toNat
  exact in_abs (by omega) (by omega)
theorem one_shZ {k : Int} (h0 : 0 ≤ k) : shZ (zOf (zN 1) (zL 1)) k = 2 ^ k.toNat := by
  rw [zOf_z in_one, shZ_up h0, Int.one_mul]
section ha
variable {n : Bool} {A : List Int} {k : Int}
theorem ha_back {o1 o2 : Bool} (h0 : 0 ≤ k) (oA : ok32 A) (va : validB n A = true) (he : gE o1 (shZ (zOf n A) k) = 0) (ho : o2 = true) :
    gE o2 (shZ (zOf (gN o1 (shZ (zOf n A) k)) (gL o1 (shZ (zOf n A) k))) (-k)) = 0 ∧
      sameB (gN o2 (shZ (zOf (gN o1 (shZ (zOf n A) k)) (gL o1 (shZ (zOf n A) k))) (-k))) (gL o2 (shZ (zOf (gN o1 (shZ (zOf n A) k)) (gL o1 (shZ (zOf n A) k))) (-k))) n A = true := by
  rw [gz he, shZ_back h0]
  refine ⟨gE_in ho (in_of_valid oA va), ?_⟩
  rw [ho, (gg_yes rfl).1, (gg_yes rfl).2, (z_of oA va).1, (z_of oA va).2]
  exact sameB_refl _ _
theorem ha_p {o : Bool} (h0 : 0 ≤ k) (h1 : k ≤ 4095) (ho : o = true) : gE o (shZ (zOf (zN 1) (zL 1)) k) = 0 ∧ zOf (gN o (shZ (zOf (zN 1) (zL 1)) k)) (gL o (shZ (zOf (zN 1) (zL 1)) k)) = 2 ^ k.toNat := by
  rw [one_shZ h0]
  exact ⟨gE_in ho (two_in h0 h1), zOf_gg ho (two_in h0 h1)⟩
end ha
theorem ha_q {z p k : Int} {o v : Bool} (h0 : 0 ≤ k) (hz : inB z = true) (hp : p = 2 ^ k.toNat) (ho : o = true) (hv : v = true) :
    dmE o z p = 0 ∧ gE v (shZ z (-k)) = 0 ∧ sameB (gN (okQ o z p) (z.fdiv p)) (gL (okQ o z p) (z.fdiv p)) (gN v (shZ z (-k))) (gL v (shZ z (-k))) = true := by
  subst hp
  have h2 := two_pow_pos k.toNat
  rw [shZ_down h0]
  exact ⟨dmE_yes ho hz (by omega), gE_in hv (fdiv_in hz (by omega)), same_gg (okQ_yes ho hz (by omega)) hv rfl⟩
theorem bop_and_4095 {x : Int} (h0 : -9223372036854775808 ≤ x) (h1 : x ≤ 9223372036854775807) : bop .and (.int .i64 x) (.int .i64 4095) = some (.int .i64 (x % 4096)) := by
  have hb : ((BitVec.ofInt 64 x &&& BitVec.ofInt 64 4095).toNat : Int) = x % 4096 := by
    rw [BitVec.toNat_and]
    have e : (BitVec.ofInt 64 4095).toNat = 2 ^ 12 - 1 := by decide
    rw [e, Nat.and_two_pow_sub_one_eq_mod]
    have e2 : ((BitVec.ofInt 64 x).toNat : Int) = x % 18446744073709551616 := by
      rw [BitVec.toNat_ofInt]; omega
    omega
  have hw : IntKind.i64.wrap (x % 4096) = x % 4096 := wrap_i64 (by omega)
  simp only [bop]
  show some (Value.int .i64 (IntKind.i64.wrap ((BitVec.ofInt 64 x &&& BitVec.ofInt 64 4095).toNat : Int))) = _
  rw [hb, hw]
end Go.VL

/- Plain laws for the document's own functions: trimming, sum. No program here. -/
set_option linter.unusedVariables false
set_option linter.unusedSimpArgs false
namespace Go.VL

theorem val_trim {X : List Int} {q : Nat} (hq : q + 1 = X.length) (hz : X.getD q 0 = 0) : val (X.take q) = val X := by
  have h := val_take_step X q
  rw [hz, List.take_of_length_le (show X.length ≤ q + 1 by omega)] at h
  omega
theorem trim_done {L X : List Int} {q : Nat} (oX : ok32 X) (hv : val X = val L) (h : X.length = 0 ∨ (q + 1 = X.length ∧ X.getD q 0 ≠ 0)) : dg (val L) = X := by
  rw [← hv]
  refine dg_val ⟨oX, ?_⟩
  rcases h with h | ⟨h1, h2⟩
  · exact .inl h
  · refine .inr ?_
    rw [show X.length - 1 = q by omega]; exact h2
structure PlusInv (X Y O : List Int) (n : Nat) (c : Int) : Prop where
  le : n ≤ O.length
  lx : X.length < O.length
  ly : Y.length < O.length
  ok : ok32 (O.take n)
  c0 : 0 ≤ c
  c1 : c ≤ 1
  eq : val (O.take n) + 4294967296 ^ n * c = val (X.take n) + val (Y.take n)
theorem PlusInv.start {X Y O : List Int} (h1 : X.length < O.length) (h2 : Y.length < O.length) : PlusInv X Y O 0 0 := ⟨Nat.zero_le _, h1, h2, by simpa using ok32_nil, by omega, by omega, by simp [val]⟩
theorem PlusInv.step {X Y O : List Int} {n : Nat} {c t : Int} (hX : ok32 X) (hY : ok32 Y) (h : PlusInv X Y O n c) (hn : n < O.length) (ht : t = c + X.getD n 0 + Y.getD n 0) : PlusInv X Y (O.set n (t % 4294967296)) (n + 1) (t / 4294967296) := by
  have hx := ok32_getD hX n
  have hy := ok32_getD hY n
  have h0 := h.c0
  have h1 := h.c1
  refine ⟨by rw [List.length_set]; exact hn, by simpa using h.lx, by simpa using h.ly, ok32_take_set hn h.ok (by omega), by omega, by omega, ?_⟩
  rw [val_take_set _ _ _ hn, val_take_step X n, val_take_step Y n, Int.pow_succ]
  have e := h.eq
  generalize (4294967296 : Int) ^ n = p at e ⊢
  have e1 : p * t = p * (t % 4294967296) + p * 4294967296 * (t / 4294967296) := by
    rw [Int.mul_assoc, ← Int.mul_add]; congr 1; omega
  have e2 : p * t = p * c + p * X.getD n 0 + p * Y.getD n 0 := by rw [ht, Int.mul_add, Int.mul_add]
  omega
theorem PlusInv.fin {X Y O : List Int} {n : Nat} {c : Int} (hX : ok32 X) (hY : ok32 Y) (h : PlusInv X Y O n c) (hn : O.length ≤ n) : val O = val X + val Y ∧ ok32 O := by
  have h0 := h.c0
  have h1 := h.c1
  have e := h.eq
  have ok := h.ok
  have lx := h.lx
  have ly := h.ly
  have hn' : n = O.length := Nat.le_antisymm h.le hn
  subst hn'
  rw [List.take_of_length_le (Nat.le_refl _), List.take_of_length_le (by omega), List.take_of_length_le (by omega)] at e
  rw [List.take_of_length_le (Nat.le_refl _)] at ok
  have hv := val_nonneg ok
  have hx := val_lt hX
  have hy := val_lt hY
  obtain ⟨m, hm⟩ : ∃ m, O.length = m + 1 := ⟨O.length - 1, by omega⟩
  have hx2 := pow_mono (show X.length ≤ m by omega)
  have hy2 := pow_mono (show Y.length ≤ m by omega)
  rw [hm, Int.pow_succ] at e
  have hp := pow_pos m
  generalize (4294967296 : Int) ^ m = p at *
  have hc : c = 0 := by
    apply Classical.byContradiction
    intro hc
    have : c = 1 := by omega
    subst this
    omega
  subst hc
  exact ⟨by omega, ok⟩
theorem DiffInv.step2 {X Y O : List Int} {n : Nat} {w s x : Int} {b : Int} (hX : ok32 X) (hY : ok32 Y) (h : DiffInv X Y O n w) (hn : n < X.length) (hs : s = w + Y.getD n 0) (hx : X.getD n 0 < s ∧ x = (X.getD n 0 + 4294967296 - s) % 4294967296 ∧ b = 1 ∨ ¬ X.getD n 0 < s ∧ x = (X.getD n 0 - s) % 4294967296 ∧ b = 0) :
    DiffInv X Y (O.set n x) (n + 1) b := by
  have hx1 := ok32_getD hX n
  have hy := ok32_getD hY n
  have h0 := h.c0
  have h1 := h.c1
  have k := h.step hX hY hn (t := (X.getD n 0 - w - Y.getD n 0) % 18446744073709551616) rfl
  have e1 : (X.getD n 0 - w - Y.getD n 0) % 18446744073709551616 % 4294967296 = x := by rcases hx with ⟨a, e, _⟩ | ⟨a, e, _⟩ <;> omega
  have e2 : (X.getD n 0 - w - Y.getD n 0) % 18446744073709551616 / 9223372036854775808 = b := by rcases hx with ⟨a, _, e⟩ | ⟨a, _, e⟩ <;> omega
  rw [e1, e2] at k
  exact k
end Go.VL

/- Plain laws for the document's own functions: negation. No program here. -/
set_option linter.unusedVariables false
set_option linter.unusedSimpArgs false
namespace Go.VL

def ngB (m : Bool) (B : List Int) : Bool := !m && decide ((B.length : Int) > 0)
theorem ng_valid {m : Bool} {B : List Int} (v : validB m B = true) : validB (ngB m B) B = true := by
  by_cases h : B.length = 0
  · rw [validB_nil h]; unfold ngB; simp [h]
  · unfold validB at *; rw [if_neg h] at *; exact v
theorem ng_z {m : Bool} {B : List Int} (oB : ok32 B) (v : validB m B = true) : zOf (ngB m B) B = -zOf m B := by
  by_cases h : B.length = 0
  · rw [zOf_len (by omega), zOf_len (by omega)]; rfl
  · unfold ngB; rw [decide_eq_true (by omega), Bool.and_true]
    cases m <;> simp [sg]
theorem ng_sub {n m : Bool} {A B : List Int} (oB : ok32 B) (vb : validB m B = true) : gR (validB n A && validB (ngB m B) B) (zOf n A + zOf (ngB m B) B) = gR (validB n A && validB m B) (zOf n A - zOf m B) := by
  rw [ng_valid vb, ng_z oB vb, vb, ← Int.sub_eq_add_neg]
theorem len_w {x y : Int} (hx : 0 ≤ x ∧ x < 4294967296) (hy : 0 ≤ y ∧ y < 4294967296) : 0 + (dg (val [x, y])).length ≤ 1000000000000 := by
  have h := word_lt (ok32_two hx hy) (by simp)
  have h2 := (len_dg h.1 2).2 (by have e : (4294967296 : Int) ^ 2 = 18446744073709551616 := rfl
                                  omega)
  omega
theorem sm_of {j : Int} (h0 : -9223372036854775808 ≤ j) (h1 : j ≤ 9223372036854775807) : smB (zN j) (zL j) = true := by
  refine sm_val (valid_zz j) ?_
  rw [zOf_z (small_in h0 h1), eq_comm, decide_eq_true_iff]
  exact ⟨h0, h1⟩
theorem sm_back {j : Int} (h0 : -9223372036854775808 ≤ j) (h1 : j ≤ 9223372036854775807) : smI (zN j) (zL j) = j := by rw [sm_ok (sm_of h0 h1), zOf_z (small_in h0 h1)]
end Go.VL

/- Plain laws for the document's own functions: binary digits, doubling. No program here. -/
set_option linter.unusedVariables false
set_option linter.unusedSimpArgs false
namespace Go.VL

theorem bit_out {L : List Int} {i : Nat} (h : ok32 L) (hi : 32 * L.length ≤ i) : val L / 2 ^ i % 2 = 0 := by
  have h1 := val_lt h
  rw [← pow_two_words] at h1
  have h2 := two_mono hi
  rw [Int.ediv_eq_zero_of_lt (val_nonneg h) (by omega)]; rfl
theorem bit_in {L : List Int} {q r m : Nat} (h : ok32 L) (hr : r < 32) (hq : q < L.length) (hm : m = 32 * q + r) : val L / 2 ^ m % 2 = L.getD q 0 / 2 ^ r % 2 := by
  subst hm
  rw [words_two, ← Int.ediv_ediv_of_nonneg (Int.le_of_lt (pow_pos q)), (val_div_words h (Nat.le_of_lt hq)).1, val_drop_step L q hq]
  have hp := two_pow_pos r
  have e : (4294967296 : Int) = 2 * 2 ^ (31 - r) * 2 ^ r := by
    have h1 := pow_split hr
    have h2 : (2 : Int) ^ (32 - r) = 2 * 2 ^ (31 - r) := by rw [show 32 - r = (31 - r) + 1 by omega, Int.pow_succ, Int.mul_comm]
    rw [← h2]; exact h1
  have e2 : 4294967296 * val (L.drop (q + 1)) = 2 * (2 ^ (31 - r) * val (L.drop (q + 1))) * 2 ^ r := by
    rw [e]
    simp only [Int.mul_assoc, Int.mul_left_comm, Int.mul_comm]
  rw [e2, Int.add_mul_ediv_right _ _ (by omega)]
  omega
structure DblInv (L O : List Int) (b : Int) (n : Nat) (w : Int) : Prop where
  le : n ≤ L.length
  len : O.length = L.length + 1
  ok : ok32 (O.take n)
  w0 : 0 ≤ w
  w1 : w ≤ 1
  eq : val (O.take n) + 4294967296 ^ n * w = 2 * val (L.take n) + b
theorem DblInv.start {L O : List Int} {b : Int} (h : O.length = L.length + 1) (h0 : 0 ≤ b) (h1 : b ≤ 1) : DblInv L O b 0 b := ⟨Nat.zero_le _, h, by simpa using ok32_nil, h0, h1, by simp [val]⟩
theorem DblInv.step {L O : List Int} {b w : Int} {n : Nat} (hL : ok32 L) (h : DblInv L O b n w) (hn : n < L.length) : DblInv L (O.set n ((L.getD n 0 * 2) % 4294967296 + w)) b (n + 1) (L.getD n 0 / 2147483648) := by
  have hx := ok32_getD hL n
  have h0 := h.w0
  have h1 := h.w1
  refine ⟨hn, by simpa using h.len, ok32_take_set (by rw [h.len]; omega) h.ok (by omega), by omega, by omega, ?_⟩
  rw [val_take_set _ _ _ (by rw [h.len]; omega), val_take_step L n, Int.pow_succ]
  have e := h.eq
  generalize (4294967296 : Int) ^ n = p at e ⊢
  have e0 : (L.getD n 0 * 2) % 4294967296 + w + 4294967296 * (L.getD n 0 / 2147483648) = 2 * L.getD n 0 + w := by omega
  have e1 : p * ((L.getD n 0 * 2) % 4294967296 + w) + p * 4294967296 * (L.getD n 0 / 2147483648) = 2 * (p * L.getD n 0) + p * w := by
    rw [Int.mul_assoc, ← Int.mul_add, e0, Int.mul_add, Int.mul_left_comm]
  omega
theorem DblInv.fin {L O : List Int} {b w : Int} {n : Nat} (h : DblInv L O b n w) (hn : n = L.length) : val (O.set L.length w) = 2 * val L + b ∧ ok32 (O.set L.length w) := by
  subst hn
  have e := h.eq
  rw [List.take_of_length_le (Nat.le_refl L.length)] at e
  have hw : (O.set L.length w).take (L.length + 1) = O.set L.length w := List.take_of_length_le (by simp [h.len])
  have a := val_take_set O L.length w (by rw [h.len]; omega)
  have b := ok32_take_set (x := w) (by rw [h.len]; omega) h.ok (by have := h.w0; have := h.w1; omega)
  rw [hw] at a b
  exact ⟨by rw [a, e], b⟩
theorem drop_word {L : List Int} {q : Nat} (h : q < L.length) : val (L.drop (q + 1)) * 4294967296 + L.getD q 0 = val (L.drop q) := by rw [val_drop_step L q h]; omega
theorem drop_small {L : List Int} {q : Nat} (o : ok32 L) (h : L.length ≤ q + 2) : 0 ≤ val (L.drop (q + 1)) ∧ val (L.drop (q + 1)) < 4294967296 := by
  have o2 := ok32_drop o (q + 1)
  have h1 := val_lt o2
  have h2 := pow_mono (show (L.drop (q + 1)).length ≤ 1 by simp; omega)
  have e : (4294967296 : Int) ^ 1 = 4294967296 := rfl
  rw [e] at h2
  exact ⟨val_nonneg o2, by omega⟩
theorem sg_t {n : Bool} {A : List Int} (h : n = true) : zOf n A = -val A := by subst h; rfl
theorem sg_f {n : Bool} {A : List Int} (h : n = false) : zOf n A = val A := by subst h; rfl
theorem smB_of {n b : Bool} {A : List Int} {z : Int} (v : validB n A = true) (e : zOf n A = z) (hb : b = decide (-9223372036854775808 ≤ z ∧ z ≤ 9223372036854775807)) : smB n A = b := sm_val v (by rw [e]; exact hb)
end Go.VL

/- Plain laws for the document's own functions: shifting right. No program here. -/
set_option linter.unusedVariables false
set_option linter.unusedSimpArgs false
namespace Go.VL

theorem lost_yes {L : List Int} {k : Nat} (h : ok32 L) (hb : true = decide (val (L.take k) ≠ 0)) : true = decide (val (L.take (k + 1)) ≠ 0) := by
  rw [eq_comm, decide_eq_true_iff] at *
  rw [val_take_step]
  have h1 := val_nonneg (ok32_take h k)
  have h2 := Int.mul_nonneg (Int.le_of_lt (pow_pos k)) (ok32_getD h k).1
  omega
theorem lost_no {L : List Int} {k : Nat} (h : ok32 L) (hb : false = decide (val (L.take k) ≠ 0)) : (L.getD k 0 != 0) = decide (val (L.take (k + 1)) ≠ 0) := by
  rw [eq_comm, decide_eq_false_iff_not] at hb
  have h0 : val (L.take k) = 0 := Classical.byContradiction hb
  rw [val_take_step, h0, Bool.eq_iff_iff, bne_iff_ne, decide_eq_true_iff, Int.zero_add]
  have hp := pow_pos k
  constructor
  · intro hx hc
    rcases Int.mul_eq_zero.1 hc with h1 | h1 <;> omega
  · intro hx hc
    exact hx (by rw [hc, Int.mul_zero])
theorem lost_end {L : List Int} {q r m : Nat} (h : ok32 L) (hr : r < 32) (hm : m = 32 * q + r) (hq : q < L.length) : (val L % 2 ^ m ≠ 0) ↔ (val (L.take q) ≠ 0 ∨ L.getD q 0 % 2 ^ r ≠ 0) := by
  rw [right_lost h hr hm hq]
  have hn := dg_nil (val_nonneg (ok32_take h q))
  constructor
  · rintro (h1 | h1)
    · exact .inl (fun hc => by rw [hc] at hn; have := hn.2 rfl; rw [hc] at h1; omega)
    · exact .inr h1
  · rintro (h1 | h1)
    · exact .inl (by have := mt hn.1 h1; omega)
    · exact .inr h1
theorem lost_a {L : List Int} {q r m : Nat} (h : ok32 L) (hr : r < 32) (hm : m = 32 * q + r) (hq : q < L.length) (hb : true = decide (val (L.take q) ≠ 0)) : decide (val L % 2 ^ m ≠ 0) = true := by
  rw [eq_comm, decide_eq_true_iff] at hb
  rw [decide_eq_true_iff, lost_end h hr hm hq]; exact .inl hb
theorem lost_b {L : List Int} {q r m : Nat} (h : ok32 L) (hr : r < 32) (hm : m = 32 * q + r) (hq : q < L.length) (hb : false = decide (val (L.take q) ≠ 0)) : decide (val L % 2 ^ m ≠ 0) = (L.getD q 0 % 2 ^ r != 0) := by
  rw [eq_comm, decide_eq_false_iff_not] at hb
  rw [Bool.eq_iff_iff, decide_eq_true_iff, lost_end h hr hm hq, bne_iff_ne]
  exact ⟨fun h => h.resolve_left hb, fun h => .inr h⟩
end Go.VL

/- Plain laws for the document's own functions: division, digit by digit. No program here. -/
set_option linter.unusedVariables false
set_option linter.unusedSimpArgs false
namespace Go.VL

structure LongInv (a b : Int) (O R : List Int) (p : Nat) : Prop where
  nR : norm R
  eR : val R = a / 2 ^ p % b
  oO : ok32 O
  eO : val O = 2 ^ p * (a / 2 ^ p / b)
theorem LongInv.start {a b : Int} {O : List Int} {p : Nat} (ha : 0 ≤ a) (hp : a < 2 ^ p) (hO : ∃ n, O = List.replicate n 0) : LongInv a b O [] p := by
  obtain ⟨n, rfl⟩ := hO
  have h : a / 2 ^ p = 0 := Int.ediv_eq_zero_of_lt ha hp
  refine ⟨⟨ok32_nil, .inl rfl⟩, ?_, ok32_replicate n, ?_⟩
  · rw [h]; simp [val]
  · rw [h, val_replicate]; simp
theorem half (a : Int) (p : Nat) : a / 2 ^ p = 2 * (a / 2 ^ (p + 1)) + a / 2 ^ p % 2 := by
  have : a / 2 ^ (p + 1) = a / 2 ^ p / 2 := by rw [Int.pow_succ, Int.ediv_ediv_of_nonneg (Int.le_of_lt (two_pow_pos p))]
  rw [this]; omega
theorem long_step {a b : Int} {p : Nat} (hb : 0 < b) {t R' : Int} (ht : t = a / 2 ^ p % 2) (hR : R' = 2 * (a / 2 ^ (p + 1) % b) + t) :
    (b ≤ R' → a / 2 ^ p / b = 2 * (a / 2 ^ (p + 1) / b) + 1 ∧ a / 2 ^ p % b = R' - b) ∧ (R' < b → a / 2 ^ p / b = 2 * (a / 2 ^ (p + 1) / b) ∧ a / 2 ^ p % b = R') := by
  have h := half a p
  rw [← ht] at h
  have e := Int.mul_ediv_add_emod (a / 2 ^ (p + 1)) b
  have r0 := Int.emod_nonneg (a / 2 ^ (p + 1)) (show b ≠ 0 by omega)
  have r1 := Int.emod_lt_of_pos (a / 2 ^ (p + 1)) hb
  have t0 : 0 ≤ t ∧ t ≤ 1 := by omega
  generalize a / 2 ^ (p + 1) = H at *
  generalize a / 2 ^ p = X at *
  generalize H / b = q at *
  generalize H % b = r at *
  have e2 : b * (2 * q) = 2 * (b * q) := by rw [Int.mul_left_comm]
  constructor
  · intro hc
    refine (Int.ediv_emod_unique hb).2 ⟨?_, by omega, by omega⟩
    rw [Int.mul_add, e2]; omega
  · intro hc
    refine (Int.ediv_emod_unique hb).2 ⟨?_, by omega, by omega⟩
    rw [e2]; omega
theorem word_room {O : List Int} {k r : Nat} {X : Int} (oO : ok32 O) (hk : k < O.length) (hr : r < 32) (h : val O = 2 ^ (32 * k + r + 1) * X) : O.getD k 0 + 1 * 2 ^ r < 4294967296 := by
  have h1 := (val_div_words oO (Nat.le_of_lt hk)).1
  have e : (2 : Int) ^ (32 * k + r + 1) * X = 4294967296 ^ k * (2 ^ (r + 1) * X) := by rw [show 32 * k + r + 1 = 32 * k + (r + 1) by omega, words_two, Int.mul_assoc]
  rw [h, e, Int.mul_ediv_cancel_left _ (by have := pow_pos k; omega), val_drop_step O k hk] at h1
  have hx := ok32_getD oO k
  obtain ⟨s, hs⟩ : ∃ s, 31 = r + s := ⟨31 - r, by omega⟩
  have e2 : (4294967296 : Int) = 2 ^ (r + 1) * 2 ^ s := by
    rw [← Int.pow_add, show r + 1 + s = 32 by omega]; rfl
  have hp : (2 : Int) ^ (r + 1) = 2 * 2 ^ r := by rw [Int.pow_succ, Int.mul_comm]
  have hw : O.getD k 0 = 2 ^ (r + 1) * (X - 2 ^ s * val (O.drop (k + 1))) := by
    rw [Int.mul_sub, ← Int.mul_assoc, ← e2]; omega
  have hr0 := two_pow_pos r
  have hs0 := two_pow_pos s
  generalize X - 2 ^ s * val (O.drop (k + 1)) = Y at hw
  have hlt : Y < 2 ^ s := by
    apply Classical.byContradiction
    intro hc
    have := Int.mul_le_mul_of_nonneg_left (show (2 : Int) ^ s ≤ Y by omega) (show (0 : Int) ≤ 2 ^ (r + 1) by omega)
    rw [← e2, ← hw] at this
    omega
  have h3 := Int.mul_le_mul_of_nonneg_left (show Y ≤ 2 ^ s - 1 by omega) (show (0 : Int) ≤ 2 ^ (r + 1) by omega)
  rw [← hw, Int.mul_sub, ← e2] at h3
  omega
theorem LongInv.yes {a b : Int} {O R : List Int} {p k r : Nat} {Rn : List Int} (hb : 0 < b) (h : LongInv a b O R (p + 1)) (hk : k < O.length) (hp : p = 32 * k + r) (hr : r < 32) (hn : norm Rn) (hv : val Rn = 2 * val R + a / 2 ^ p % 2 - b) (hc : b ≤ 2 * val R + a / 2 ^ p % 2) :
    LongInv a b (O.set k (O.getD k 0 + 1 * 2 ^ r)) Rn p := by
  have hw := word_room h.oO hk hr (by rw [← hp]; exact h.eO)
  have hx := ok32_getD h.oO k
  have h2 := two_pow_pos r
  obtain ⟨s1, s2⟩ := (long_step hb rfl rfl).1 (by rw [← h.eR]; exact hc)
  refine ⟨hn, by rw [s2, ← h.eR]; exact hv, ok32_set h.oO k ⟨by omega, hw⟩, ?_⟩
  rw [val_set _ _ _ hk, s1, h.eO, Int.pow_succ, Int.mul_add, hp, words_two]
  have e : O.getD k 0 + 1 * 2 ^ r - O.getD k 0 = 2 ^ r := by omega
  rw [e, Int.mul_assoc, Int.mul_assoc, Int.mul_assoc, Int.mul_one]
theorem LongInv.no {a b : Int} {O R : List Int} {p : Nat} {Rn : List Int} (hb : 0 < b) (h : LongInv a b O R (p + 1)) (hn : norm Rn) (hv : val Rn = 2 * val R + a / 2 ^ p % 2) (hc : 2 * val R + a / 2 ^ p % 2 < b) :
    LongInv a b O Rn p := by
  obtain ⟨s1, s2⟩ := (long_step hb rfl rfl).2 (by rw [← h.eR]; exact hc)
  refine ⟨hn, by rw [s2, ← h.eR]; exact hv, h.oO, ?_⟩
  rw [s1, h.eO, Int.pow_succ, Int.mul_assoc]
theorem LongInv.fin {a b : Int} {O R : List Int} (h : LongInv a b O R 0) : val O = a / b ∧ dg (a % b) = R := by
  have e : a / 2 ^ 0 = a := by simp
  have h1 := h.eO
  have h2 := h.eR
  rw [e] at h1 h2
  exact ⟨by rw [h1]; simp, by rw [← h2]; exact dg_val h.nR⟩
theorem LongInv.len {a b : Int} {O R B : List Int} {p : Nat} (h : LongInv a b O R p) (nB : norm B) (hb : b = val B) (h0 : 0 < b) : R.length ≤ B.length := by
  refine norm_le_len h.nR nB ?_
  rw [h.eR, ← hb]
  exact Int.le_of_lt (Int.emod_lt_of_pos _ h0)
theorem blen_two {v : Int} (h : 0 ≤ v) : v < 2 ^ blen v.toNat := by
  have h1 := (blen_lt (blen v.toNat) v.toNat).1 (Nat.le_refl _)
  have h2 : ((v.toNat : Nat) : Int) < ((2 ^ blen v.toNat : Nat) : Int) := Int.ofNat_lt.2 h1
  rw [two_cast] at h2
  omega
theorem blen_words {L : List Int} (h : ok32 L) : blen (val L).toNat ≤ 32 * L.length := by
  refine (blen_lt _ _).2 ?_
  have h1 := val_lt h
  rw [← pow_two_words] at h1
  have h2 : ((val L).toNat : Int) < ((2 ^ (32 * L.length) : Nat) : Int) := by rw [two_cast, Int.toNat_of_nonneg (val_nonneg h)]; exact h1
  exact Int.ofNat_lt.1 h2
theorem dbl_len {R : List Int} {b : Int} (oR : ok32 R) (h : R.length ≤ 300000000) (b0 : 0 ≤ b) (b1 : b < 2) : (dg (2 * val R + b)).length ≤ 900000000 := by
  have v0 := val_nonneg oR
  have v1 := val_lt oR
  have h2 := (len_dg (show 0 ≤ 2 * val R + b by omega) (R.length + 1)).2 (by
    rw [Int.pow_succ]
    have := pow_pos R.length
    omega)
  omega
end Go.VL

/- Plain laws for the document's own functions: texts. No program here. -/
set_option linter.unusedVariables false
set_option linter.unusedSimpArgs false
namespace Go.VL

theorem bytesOf_cons (x : Int) (L : List Int) : bytesOf [x] ++ bytesOf L = bytesOf (x :: L) := by
  refine ByteArray.ext (Array.ext' ?_)
  rw [ByteArray.data_append]
  show (([x].map byteOf).toArray ++ (L.map byteOf).toArray).toList = ((x :: L).map byteOf).toArray.toList
  simp
theorem minus_b : (⟨#[45]⟩ : ByteArray) = bytesOf [45] := rfl
theorem str_add {x y : ByteArray} (h : x.size + y.size ≤ 9223372036854775807) : bop .add (.string x) (.string y) = some (.string (x ++ y)) := by
  simp only [bop]; rw [if_pos h]
def TInv (v : Int) (L D : List Int) : Prop := (D = [] ∧ val L = v) ∨ (D ≠ [] ∧ txD v = D ++ dd (val L).toNat)
theorem TInv.step {v : Int} {L D : List Int} (h : TInv v L D) (hv : 0 ≤ val L) (hc : 0 < val L ∨ D = []) : TInv v (dg (val L / 10)) (D ++ [48 + val L % 10]) := by
  refine .inr ⟨by simp, ?_⟩
  rw [val_dg (by omega), List.append_assoc]
  rcases h with ⟨h1, h2⟩ | ⟨h1, h2⟩
  · subst h1
    rw [h2]
    unfold txD
    split
    · rename_i h0; subst h0; rw [show ((0 : Int) / 10).toNat = 0 from rfl, dd_zero]; rfl
    · rw [dd_pos (by omega)]
      have e1 : ((v.toNat % 10 : Nat) : Int) = v % 10 := by omega
      have e2 : v.toNat / 10 = (v / 10).toNat := by omega
      rw [e1, e2]; rfl
  · have hp : 0 < val L := hc.resolve_right h1
    rw [h2, dd_pos (by omega)]
    have e1 : (((val L).toNat % 10 : Nat) : Int) = val L % 10 := by omega
    have e2 : (val L).toNat / 10 = (val L / 10).toNat := by omega
    rw [e1, e2]; rfl
theorem TInv.done {v : Int} {L D : List Int} (h : TInv v L D) (hL : L.length = 0) (hD : D ≠ []) : txD v = D := by
  rcases h with ⟨h1, _⟩ | ⟨_, h2⟩
  · exact absurd h1 hD
  · have : L = [] := List.length_eq_zero_iff.1 hL
    subst this
    rw [h2, show (val []).toNat = 0 from rfl, dd_zero, List.append_nil]
theorem TInv.len {v : Int} {L D : List Int} (h : TInv v L D) : D.length ≤ (txD v).length := by
  rcases h with ⟨h1, _⟩ | ⟨_, h2⟩
  · subst h1; simp
  · rw [h2]; simp
theorem of_empty {D : List Int} (h : bytesOf D.reverse = ⟨#[]⟩) : D = [] := by
  have := congrArg ByteArray.size h
  rw [bytesOf_size] at this
  have e : (⟨#[]⟩ : ByteArray).size = 0 := rfl
  rw [e, List.length_reverse] at this
  exact List.length_eq_zero_iff.1 this
theorem tx_fin {n : Bool} {v : Int} {D : List Int} (hv : 0 ≤ v) (hn : n = true → 0 < v) (hD : txD v = D) : txB (sg n v) = if n = true then ⟨#[45]⟩ ++ bytesOf D.reverse else bytesOf D.reverse := by
  unfold txB
  rw [txL_sg hv hn, hD]
  split
  · rw [minus_b, bytesOf_cons]; simp
  · simp
/-- Reading. -/
theorem neg_size_lt {s : ByteArray} : decide (((digS s).size : Int) < (s.size : Int)) = negS s := by
  by_cases h : negS s = true
  · have h0 := neg_size h
    rw [h, decide_eq_true_iff, ← dig_yes h, ByteArray.size_extract]; omega
  · have h' : negS s = false := by simpa using h
    rw [h', decide_eq_false_iff_not, ← dig_no h']; omega
theorem pvn_mono {d : ByteArray} (hd : ∀ i, i < d.size → 48 ≤ at8 d i ∧ at8 d i ≤ 57) {i : Nat} : ∀ k, pvn d i ≤ pvn d (i + k)
  | 0 => Int.le_refl _
  | k + 1 => by
    have ih := pvn_mono hd (i := i) k
    have h0 := (pvn_range hd (i + k)).1
    by_cases h : i + k < d.size
    · rw [← Nat.add_assoc, pvn_step h]
      have := hd _ h
      omega
    · rw [pvn_out (i := i + (k + 1)) (j := i + k) (by omega) (by omega)]; exact ih
theorem pvn_le {d : ByteArray} (hd : ∀ i, i < d.size → 48 ≤ at8 d i ∧ at8 d i ≤ 57) (i : Nat) : pvn d i ≤ pv (bl d) := by
  have h := pvn_mono hd (i := i) d.size
  rwa [pvn_all (show d.size ≤ i + d.size by omega)] at h
theorem ok_num {s : ByteArray} (h : okS s = true) : ∀ i, i < (digS s).size → 48 ≤ at8 (digS s) i ∧ at8 (digS s) i ≤ 57 := fun i hi => by
  have := dS_num (s := s) (i := i) (by rw [dS_ok h]; exact hi)
  rwa [dS_ok h] at this
theorem par_fin {s : ByteArray} {X : List Int} {i : Nat} (ho : okS s = true) (nX : norm X) (hX : val X = pvn (digS s) i) (h : (digS s).size ≤ i ∨ 128 < X.length) : zR (sg (negS s) (val X)) = zR (pZ s) := by
  have hn := ok_num ho
  by_cases hs : (digS s).size ≤ i
  · rw [hX, pvn_all hs]; rfl
  · have hl := h.resolve_left hs
    have h1 := val_ge nX (by omega)
    have h2 := pow_mono (show 128 ≤ X.length - 1 by omega)
    have h3 := pvn_le hn i
    have h4 : limit ≤ val X := by unfold limit; omega
    have h5 : 0 ≤ val X := val_nonneg nX.1
    rw [zR_big (by rw [sg_abs h5]; exact h4)]
    unfold pZ
    rw [zR_big (by rw [sg_abs (by omega)]; omega)]
theorem par_step {d : ByteArray} {X : List Int} {i : Nat} (hi : i < d.size) (hd : 48 ≤ at8 d i ∧ at8 d i ≤ 57) (oX : ok32 X) (hX : val X = pvn d i) : val (dg (val (dg (val X * val [10])) + val (dg (val [at8 d i - 48])))) = pvn d (i + 1) := by
  have v0 := val_nonneg oX
  have h1 : val [10] = 10 := rfl
  have h2 : val [at8 d i - 48] = at8 d i - 48 := by simp [val]
  rw [h1, h2, val_dg (show 0 ≤ val X * 10 by omega), val_dg (show 0 ≤ at8 d i - 48 by omega), val_dg (by omega), pvn_step hi, hX]
theorem par_len {X : List Int} {c : Int} (oX : ok32 X) (h : X.length ≤ 128) (c0 : 0 ≤ c) (c1 : c < 4294967296) : (dg (val (dg (val X * val [10])) + val (dg (val [c])))).length ≤ 130 := by
  have v0 := val_nonneg oX
  have v1 := val_lt oX
  have v2 := pow_mono h
  have h1 : val [10] = 10 := rfl
  have h2 : val [c] = c := by simp [val]
  have hp := pow_pos 128
  rw [h1, h2, val_dg (by omega), val_dg (by omega)]
  refine (len_dg (by omega) 130).2 ?_
  rw [show (130 : Nat) = 128 + 2 from rfl, Int.pow_add]
  have e : (4294967296 : Int) ^ 2 = 18446744073709551616 := rfl
  rw [e]
  generalize (4294967296 : Int) ^ 128 = P at *
  omega
theorem t_mu {L D : List Int} (vL : 0 ≤ val L) (h : 0 < val L ∨ D = []) : (val L / 10).toNat + 0 < (val L).toNat + (if D.length = 0 then 1 else 0) := by
  rcases h with h | h
  · split <;> omega
  · rw [if_pos (by rw [h]; rfl)]; omega
end Go.VL

/- Plain laws for the document's own functions: the square root, two digits at a time. No program here. -/
set_option linter.unusedVariables false
set_option linter.unusedSimpArgs false
namespace Go.VL

theorem isq_mono {u : Int} (hu : 0 ≤ u) {w b1 b0 : Int} (h1 : 0 ≤ b1 ∧ b1 < 2) (h0 : 0 ≤ b0 ∧ b0 < 2) (hw : w = 4 * u + 2 * b1 + b0) {R T : Int} (hR : R = 2 * (2 * (u - isq u * isq u) + b1) + b0) (hT : T = 2 * (2 * isq u + 0) + 1) :
    (T ≤ R → isq w = 2 * isq u + 1 ∧ R - T = w - isq w * isq w) ∧ (R < T → isq w = 2 * isq u + 0 ∧ R = w - isq w * isq w) := by
  obtain ⟨s0, s1, s2⟩ := isq_spec hu
  have e4 : (2 * isq u) * (2 * isq u) = 4 * (isq u * isq u) := by rw [Int.mul_assoc, Int.mul_left_comm (isq u) 2]; omega
  have e5 : (2 * isq u + 1) * (2 * isq u + 1) = 4 * (isq u * isq u) + 4 * isq u + 1 := by rw [Int.add_mul, Int.mul_add, e4]; omega
  have e6 : (2 * isq u + 1 + 1) * (2 * isq u + 1 + 1) = 4 * (isq u * isq u) + 8 * isq u + 4 := by
    have : (2 * isq u + 1 + 1) * (2 * isq u + 1 + 1) = (2 * isq u + 1) * (2 * isq u + 1) + 2 * (2 * isq u + 1) + 1 := by simp only [Int.add_mul, Int.mul_add]; omega
    rw [this, e5]; omega
  have e7 : (isq u + 1) * (isq u + 1) = isq u * isq u + 2 * isq u + 1 := by simp only [Int.add_mul, Int.mul_add]; omega
  rw [e7] at s2
  constructor
  · intro hc
    have h := isq_uniq (v := w) (x := 2 * isq u + 1) (by omega) (by rw [e5]; omega) (by rw [e6]; omega)
    refine ⟨h, ?_⟩
    rw [h, e5]; omega
  · intro hc
    have h := isq_uniq (v := w) (x := 2 * isq u) (by omega) (by rw [e4]; omega) (by rw [e5]; omega)
    refine ⟨by rw [h]; omega, ?_⟩
    rw [h, e4]; omega
/-- What is left after the higher digits. -/
structure RootInv (v : Int) (root rest : List Int) (i : Nat) : Prop where
  n1 : norm root
  n2 : norm rest
  e1 : val root = isq (v / 2 ^ (2 * i))
  e2 : val rest = v / 2 ^ (2 * i) - isq (v / 2 ^ (2 * i)) * isq (v / 2 ^ (2 * i))
theorem RootInv.start {v : Int} {i : Nat} (h0 : 0 ≤ v) (h : v < 2 ^ (2 * i)) : RootInv v [] [] i := by
  have e : v / 2 ^ (2 * i) = 0 := Int.ediv_eq_zero_of_lt h0 h
  refine ⟨⟨ok32_nil, .inl rfl⟩, ⟨ok32_nil, .inl rfl⟩, by rw [e]; rfl, by rw [e]; rfl⟩
theorem two_bits (v : Int) (i : Nat) : v / 2 ^ (2 * i) = 4 * (v / 2 ^ (2 * (i + 1))) + 2 * (v / 2 ^ (2 * i + 1) % 2) + v / 2 ^ (2 * i) % 2 := by
  have h1 := half v (2 * i)
  have h2 := half v (2 * i + 1)
  rw [show 2 * (i + 1) = 2 * i + 1 + 1 by omega]
  omega
theorem RootInv.step {v : Int} {root rest : List Int} {i : Nat} (hv : 0 ≤ v) (h : RootInv v root rest (i + 1)) {R T : Int}
    (hR : R = 2 * (2 * val rest + v / 2 ^ (2 * i + 1) % 2) + v / 2 ^ (2 * i) % 2) (hT : T = 2 * (2 * val root + 0) + 1) :
    (T ≤ R → isq (v / 2 ^ (2 * i)) = 2 * val root + 1 ∧ R - T = v / 2 ^ (2 * i) - isq (v / 2 ^ (2 * i)) * isq (v / 2 ^ (2 * i))) ∧
    (R < T → isq (v / 2 ^ (2 * i)) = 2 * val root + 0 ∧ R = v / 2 ^ (2 * i) - isq (v / 2 ^ (2 * i)) * isq (v / 2 ^ (2 * i))) := by
  have hu : 0 ≤ v / 2 ^ (2 * (i + 1)) := Int.ediv_nonneg hv (Int.le_of_lt (two_pow_pos _))
  have hb := two_bits v i
  rw [h.e1] at hT ⊢
  rw [h.e2] at hR
  exact isq_mono hu (by omega) (by omega) hb hR hT
theorem RootInv.fin {v : Int} {root rest : List Int} (h : RootInv v root rest 0) : val root = isq v ∧ val rest = v - isq v * isq v := by
  have e : v / 2 ^ (2 * 0) = v := by simp
  have h1 := h.e1
  have h2 := h.e2
  rw [e] at h1 h2
  exact ⟨h1, h2⟩
theorem RootInv.len {A root rest : List Int} {i : Nat} (oA : ok32 A) (h : RootInv (val A) root rest i) : root.length ≤ A.length ∧ rest.length ≤ A.length := by
  have hv := val_nonneg oA
  have hu : 0 ≤ val A / 2 ^ (2 * i) := Int.ediv_nonneg hv (Int.le_of_lt (two_pow_pos _))
  have hl := Int.ediv_le_self (2 ^ (2 * i)) hv
  obtain ⟨s0, s1, s2⟩ := isq_spec hu
  have h1 := isq_le hu
  have h3 := Int.mul_nonneg s0 s0
  constructor
  · rw [← dg_val h.n1, h.e1]; exact len_le oA s0 (by omega)
  · rw [← dg_val h.n2, h.e2]; exact len_le oA (by omega) (by omega)
theorem blen_even {v : Int} (h : 0 ≤ v) {i : Nat} (hi : blen v.toNat ≤ 2 * i) : v < 2 ^ (2 * i) := by
  have h1 := blen_two h
  have h2 := two_mono hi
  omega
theorem rest_zero {R : List Int} {v s : Int} (n : norm R) (h : val R = v - s * s) : ((R.length : Int) == 0) = decide (s * s = v) := by
  rw [Bool.eq_iff_iff, beq_iff_eq, decide_eq_true_iff]
  constructor
  · intro h0
    rw [norm_zero n (by omega)] at h; omega
  · intro h0
    apply Classical.byContradiction
    intro hc
    have := norm_pos n (fun e => hc (by rw [e]; rfl))
    omega
theorem dbl_len2 {R : List Int} {b : Int} {k : Nat} (oR : ok32 R) (h : R.length ≤ k) (b0 : 0 ≤ b) (b1 : b < 2) : (dg (2 * val R + b)).length ≤ k + 1 := by
  have v0 := val_nonneg oR
  have v1 := val_lt oR
  have v2 := pow_mono h
  refine (len_dg (show 0 ≤ 2 * val R + b by omega) (k + 1)).2 ?_
  rw [Int.pow_succ]
  have := pow_pos k
  omega
end Go.VL

/- Plain laws for the document's own functions: the greatest common divisor by subtracting and halving. No program here. -/
set_option linter.unusedVariables false
set_option linter.unusedSimpArgs false
namespace Go.VL

/-- Without its factors 2. -/
def oddN (n : Nat) : Nat := if h : n = 0 then 0 else if n % 2 = 0 then oddN (n / 2) else n
termination_by n
decreasing_by omega
theorem oddN_even {n : Nat} (h : n ≠ 0) (h2 : n % 2 = 0) : oddN n = oddN (n / 2) := by rw [oddN, dif_neg h, if_pos h2]
theorem oddN_odd {n : Nat} (h2 : n % 2 ≠ 0) : oddN n = n := by
  rw [oddN]
  split
  · rename_i h; omega
  · first | rfl | rw [if_neg h2]
theorem oddN_two (k n : Nat) (h : n ≠ 0) : oddN (2 ^ k * n) = oddN n := by
  induction k with
  | zero => simp
  | succ k ih =>
    have h1 : 2 ^ (k + 1) * n = 2 * (2 ^ k * n) := by rw [Nat.pow_succ, Nat.mul_comm (2 ^ k) 2, Nat.mul_assoc]
    have hp : 0 < 2 ^ k * n := Nat.mul_pos (Nat.pow_pos (by decide)) (by omega)
    rw [h1, oddN_even (by omega) (by omega), show 2 * (2 ^ k * n) / 2 = 2 ^ k * n by omega]
    exact ih
theorem oddN_spec {n : Nat} (h : n ≠ 0) : oddN n % 2 = 1 ∧ oddN n ≤ n ∧ 0 < oddN n := by
  induction n using Nat.strongRecOn with
  | _ n ih =>
    by_cases h2 : n % 2 = 0
    · rw [oddN_even h h2]
      have := ih (n / 2) (by omega) (by omega)
      omega
    · rw [oddN_odd h2]; omega
/-- A factor 2 of one of them doesn't matter where the other is odd. -/
theorem odd_cut {x y : Nat} (hx : x % 2 = 1) : Nat.gcd x (2 * y) = Nat.gcd x y := by
  have hd1 := Nat.gcd_dvd_left x (2 * y)
  have hd2 := Nat.gcd_dvd_right x (2 * y)
  refine Nat.dvd_antisymm (Nat.dvd_gcd hd1 ?_) (Nat.dvd_gcd (Nat.gcd_dvd_left x y) (Nat.dvd_trans (Nat.gcd_dvd_right x y) ⟨2, by omega⟩))
  obtain ⟨k, hk⟩ := hd2
  obtain ⟨m, hm⟩ := hd1
  generalize Nat.gcd x (2 * y) = g at *
  have hg : g % 2 = 1 := by
    have h := Nat.mul_mod g m 2
    rw [← hm] at h
    rcases Nat.mod_two_eq_zero_or_one g with h0 | h0
    · rw [h0, Nat.zero_mul] at h; omega
    · exact h0
  have hk2 : k % 2 = 0 := by
    have h := Nat.mul_mod g k 2
    rw [← hk, hg, Nat.one_mul] at h
    omega
  refine ⟨k / 2, ?_⟩
  have h2 : k = 2 * (k / 2) := by omega
  rw [h2, Nat.mul_left_comm] at hk
  omega
theorem gcd_odd {x y : Nat} (hx : x % 2 = 1) (hy : y ≠ 0) : Nat.gcd x y = Nat.gcd x (oddN y) := by
  induction y using Nat.strongRecOn with
  | _ y ih =>
    by_cases h2 : y % 2 = 0
    · have h3 := odd_cut (x := x) (y := y / 2) hx
      rw [show 2 * (y / 2) = y by omega] at h3
      rw [oddN_even hy h2, ← ih (y / 2) (by omega) (by omega)]
      exact h3
    · rw [oddN_odd h2]
theorem gcd_sub_odd {x y : Nat} (hy : y % 2 = 1) (h : y < x) : Nat.gcd (oddN (x - y)) y = Nat.gcd x y := by
  rw [Nat.gcd_comm, ← gcd_odd hy (by omega), Nat.gcd_comm x y]
  exact Nat.gcd_sub_self_right (by omega)
/-- The common factors 2 taken out. -/
theorem gcd_two {a b k : Nat} (ha : a ≠ 0) (hb : b ≠ 0) (h1 : 2 ^ k ∣ a) (h2 : 2 ^ k ∣ b) (h : a / 2 ^ k % 2 = 1 ∨ b / 2 ^ k % 2 = 1) : Nat.gcd a b = Nat.gcd (oddN a) (oddN b) * 2 ^ k := by
  obtain ⟨x, rfl⟩ := h1
  obtain ⟨y, rfl⟩ := h2
  have hp : 0 < 2 ^ k := Nat.pow_pos (by decide)
  have hx : x ≠ 0 := fun e => ha (by rw [e, Nat.mul_zero])
  have hy : y ≠ 0 := fun e => hb (by rw [e, Nat.mul_zero])
  rw [Nat.mul_div_cancel_left _ hp, Nat.mul_div_cancel_left _ hp] at h
  rw [oddN_two k x hx, oddN_two k y hy, Nat.gcd_mul_left, Nat.mul_comm]
  congr 1
  rcases h with h | h
  · rw [oddN_odd (n := x) (by omega)]; exact gcd_odd h hy
  · rw [oddN_odd (n := y) (by omega), Nat.gcd_comm x y, Nat.gcd_comm _ y]; exact gcd_odd h hx
def oddZ (v : Int) : Int := ((oddN v.toNat : Nat) : Int)
/-- Shifted down to its first digit 1. -/
structure TzInv (v : Int) (k : Nat) : Prop where
  pos : 0 < v
  dvd : (2 : Int) ^ k ∣ v
theorem TzInv.lt {v : Int} {k : Nat} (h : TzInv v k) : k < blen v.toNat := by
  obtain ⟨h1, c, hc⟩ := h
  apply Classical.byContradiction
  intro hn
  have h2 := blen_two (Int.le_of_lt h1)
  have h3 := two_mono (show blen v.toNat ≤ k by omega)
  have hp := two_pow_pos k
  have hc0 : 0 < c := by
    apply Classical.byContradiction
    intro hh
    have := Int.mul_le_mul_of_nonneg_left (show c ≤ 0 by omega) (Int.le_of_lt hp)
    rw [← hc, Int.mul_zero] at this; omega
  have := Int.mul_le_mul_of_nonneg_left (show 1 ≤ c by omega) (Int.le_of_lt hp)
  rw [← hc, Int.mul_one] at this
  omega
theorem TzInv.step {v : Int} {k : Nat} (h : TzInv v k) (h0 : v / 2 ^ k % 2 = 0) : TzInv v (k + 1) := by
  obtain ⟨h1, c, hc⟩ := h
  refine ⟨h1, c / 2, ?_⟩
  have hp := two_pow_pos k
  have e : v / 2 ^ k = c := by rw [hc]; exact Int.mul_ediv_cancel_left _ (by omega)
  rw [e] at h0
  rw [Int.pow_succ, Int.mul_assoc, show 2 * (c / 2) = c by omega]; exact hc
theorem TzInv.nat {v : Int} {k : Nat} (h : TzInv v k) : 2 ^ k ∣ v.toNat ∧ ((v.toNat / 2 ^ k : Nat) : Int) = v / 2 ^ k := by
  obtain ⟨h1, h2⟩ := h
  have e : v = ((v.toNat : Nat) : Int) := by omega
  constructor
  · rw [e, ← two_cast] at h2
    exact Int.natCast_dvd_natCast.1 h2
  · rw [Int.natCast_ediv, two_cast, ← e]
theorem TzInv.fin {v : Int} {k : Nat} (h : TzInv v k) (h0 : v / 2 ^ k % 2 ≠ 0) : v / 2 ^ k = oddZ v := by
  obtain ⟨n1, n2⟩ := h.nat
  have h1 := h.pos
  obtain ⟨c, hc⟩ := n1
  have hp : 0 < 2 ^ k := Nat.pow_pos (by decide)
  have e : v.toNat / 2 ^ k = c := by rw [hc]; exact Nat.mul_div_cancel_left _ hp
  rw [e] at n2
  have hc0 : c ≠ 0 := fun hh => by rw [hh, Nat.mul_zero] at hc; omega
  unfold oddZ
  rw [hc, oddN_two k c hc0, ← n2, oddN_odd]
  omega
theorem oddZ_spec {v : Int} (h : 0 < v) : 0 < oddZ v ∧ oddZ v ≤ v ∧ oddZ v % 2 = 1 := by
  have := oddN_spec (n := v.toNat) (by omega)
  unfold oddZ
  omega
theorem gcd_bin {a b X : Int} {c : Nat} (ha : TzInv a c) (hb : TzInv b c) (h : a / 2 ^ c % 2 ≠ 0 ∨ b / 2 ^ c % 2 ≠ 0) (hX : 0 < X) (hG : Nat.gcd X.toNat X.toNat = Nat.gcd (oddN a.toNat) (oddN b.toNat)) : ((Int.gcd a b : Nat) : Int) = X * 2 ^ c := by
  obtain ⟨a1, a2⟩ := ha.nat
  obtain ⟨b1, b2⟩ := hb.nat
  have pa := ha.pos
  have pb := hb.pos
  have hh := gcd_two (by omega) (by omega) a1 b1 (by omega)
  have e : Int.gcd a b = Nat.gcd a.toNat b.toNat := by
    unfold Int.gcd
    rw [show a.natAbs = a.toNat by omega, show b.natAbs = b.toNat by omega]
  rw [e, hh, ← hG, Nat.gcd_self, Int.natCast_mul, two_cast]
  congr 1
  omega
theorem gcd_step {x y : Int} (hx : 0 < x) (hy : 0 < y) (h : y < x) (ho : y % 2 = 1) : Nat.gcd (oddZ (x - y)).toNat y.toNat = Nat.gcd x.toNat y.toNat := by
  have := gcd_sub_odd (x := x.toNat) (y := y.toNat) (by omega) (by omega)
  unfold oddZ
  rw [show (x - y).toNat = x.toNat - y.toNat by omega, Int.toNat_natCast]
  exact this
theorem gcd_nil {a b : Int} (ha : 0 ≤ a) (hb : 0 ≤ b) (h : a = 0 ∨ b = 0) : ((Int.gcd a b : Nat) : Int) = a + b := by
  rcases h with h | h
  · subst h; rw [Int.gcd_zero_left]; omega
  · subst h; rw [Int.gcd_zero_right]; omega
theorem odd_len {A : List Int} {v : Int} (oA : ok32 A) (h0 : 0 < v) (h : v ≤ val A) : (dg (oddZ v)).length ≤ A.length := by
  have := oddZ_spec h0
  exact len_le oA (by omega) (by omega)
end Go.VL

/- Walks over the Go functions, printed by a program of this session over the kit's print, and by hand. -/
set_option linter.unusedVariables false
set_option linter.unusedSimpArgs false
namespace Go.VL
open Go.Proofs
theorem f66 (L : List Int) (hL : L.length ≤ 1000000000) (oL : ok32 L) : VF Try.prog 66 [u32S (L)] (u32S (dg (val L))) := by
  refine VF_of P_mixed Try.func66 rfl rfl (by kernel_rfl) ?_
  refine VCode.seq ?_
  refine VCode.region ?_
  refine VList.go0 (n' := 1) rfl rfl (.assign _ _ rfl) rfl ?_
  refine VList.nil (Then.go ?_)
  refine VCode.seq ?_
  refine VCode.block ?_
  refine VCode.loop (α := (List Int)) (fun (X : (List Int)) => (0, sl [(0, vS (X))], en [])) (fun (X : (List Int)) => (ok32 X ∧ X.length ≤ L.length) ∧ val X = val L) (fun (X : (List Int)) => X.length) (L) ⟨⟨oL, Nat.le_refl _⟩, rfl⟩ (Weak.of (show 0 ≤ 0 by decide) ⟨⟨rfl, rfl⟩, trivial⟩ trivial) ?_
  intro X hok
  obtain ⟨⟨oX, lX⟩, vX⟩ := hok
  show VCode Try.prog 0 _ 0 (sl [(0, vS (X))]) (en []) _
  refine VCode.seq ?_
  refine VCode.seq ?_
  refine VCode.region ?_
  refine VList.go0 (n' := 1) rfl rfl (.move _ _ rfl) rfl ?_
  refine VList.go0 (n' := 2) rfl rfl (Eff.lenS rfl Try.underlying22) rfl ?_
  refine VList.go0 (n' := 3) rfl rfl (.bin _ _ _ _ _ _ _ _ rfl rfl rfl) rfl ?_
  refine VList.go0 (n' := 4) rfl rfl (.move _ _ rfl) rfl ?_
  refine VList.split (d := 6) _ rfl (fun hc1 => ?_) (fun hc1 => ?_)
  · replace hc1 := of_decide_eq_true hc1
    refine VList.go0 (n' := 5) rfl rfl (.move _ _ rfl) rfl ?_
    refine VList.go0 (n' := 6) rfl rfl (.move _ _ rfl) rfl ?_
    refine VList.go0 (n' := 7) rfl rfl (Eff.lenS rfl Try.underlying22) rfl ?_
    refine VList.go0 (n' := 8) rfl rfl (.bin _ _ _ _ _ _ _ _ rfl rfl (bop_sub_i64 (by first | omega | (simp; done) | (simp; omega)))) rfl ?_
    refine VList.go0 (n' := 9) rfl rfl (Eff.indexRd rfl rfl Try.underlying22 P_sz51 (by first | omega | (simp; done) | (simp; omega)) (by first | omega | (simp; done) | (simp; omega))) rfl ?_
    refine VList.go0 (n' := 10) rfl rfl (.loadRd1 _ _ _ _ rfl P_agg51 rfl) rfl ?_
    refine VList.go0 (n' := 11) rfl rfl (.bin _ _ _ _ _ _ _ _ rfl rfl rfl) rfl ?_
    refine VList.go0 (n' := 12) rfl rfl (.pick _ _ _ _ _ rfl rfl) rfl ?_
    refine VList.nil (Then.go ?_)
    refine VCode.cond _ rfl (fun hc2 => ?_) (fun hc2 => ?_)
    · replace hc2 := eq_of_beq hc2
      refine VCode.skip (Then.go ?_)
      refine VCode.block ?_
      refine VCode.region ?_
      refine VList.go0 (n' := 13) rfl rfl (.move _ _ rfl) rfl ?_
      refine VList.go0 (n' := 14) rfl rfl (.move _ _ rfl) rfl ?_
      refine VList.go0 (n' := 15) rfl rfl (Eff.lenS rfl Try.underlying22) rfl ?_
      refine VList.go0 (n' := 16) rfl rfl (.bin _ _ _ _ _ _ _ _ rfl rfl (bop_sub_i64 (by first | omega | (simp; done) | (simp; omega)))) rfl ?_
      refine VList.go0 (n' := 17) rfl rfl (Eff.cutTo rfl rfl Try.underlying22 P_sz51 (by first | omega | (simp; done) | (simp; omega)) (by first | omega | (simp; done) | (simp; omega))) rfl ?_
      refine VList.go0 (n' := 18) rfl rfl (.assign _ _ rfl) rfl ?_
      exact VList.nil (InBlock.go (Round.go ((X).take ((((X).length : Int) - 1)).toNat) ⟨⟨ok32_take oX _, by simp; omega⟩, (val_trim (q := (((X).length : Int) - 1).toNat) (by omega) (by omega)).trans vX⟩ (by show (List.take _ X).length < X.length; rw [List.length_take]; omega) (Weak.of (show 0 ≤ 0 by decide) ⟨⟨rfl, rfl⟩, trivial⟩ trivial)))
    · replace hc2 := ne_of_beq_false hc2
      refine VCode.exit (Then.exit (Round.exit (InBlock.here (Then.go ?_))))
      refine VCode.seq ?_
      refine VCode.region ?_
      refine VList.go0 (n' := 13) rfl rfl (.move _ _ rfl) rfl ?_
      refine VList.go0 (n' := 14) rfl rfl (.assign _ _ rfl) rfl ?_
      refine VList.nil (Then.go ?_)
      exact VCode.ret (⟨trivial, [u32S (X)], (resVars_cons (resVar_tmp rfl rfl) resVars_nil), (by rw [trim_done (q := (((X).length : Int) - 1).toNat) oX vX (by first | (left; omega) | (right; exact ⟨by omega, by omega⟩))]; rfl)⟩)
  · replace hc1 := of_decide_eq_false hc1
    refine VList.skip (n' := 5) rfl rfl rfl ?_
    refine VList.skip (n' := 6) rfl rfl rfl ?_
    refine VList.skip (n' := 7) rfl rfl rfl ?_
    refine VList.skip (n' := 8) rfl rfl rfl ?_
    refine VList.skip (n' := 9) rfl rfl rfl ?_
    refine VList.skip (n' := 10) rfl rfl rfl ?_
    refine VList.skip (n' := 11) rfl rfl rfl ?_
    refine VList.go0 (n' := 12) rfl rfl (.pick _ _ _ _ _ rfl rfl) rfl ?_
    refine VList.nil (Then.go ?_)
    refine VCode.cond _ rfl (fun h_ => Bool.noConfusion h_) (fun _ => ?_)
    refine VCode.exit (Then.exit (Round.exit (InBlock.here (Then.go ?_))))
    refine VCode.seq ?_
    refine VCode.region ?_
    refine VList.go0 (n' := 13) rfl rfl (.move _ _ rfl) rfl ?_
    refine VList.go0 (n' := 14) rfl rfl (.assign _ _ rfl) rfl ?_
    refine VList.nil (Then.go ?_)
    exact VCode.ret (⟨trivial, [u32S (X)], (resVars_cons (resVar_tmp rfl rfl) resVars_nil), (by rw [trim_done (q := (((X).length : Int) - 1).toNat) oX vX (by first | (left; omega) | (right; exact ⟨by omega, by omega⟩))]; rfl)⟩)
theorem f58 (neg : Bool) (L : List Int) (hL : L.length ≤ 1000000000) (oL : ok32 L) : VF Try.prog 58 [boolB (neg), u32S (L)] (zR (sg neg (val L))) := by
  refine VF_of P_mixed Try.func58 rfl rfl (by kernel_rfl) ?_
  refine VCode.seq ?_
  refine VCode.region ?_
  refine VList.go1 (n' := 1) rfl rfl (.alloc _ _ P_zero24 (List.cons_ne_nil _ _)) rfl ?_
  refine VList.go0 (n' := 2) rfl rfl (.assign _ _ rfl) rfl ?_
  refine VList.nil (Then.go ?_)
  refine VCode.seq ?_
  refine VCode.region ?_
  refine VList.go0 (n' := 3) rfl rfl (.move _ _ rfl) rfl ?_
  refine VList.go0 (n' := 4) rfl rfl (Eff.callV0 rfl (ress_cons rfl ress_nil) (f66 _ (by first | omega | (simp; done) | (simp; omega)) (oL)) rfl) rfl ?_
  refine VList.go0 (n' := 5) rfl rfl (.assign _ _ rfl) rfl ?_
  refine VList.nil (Then.go ?_)
  refine VCode.seq ?_
  refine VCode.seq ?_
  have hv := val_nonneg oL
  refine VCode.region ?_
  refine VList.go0 (n' := 6) rfl rfl (.move _ _ rfl) rfl ?_
  refine VList.go0 (n' := 7) rfl rfl (Eff.lenS rfl Try.underlying22) rfl ?_
  refine VList.go0 (n' := 8) rfl rfl (.bin _ _ _ _ _ _ _ _ rfl rfl rfl) rfl ?_
  refine VList.nil (Then.go ?_)
  refine VCode.cond _ rfl (fun hc1 => ?_) (fun hc1 => ?_)
  · replace hc1 := of_decide_eq_true hc1
    refine VCode.seq ?_
    refine VCode.region ?_
    refine VList.go0 (n' := 9) rfl rfl Eff.int0 rfl ?_
    refine VList.goS (n' := 10) rfl rfl (.store _ _ _ _ _ _ _ rfl rfl rfl rfl P_sz24 (Nat.le_of_ble_eq_true rfl) rfl) rfl ?_
    refine VList.go0 (n' := 11) rfl rfl (.assign _ _ rfl) rfl ?_
    refine VList.nil (Then.go ?_)
    exact VCode.ret (Then.ret (⟨trivial, [.agg [boolB (false), u32S ([])], numB .i64 (2)], (resVars_cons (resVar_cell rfl rfl P_agg24 P_sz24 (Nat.le_of_ble_eq_true rfl) rfl) (resVars_cons (resVar_tmp rfl rfl) resVars_nil)), (by obtain ⟨r1, r2, r3⟩ := res_big (neg := neg) hv hc1; rw [zR, r1, r2, r3]; rfl)⟩))
  · replace hc1 := of_decide_eq_false hc1
    refine VCode.skip (Then.go ?_)
    refine VCode.seq ?_
    refine VCode.region ?_
    refine VList.go0 (n' := 9) rfl rfl (.move _ _ rfl) rfl ?_
    refine VList.go0 (n' := 10) rfl rfl (.move _ _ rfl) rfl ?_
    refine VList.split (d := 13) _ rfl (fun hc2 => ?_) (fun hc2 => ?_)
    · (try simp at hc2)
      refine VList.go0 (n' := 11) rfl rfl (.move _ _ rfl) rfl ?_
      refine VList.go0 (n' := 12) rfl rfl (Eff.lenS rfl Try.underlying22) rfl ?_
      refine VList.go0 (n' := 13) rfl rfl (.bin _ _ _ _ _ _ _ _ rfl rfl rfl) rfl ?_
      refine VList.go0 (n' := 14) rfl rfl (.pick _ _ _ _ _ rfl rfl) rfl ?_
      refine VList.go1 (n' := 15) rfl rfl (Eff.lits0 Try.underlying22 P_zero51 P_sz51) rfl ?_
      refine VList.go0 (n' := 16) rfl rfl (.move _ _ rfl) rfl ?_
      refine VList.goN (n' := 17) rfl rfl (Eff.appendRow rfl rfl (by first | omega | (simp; done) | (simp; omega)) rfl rfl (show _ ∉ ([] : List Nat) from List.not_mem_nil) Try.underlying22 P_sz51 P_bytes51 P_zero51 (by first | omega | (simp; done) | (simp; omega))) rfl ?_
      refine VList.go0 (n' := 18) rfl rfl (Eff.int2 rfl rfl rfl rfl) rfl ?_
      refine VList.goS (n' := 19) rfl rfl (.store _ _ _ _ _ _ _ rfl rfl rfl rfl P_sz24 (Nat.le_of_ble_eq_true rfl) rfl) rfl ?_
      refine VList.go0 (n' := 20) rfl rfl (.assign _ _ rfl) rfl ?_
      refine VList.nil (Then.go ?_)
      exact VCode.ret (⟨trivial, [.agg [boolB (decide (((dg (val (L))).length : Int) > 0)), u32S (([]) ++ (dg (val (L))))], numB .i64 (0)], (resVars_cons (resVar_cell rfl rfl P_agg24 P_sz24 (Nat.le_of_ble_eq_true rfl) (res_agg rfl (by simp))) (resVars_cons (resVar_tmp rfl rfl) resVars_nil)), (by obtain ⟨r1, r2, r3⟩ := res_small (neg := neg) hv hc1; rw [zR, r1, r2, r3, hc2, Bool.true_and]; rfl)⟩)
    · (try simp at hc2)
      refine VList.skip (n' := 11) rfl rfl rfl ?_
      refine VList.skip (n' := 12) rfl rfl rfl ?_
      refine VList.skip (n' := 13) rfl rfl rfl ?_
      refine VList.go0 (n' := 14) rfl rfl (.pick _ _ _ _ _ rfl rfl) rfl ?_
      refine VList.go1 (n' := 15) rfl rfl (Eff.lits0 Try.underlying22 P_zero51 P_sz51) rfl ?_
      refine VList.go0 (n' := 16) rfl rfl (.move _ _ rfl) rfl ?_
      refine VList.goN (n' := 17) rfl rfl (Eff.appendRow rfl rfl (by first | omega | (simp; done) | (simp; omega)) rfl rfl (show _ ∉ ([] : List Nat) from List.not_mem_nil) Try.underlying22 P_sz51 P_bytes51 P_zero51 (by first | omega | (simp; done) | (simp; omega))) rfl ?_
      refine VList.go0 (n' := 18) rfl rfl (Eff.int2 rfl rfl rfl rfl) rfl ?_
      refine VList.goS (n' := 19) rfl rfl (.store _ _ _ _ _ _ _ rfl rfl rfl rfl P_sz24 (Nat.le_of_ble_eq_true rfl) rfl) rfl ?_
      refine VList.go0 (n' := 20) rfl rfl (.assign _ _ rfl) rfl ?_
      refine VList.nil (Then.go ?_)
      exact VCode.ret (⟨trivial, [.agg [boolB (false), u32S (([]) ++ (dg (val (L))))], numB .i64 (0)], (resVars_cons (resVar_cell rfl rfl P_agg24 P_sz24 (Nat.le_of_ble_eq_true rfl) (res_agg rfl (by simp))) (resVars_cons (resVar_tmp rfl rfl) resVars_nil)), (by obtain ⟨r1, r2, r3⟩ := res_small (neg := neg) hv hc1; rw [zR, r1, r2, r3, hc2, Bool.false_and]; rfl)⟩)
theorem f72 (A B : List Int) (hA : A.length ≤ 900000000) (hB : B.length ≤ 900000000) (oA : ok32 A) (oB : ok32 B) (hn : A.length ≠ B.length → cmp3 (val A) (val B) = if A.length < B.length then -1 else 1) : VF Try.prog 72 [u32S (A), u32S (B)] (numB .i64 (cmp3 (val A) (val B))) := by
  refine VF_of P_mixed Try.func72 rfl rfl (by kernel_rfl) ?_
  refine VCode.seq ?_
  refine VCode.region ?_
  refine VList.go0 (n' := 1) rfl rfl (.assign _ _ rfl) rfl ?_
  refine VList.nil (Then.go ?_)
  refine VCode.seq ?_
  refine VCode.seq ?_
  refine VCode.region ?_
  refine VList.go0 (n' := 2) rfl rfl (.move _ _ rfl) rfl ?_
  refine VList.go0 (n' := 3) rfl rfl (Eff.lenS rfl Try.underlying22) rfl ?_
  refine VList.go0 (n' := 4) rfl rfl (.move _ _ rfl) rfl ?_
  refine VList.go0 (n' := 5) rfl rfl (Eff.lenS rfl Try.underlying22) rfl ?_
  refine VList.go0 (n' := 6) rfl rfl (.bin _ _ _ _ _ _ _ _ rfl rfl rfl) rfl ?_
  refine VList.nil (Then.go ?_)
  refine VCode.cond _ rfl (fun hc1 => ?_) (fun hc1 => ?_)
  · replace hc1 := bne_iff_ne.1 hc1
    refine VCode.seq ?_
    refine VCode.seq ?_
    refine VCode.region ?_
    refine VList.go0 (n' := 7) rfl rfl (.move _ _ rfl) rfl ?_
    refine VList.go0 (n' := 8) rfl rfl (Eff.lenS rfl Try.underlying22) rfl ?_
    refine VList.go0 (n' := 9) rfl rfl (.move _ _ rfl) rfl ?_
    refine VList.go0 (n' := 10) rfl rfl (Eff.lenS rfl Try.underlying22) rfl ?_
    refine VList.go0 (n' := 11) rfl rfl (.bin _ _ _ _ _ _ _ _ rfl rfl rfl) rfl ?_
    refine VList.nil (Then.go ?_)
    refine VCode.cond _ rfl (fun hc2 => ?_) (fun hc2 => ?_)
    · replace hc2 := of_decide_eq_true hc2
      refine VCode.seq ?_
      refine VCode.region ?_
      refine VList.go0 (n' := 12) rfl rfl (.assign _ _ rfl) rfl ?_
      refine VList.nil (Then.go ?_)
      exact VCode.ret (Then.ret (Then.ret (⟨trivial, [numB .i64 ((-1))], (resVars_cons (resVar_tmp rfl rfl) resVars_nil), (by rw [hn (by omega), if_pos (by omega)]; rfl)⟩)))
    · replace hc2 := of_decide_eq_false hc2
      refine VCode.skip (Then.go ?_)
      refine VCode.seq ?_
      refine VCode.region ?_
      refine VList.go0 (n' := 12) rfl rfl (.assign _ _ rfl) rfl ?_
      refine VList.nil (Then.go ?_)
      exact VCode.ret (Then.ret (⟨trivial, [numB .i64 (1)], (resVars_cons (resVar_tmp rfl rfl) resVars_nil), (by rw [hn (by omega), if_neg (by omega)]; rfl)⟩))
  · replace hc1 := bne_eq_false_iff_eq.1 hc1
    refine VCode.skip (Then.go ?_)
    refine VCode.seq ?_
    refine VCode.seq ?_
    refine VCode.region ?_
    refine VList.go0 (n' := 7) rfl rfl (.move _ _ rfl) rfl ?_
    refine VList.go0 (n' := 8) rfl rfl (Eff.lenS rfl Try.underlying22) rfl ?_
    refine VList.go0 (n' := 9) rfl rfl (.bin _ _ _ _ _ _ _ _ rfl rfl (bop_sub_i64 (by first | omega | (simp; done) | (simp; omega)))) rfl ?_
    refine VList.go0 (n' := 10) rfl rfl (.assign _ _ rfl) rfl ?_
    refine VList.nil (Then.go ?_)
    refine VCode.block ?_
    refine VCode.loop (α := (Int)) (fun (q : (Int)) => (0, sl [(0, vS (A)), (1, vS (B)), (5, vI .i64 (q))], en [])) (fun (q : (Int)) => CmpInv A B ((A.length : Int) - 1 - q).toNat ∧ -1 ≤ q ∧ q < A.length) (fun (q : (Int)) => (q + 1).toNat) (((A).length : Int) - 1) ⟨by rw [show ((A.length : Int) - 1 - (((A).length : Int) - 1)).toNat = 0 by omega]; exact CmpInv.start (by omega), by omega, by omega⟩ (Weak.of (show 0 ≤ 0 by decide) ⟨⟨rfl, rfl⟩, ⟨⟨rfl, rfl⟩, ⟨⟨rfl, rfl⟩, trivial⟩⟩⟩ trivial) ?_
    intro q hok
    obtain ⟨hC, hq1, hq2⟩ := hok
    have hlen := hC.len
    show VCode Try.prog 0 _ 0 (sl [(0, vS (A)), (1, vS (B)), (5, vI .i64 (q))]) (en []) _
    refine VCode.seq ?_
    refine VCode.seq ?_
    refine VCode.region ?_
    refine VList.go0 (n' := 1) rfl rfl (.move _ _ rfl) rfl ?_
    refine VList.go0 (n' := 2) rfl rfl (.bin _ _ _ _ _ _ _ _ rfl rfl rfl) rfl ?_
    refine VList.nil (Then.go ?_)
    refine VCode.cond _ rfl (fun hc3 => ?_) (fun hc3 => ?_)
    · replace hc3 := of_decide_eq_true hc3
      refine VCode.skip (Then.go ?_)
      refine VCode.seq ?_
      refine VCode.block ?_
      refine VCode.seq ?_
      refine VCode.seq ?_
      refine VCode.draw (by kernel_rfl) ?_
      refine VLog.go0 (n' := 3) rfl rfl (.move _ _ rfl) rfl ?_
      refine VLog.go0 (n' := 4) rfl rfl (.move _ _ rfl) rfl ?_
      refine VLog.go0 (n' := 5) rfl rfl (Eff.indexRd rfl rfl Try.underlying22 P_sz51 (by first | omega | (simp; done) | (simp; omega)) (by first | omega | (simp; done) | (simp; omega))) rfl ?_
      refine VLog.go0 (n' := 6) rfl rfl (.loadRd1 _ _ _ _ rfl P_agg51 rfl) rfl ?_
      refine VLog.go0 (n' := 7) rfl rfl (.move _ _ rfl) rfl ?_
      refine VLog.go0 (n' := 8) rfl rfl (.move _ _ rfl) rfl ?_
      refine VLog.go0 (n' := 9) rfl rfl (Eff.indexRd rfl rfl Try.underlying22 P_sz51 (by first | omega | (simp; done) | (simp; omega)) (by first | omega | (simp; done) | (simp; omega))) rfl ?_
      refine VLog.go0 (n' := 10) rfl rfl (.loadRd1 _ _ _ _ rfl P_agg51 rfl) rfl ?_
      refine VLog.go0 (n' := 11) rfl rfl (.bin _ _ _ _ _ _ _ _ rfl rfl rfl) rfl ?_
      refine VLog.nil ⟨by kernel_rfl, Then.go ?_⟩
      refine VCode.cond _ rfl (fun hc4 => ?_) (fun hc4 => ?_)
      · replace hc4 := of_decide_eq_true hc4
        refine VCode.seq ?_
        refine VCode.region ?_
        refine VList.go0 (n' := 12) rfl rfl (.assign _ _ rfl) rfl ?_
        refine VList.nil (Then.go ?_)
        exact VCode.ret (Then.ret (InBlock.ret (Then.ret (Round.ret (InBlock.ret (Then.ret (⟨trivial, [numB .i64 ((-1))], (resVars_cons (resVar_tmp rfl rfl) resVars_nil), (by rw [hC.diff (q := q.toNat) oA oB (by omega) (by omega), if_pos (by omega)]; rfl)⟩)))))))
      · replace hc4 := of_decide_eq_false hc4
        refine VCode.skip (Then.go ?_)
        refine VCode.seq ?_
        refine VCode.draw (by kernel_rfl) ?_
        refine VLog.go0 (n' := 12) rfl rfl (.move _ _ rfl) rfl ?_
        refine VLog.go0 (n' := 13) rfl rfl (.move _ _ rfl) rfl ?_
        refine VLog.go0 (n' := 14) rfl rfl (Eff.indexRd rfl rfl Try.underlying22 P_sz51 (by first | omega | (simp; done) | (simp; omega)) (by first | omega | (simp; done) | (simp; omega))) rfl ?_
        refine VLog.go0 (n' := 15) rfl rfl (.loadRd1 _ _ _ _ rfl P_agg51 rfl) rfl ?_
        refine VLog.go0 (n' := 16) rfl rfl (.move _ _ rfl) rfl ?_
        refine VLog.go0 (n' := 17) rfl rfl (.move _ _ rfl) rfl ?_
        refine VLog.go0 (n' := 18) rfl rfl (Eff.indexRd rfl rfl Try.underlying22 P_sz51 (by first | omega | (simp; done) | (simp; omega)) (by first | omega | (simp; done) | (simp; omega))) rfl ?_
        refine VLog.go0 (n' := 19) rfl rfl (.loadRd1 _ _ _ _ rfl P_agg51 rfl) rfl ?_
        refine VLog.go0 (n' := 20) rfl rfl (.bin _ _ _ _ _ _ _ _ rfl rfl rfl) rfl ?_
        refine VLog.nil ⟨by kernel_rfl, Then.go ?_⟩
        refine VCode.cond _ rfl (fun hc5 => ?_) (fun hc5 => ?_)
        · replace hc5 := of_decide_eq_true hc5
          refine VCode.seq ?_
          refine VCode.region ?_
          refine VList.go0 (n' := 21) rfl rfl (.assign _ _ rfl) rfl ?_
          refine VList.nil (Then.go ?_)
          exact VCode.ret (InBlock.ret (Then.ret (Round.ret (InBlock.ret (Then.ret (⟨trivial, [numB .i64 (1)], (resVars_cons (resVar_tmp rfl rfl) resVars_nil), (by rw [hC.diff (q := q.toNat) oA oB (by omega) (by omega), if_neg (by omega)]; rfl)⟩))))))
        · replace hc5 := of_decide_eq_false hc5
          refine VCode.skip (InBlock.go (Then.go ?_))
          refine VCode.region ?_
          refine VList.go0 (n' := 21) rfl rfl (.move _ _ rfl) rfl ?_
          refine VList.go0 (n' := 22) rfl rfl (.bin _ _ _ _ _ _ _ _ rfl rfl (bop_sub_i64 (by first | omega | (simp; done) | (simp; omega)))) rfl ?_
          refine VList.go0 (n' := 23) rfl rfl (.assign _ _ rfl) rfl ?_
          exact VList.nil (Round.go (q - 1) ⟨by rw [show ((A.length : Int) - 1 - (q - 1)).toNat = ((A.length : Int) - 1 - q).toNat + 1 by omega]; exact hC.step (q := q.toNat) (by omega) (by omega), by omega, by omega⟩ (by first | (dsimp only; omega) | omega) (Weak.of (show 0 ≤ 0 by decide) ⟨⟨rfl, rfl⟩, ⟨⟨rfl, rfl⟩, ⟨⟨rfl, rfl⟩, trivial⟩⟩⟩ trivial))
    · replace hc3 := of_decide_eq_false hc3
      refine VCode.exit (Then.exit (Round.exit (InBlock.here (Then.go ?_))))
      refine VCode.seq ?_
      refine VCode.region ?_
      refine VList.go0 (n' := 3) rfl rfl (.assign _ _ rfl) rfl ?_
      refine VList.nil (Then.go ?_)
      exact VCode.ret (⟨trivial, [numB .i64 (0)], (resVars_cons (resVar_tmp rfl rfl) resVars_nil), (by rw [hC.fin (by omega)]; rfl)⟩)
theorem f56 (A B : List Int) (hA : A.length ≤ 900000000) (hB : B.length ≤ 900000000) (oA : ok32 A) (oB : ok32 B) : VF Try.prog 56 [u32S (A), u32S (B)] (u32S (dg (val A + val B))) := by
  refine VF_of P_mixed Try.func56 rfl rfl (by kernel_rfl) ?_
  refine VCode.seq ?_
  refine VCode.region ?_
  refine VList.go0 (n' := 1) rfl rfl (.assign _ _ rfl) rfl ?_
  refine VList.nil (Then.go ?_)
  refine VCode.seq ?_
  have hM : ((A).length : Int) ≤ (if ((B).length : Int) > ((A).length : Int) then ((B).length : Int) else ((A).length : Int)) ∧ ((B).length : Int) ≤ (if ((B).length : Int) > ((A).length : Int) then ((B).length : Int) else ((A).length : Int)) ∧ (if ((B).length : Int) > ((A).length : Int) then ((B).length : Int) else ((A).length : Int)) ≤ 900000000 := by split <;> omega
  refine VCode.region ?_
  refine VList.go0 (n' := 2) rfl rfl (.move _ _ rfl) rfl ?_
  refine VList.go0 (n' := 3) rfl rfl (Eff.lenS rfl Try.underlying22) rfl ?_
  refine VList.go0 (n' := 4) rfl rfl (.move _ _ rfl) rfl ?_
  refine VList.go0 (n' := 5) rfl rfl (Eff.lenS rfl Try.underlying22) rfl ?_
  refine VList.go0 (n' := 6) rfl rfl (.max _ _ _ _ _ _ rfl rfl) rfl ?_
  refine VList.go0 (n' := 7) rfl rfl (.bin _ _ _ _ _ _ _ _ rfl rfl (bop_add_i64 (by first | omega | (simp; done) | (simp; omega)))) rfl ?_
  refine VList.go1 (n' := 8) rfl rfl (Eff.makeRow rfl Try.underlying22 P_zero51 P_sz51 P_bytes51 (by first | omega | (simp; done) | (simp; omega)) (by first | omega | (simp; done) | (simp; omega))) rfl ?_
  refine VList.go0 (n' := 9) rfl rfl (.assign _ _ rfl) rfl ?_
  refine VList.nil (Then.go ?_)
  refine VCode.seq ?_
  refine VCode.region ?_
  refine VList.go0 (n' := 10) rfl rfl (.assign _ _ rfl) rfl ?_
  refine VList.nil (Then.go ?_)
  refine VCode.seq ?_
  refine VCode.seq ?_
  refine VCode.region ?_
  refine VList.go0 (n' := 11) rfl rfl (.assign _ _ rfl) rfl ?_
  refine VList.nil (Then.go ?_)
  refine VCode.block ?_
  refine VCode.loop (α := (Nat) × (Int) × (List Int) × (Nat)) (fun (x_ : (Nat) × (Int) × (List Int) × (Nat)) => match x_ with | (n, c, O, m) => (91, sl [(0, vS (A)), (1, vS (B)), (5, .own 90 (m)), (6, vI .u64 (c)), (7, vI .i64 ((n : Int)))], en [(90, row (O))])) (fun (x_ : (Nat) × (Int) × (List Int) × (Nat)) => match x_ with | (n, c, O, m) => PlusInv A B O n c ∧ O.length = m ∧ m ≤ 900000001) (fun (x_ : (Nat) × (Int) × (List Int) × (Nat)) => match x_ with | (n, c, O, m) => m - n) (0, 0, List.replicate ((if ((B).length : Int) > ((A).length : Int) then ((B).length : Int) else ((A).length : Int)) + 1).toNat 0, ((if ((B).length : Int) > ((A).length : Int) then ((B).length : Int) else ((A).length : Int)) + 1).toNat) ⟨PlusInv.start (by simp; omega) (by simp; omega), by simp, by omega⟩ (Weak.ofR (fun i_ => match i_ with | 90 => 7 | i_ => i_) (show 0 ≤ 91 by decide) rfl rfl ⟨⟨rfl, rfl⟩, ⟨⟨rfl, rfl⟩, ⟨⟨rfl, rfl⟩, ⟨⟨rfl, rfl⟩, ⟨⟨rfl, rfl⟩, trivial⟩⟩⟩⟩⟩ ⟨⟨(by rw [row_ren]; rfl), (show 90 < 91 by decide), row_cells⟩, trivial⟩) ?_
  rintro ⟨n, c, O, m⟩ hok0
  obtain ⟨hok, hm, hm9⟩ := hok0
  show VCode Try.prog 0 _ 91 (sl [(0, vS (A)), (1, vS (B)), (5, .own 90 (m)), (6, vI .u64 (c)), (7, vI .i64 ((n : Int)))]) (en [(90, row (O))]) _
  refine VCode.seq ?_
  refine VCode.seq ?_
  refine VCode.region ?_
  refine VList.go0 (n' := 92) rfl rfl (.move _ _ rfl) rfl ?_
  refine VList.go0 (n' := 93) rfl rfl (.move _ _ rfl) rfl ?_
  refine VList.go0 (n' := 94) rfl rfl (Eff.lenO rfl Try.underlying22) rfl ?_
  refine VList.go0 (n' := 95) rfl rfl (.bin _ _ _ _ _ _ _ _ rfl rfl rfl) rfl ?_
  refine VList.nil (Then.go ?_)
  refine VCode.cond _ rfl (fun hc1 => ?_) (fun hc1 => ?_)
  · replace hc1 := of_decide_eq_true hc1
    refine VCode.skip (Then.go ?_)
    refine VCode.seq ?_
    refine VCode.block ?_
    refine VCode.seq ?_
    have hx := ok32_getD oA n
    have hy := ok32_getD oB n
    have h0 := hok.c0
    have h1 := hok.c1
    refine VCode.region ?_
    refine VList.go0 (n' := 96) rfl rfl (.move _ _ rfl) rfl ?_
    refine VList.go0 (n' := 97) rfl rfl (.assign _ _ rfl) rfl ?_
    refine VList.nil (Then.go ?_)
    refine VCode.join (α := (Int)) (fun (s : (Int)) => (91, sl [(0, vS (A)), (1, vS (B)), (5, .own 90 (m)), (7, vI .i64 ((n : Int))), (8, vI .u64 (s))], en [(90, row (O))])) (fun (s : (Int)) => s = c + A.getD n 0) ?_ ?_
    · skip
      refine VCode.seq ?_
      refine VCode.region ?_
      refine VList.go0 (n' := 98) rfl rfl (.move _ _ rfl) rfl ?_
      refine VList.go0 (n' := 99) rfl rfl (.move _ _ rfl) rfl ?_
      refine VList.go0 (n' := 100) rfl rfl (Eff.lenS rfl Try.underlying22) rfl ?_
      refine VList.go0 (n' := 101) rfl rfl (.bin _ _ _ _ _ _ _ _ rfl rfl rfl) rfl ?_
      refine VList.nil (Then.go ?_)
      refine VCode.cond _ rfl (fun hc2 => ?_) (fun hc2 => ?_)
      · replace hc2 := of_decide_eq_true hc2
        refine VCode.region ?_
        refine VList.go0 (n' := 102) rfl rfl (.move _ _ rfl) rfl ?_
        refine VList.go0 (n' := 103) rfl rfl (.move _ _ rfl) rfl ?_
        refine VList.go0 (n' := 104) rfl rfl (.move _ _ rfl) rfl ?_
        refine VList.go0 (n' := 105) rfl rfl (Eff.indexRdN rfl rfl Try.underlying22 P_sz51 (by first | omega | (simp; done) | (simp; omega))) rfl ?_
        refine VList.go0 (n' := 106) rfl rfl (.loadRd1 _ _ _ _ rfl P_agg51 rfl) rfl ?_
        refine VList.go0 (n' := 107) rfl rfl (Eff.convN_u64 rfl Try.underlying51 Try.underlying62 (by first | omega | (simp; done) | (simp; omega))) rfl ?_
        refine VList.go0 (n' := 108) rfl rfl (.bin _ _ _ _ _ _ _ _ rfl rfl (bop_add_u64 (by first | omega | (simp; done) | (simp; omega)))) rfl ?_
        refine VList.go0 (n' := 109) rfl rfl (.assign _ _ rfl) rfl ?_
        exact VList.nil (Joins.go ((c + (A).getD (n) 0)) rfl (Weak.of (show 0 ≤ 91 by decide) ⟨⟨rfl, rfl⟩, ⟨⟨rfl, rfl⟩, ⟨⟨rfl, rfl⟩, ⟨⟨rfl, rfl⟩, ⟨⟨rfl, rfl⟩, trivial⟩⟩⟩⟩⟩ ⟨⟨rfl, (show 90 < 91 by decide), row_cells⟩, trivial⟩))
      · replace hc2 := of_decide_eq_false hc2
        exact VCode.skip (Joins.go (c) (by rw [getD_out (L := A) (by omega)]; omega) (Weak.of (show 0 ≤ 91 by decide) ⟨⟨rfl, rfl⟩, ⟨⟨rfl, rfl⟩, ⟨⟨rfl, rfl⟩, ⟨⟨rfl, rfl⟩, ⟨⟨rfl, rfl⟩, trivial⟩⟩⟩⟩⟩ ⟨⟨rfl, (show 90 < 91 by decide), row_cells⟩, trivial⟩))
    · intro s hs
      show VCode Try.prog 0 _ 91 (sl [(0, vS (A)), (1, vS (B)), (5, .own 90 (m)), (7, vI .i64 ((n : Int))), (8, vI .u64 (s))]) (en [(90, row (O))]) _
      refine VCode.join (α := (Int)) (fun (t : (Int)) => (91, sl [(0, vS (A)), (1, vS (B)), (5, .own 90 (m)), (7, vI .i64 ((n : Int))), (8, vI .u64 (t))], en [(90, row (O))])) (fun (t : (Int)) => t = c + A.getD n 0 + B.getD n 0) ?_ ?_
      · skip
        refine VCode.seq ?_
        refine VCode.region ?_
        refine VList.go0 (n' := 92) rfl rfl (.move _ _ rfl) rfl ?_
        refine VList.go0 (n' := 93) rfl rfl (.move _ _ rfl) rfl ?_
        refine VList.go0 (n' := 94) rfl rfl (Eff.lenS rfl Try.underlying22) rfl ?_
        refine VList.go0 (n' := 95) rfl rfl (.bin _ _ _ _ _ _ _ _ rfl rfl rfl) rfl ?_
        refine VList.nil (Then.go ?_)
        refine VCode.cond _ rfl (fun hc3 => ?_) (fun hc3 => ?_)
        · replace hc3 := of_decide_eq_true hc3
          refine VCode.region ?_
          refine VList.go0 (n' := 96) rfl rfl (.move _ _ rfl) rfl ?_
          refine VList.go0 (n' := 97) rfl rfl (.move _ _ rfl) rfl ?_
          refine VList.go0 (n' := 98) rfl rfl (.move _ _ rfl) rfl ?_
          refine VList.go0 (n' := 99) rfl rfl (Eff.indexRdN rfl rfl Try.underlying22 P_sz51 (by first | omega | (simp; done) | (simp; omega))) rfl ?_
          refine VList.go0 (n' := 100) rfl rfl (.loadRd1 _ _ _ _ rfl P_agg51 rfl) rfl ?_
          refine VList.go0 (n' := 101) rfl rfl (Eff.convN_u64 rfl Try.underlying51 Try.underlying62 (by first | omega | (simp; done) | (simp; omega))) rfl ?_
          refine VList.go0 (n' := 102) rfl rfl (.bin _ _ _ _ _ _ _ _ rfl rfl (bop_add_u64 (by first | omega | (simp; done) | (simp; omega)))) rfl ?_
          refine VList.go0 (n' := 103) rfl rfl (.assign _ _ rfl) rfl ?_
          exact VList.nil (Joins.go ((s + (B).getD (n) 0)) (by omega) (Weak.of (show 0 ≤ 91 by decide) ⟨⟨rfl, rfl⟩, ⟨⟨rfl, rfl⟩, ⟨⟨rfl, rfl⟩, ⟨⟨rfl, rfl⟩, ⟨⟨rfl, rfl⟩, trivial⟩⟩⟩⟩⟩ ⟨⟨rfl, (show 90 < 91 by decide), row_cells⟩, trivial⟩))
        · replace hc3 := of_decide_eq_false hc3
          exact VCode.skip (Joins.go (s) (by rw [getD_out (L := B) (by omega)]; omega) (Weak.of (show 0 ≤ 91 by decide) ⟨⟨rfl, rfl⟩, ⟨⟨rfl, rfl⟩, ⟨⟨rfl, rfl⟩, ⟨⟨rfl, rfl⟩, ⟨⟨rfl, rfl⟩, trivial⟩⟩⟩⟩⟩ ⟨⟨rfl, (show 90 < 91 by decide), row_cells⟩, trivial⟩))
      · intro t ht
        show VCode Try.prog 0 _ 91 (sl [(0, vS (A)), (1, vS (B)), (5, .own 90 (m)), (7, vI .i64 ((n : Int))), (8, vI .u64 (t))]) (en [(90, row (O))]) _
        refine VCode.seq ?_
        refine VCode.region ?_
        refine VList.go0 (n' := 92) rfl rfl (.move _ _ rfl) rfl ?_
        refine VList.go0 (n' := 93) rfl rfl (.move _ _ rfl) rfl ?_
        refine VList.go0 (n' := 94) rfl rfl (.move _ _ rfl) rfl ?_
        refine VList.go0 (n' := 95) rfl rfl (Eff.convM_u32 rfl Try.underlying62 Try.underlying51) rfl ?_
        refine VList.go0 (n' := 96) rfl rfl (Eff.indexRowN rfl rfl Try.underlying22 P_sz51 (by first | omega | (simp; done) | (simp; omega))) rfl ?_
        refine VList.goS (n' := 97) rfl rfl (Eff.store32 rfl rfl rfl P_sz51 (by first | omega | (simp; done) | (simp; omega))) rfl ?_
        refine VList.nil (Then.go ?_)
        refine VCode.region ?_
        refine VList.go0 (n' := 98) rfl rfl (.move _ _ rfl) rfl ?_
        refine VList.go0 (n' := 99) rfl rfl (.bin _ _ _ _ _ _ _ _ rfl rfl (bop_quo_u64 (by first | omega | (simp; done) | (simp; omega)) (by first | omega | (simp; done) | (simp; omega)) (by first | omega | (simp; done) | (simp; omega)))) rfl ?_
        refine VList.go0 (n' := 100) rfl rfl (.assign _ _ rfl) rfl ?_
        refine VList.nil (InBlock.go (Then.go ?_))
        refine VCode.region ?_
        refine VList.go0 (n' := 101) rfl rfl (.move _ _ rfl) rfl ?_
        refine VList.go0 (n' := 102) rfl rfl (.bin _ _ _ _ _ _ _ _ rfl rfl (bop_add_i64 (by first | omega | (simp; done) | (simp; omega)))) rfl ?_
        refine VList.go0 (n' := 103) rfl rfl (.assign _ _ rfl) rfl ?_
        exact VList.nil (Round.go (n + 1, t / 4294967296, (O).set ((n)) (((t) % 4294967296)), m) ⟨hok.step oA oB (by omega) (by omega), by simp [hm], hm9⟩ (by first | (dsimp only; omega) | omega) (Weak.of (show 0 ≤ 91 by decide) ⟨⟨rfl, rfl⟩, ⟨⟨rfl, rfl⟩, ⟨⟨rfl, rfl⟩, ⟨⟨rfl, rfl⟩, ⟨⟨rfl, rfl⟩, trivial⟩⟩⟩⟩⟩ ⟨⟨rfl, (show 90 < 91 by decide), row_cells⟩, trivial⟩))
  · replace hc1 := of_decide_eq_false hc1
    refine VCode.exit (Then.exit (Round.exit (InBlock.here (Then.go ?_))))
    refine VCode.seq ?_
    obtain ⟨e1, e2⟩ := hok.fin oA oB (by omega)
    have hle := hok.le
    refine VCode.region ?_
    refine VList.go0 (n' := 96) rfl rfl (.move _ _ rfl) rfl ?_
    refine VList.goN (n' := 97) rfl rfl (.callV _ _ _ _ _ _ rfl (ress_cons (res_row rfl (by first | omega | (simp; done) | (simp; omega) | (simp [*]; done) | (simp [*]; omega))) ress_nil) (f66 _ (by first | omega | (simp; done) | (simp; omega)) (e2))) rfl ?_
    refine VList.go0 (n' := 98) rfl rfl (.assign _ _ rfl) rfl ?_
    refine VList.nil (Then.go ?_)
    exact VCode.ret (⟨trivial, [u32S (dg (val (O)))], (resVars_cons (resVar_tmp rfl rfl) resVars_nil), (by rw [e1]; rfl)⟩)
theorem f57 (A B : List Int) (hA : A.length ≤ 900000000) (hB : B.length ≤ 900000000) (oA : ok32 A) (oB : ok32 B) (hl : B.length ≤ A.length) (hv : val B ≤ val A) : VF Try.prog 57 [u32S (A), u32S (B)] (u32S (dg (val A - val B))) := by
  refine VF_of P_mixed Try.func57 rfl rfl (by kernel_rfl) ?_
  refine VCode.seq ?_
  refine VCode.region ?_
  refine VList.go0 (n' := 1) rfl rfl (.assign _ _ rfl) rfl ?_
  refine VList.nil (Then.go ?_)
  refine VCode.seq ?_
  refine VCode.region ?_
  refine VList.go0 (n' := 2) rfl rfl (.move _ _ rfl) rfl ?_
  refine VList.go0 (n' := 3) rfl rfl (Eff.lenS rfl Try.underlying22) rfl ?_
  refine VList.go1 (n' := 4) rfl rfl (Eff.makeRow rfl Try.underlying22 P_zero51 P_sz51 P_bytes51 (by first | omega | (simp; done) | (simp; omega)) (by first | omega | (simp; done) | (simp; omega))) rfl ?_
  refine VList.go0 (n' := 5) rfl rfl (.assign _ _ rfl) rfl ?_
  refine VList.nil (Then.go ?_)
  refine VCode.seq ?_
  refine VCode.region ?_
  refine VList.go0 (n' := 6) rfl rfl (.assign _ _ rfl) rfl ?_
  refine VList.nil (Then.go ?_)
  refine VCode.seq ?_
  refine VCode.seq ?_
  refine VCode.region ?_
  refine VList.go0 (n' := 7) rfl rfl (.assign _ _ rfl) rfl ?_
  refine VList.nil (Then.go ?_)
  refine VCode.block ?_
  refine VCode.loop (α := (Nat) × (Int) × (List Int)) (fun (x_ : (Nat) × (Int) × (List Int)) => match x_ with | (n, c, O) => (4, sl [(0, vS (A)), (1, vS (B)), (5, .own 3 ((((A).length : Int)).toNat)), (6, vI .u64 (c)), (7, vI .i64 ((n : Int)))], en [(3, row (O))])) (fun (x_ : (Nat) × (Int) × (List Int)) => match x_ with | (n, c, O) => DiffInv A B O n c) (fun (x_ : (Nat) × (Int) × (List Int)) => match x_ with | (n, c, O) => A.length - n) (0, 0, List.replicate (((A).length : Int)).toNat 0) (DiffInv.start (by simp)) (Weak.of (show 0 ≤ 4 by decide) ⟨⟨rfl, rfl⟩, ⟨⟨rfl, rfl⟩, ⟨⟨rfl, rfl⟩, ⟨⟨rfl, rfl⟩, ⟨⟨rfl, rfl⟩, trivial⟩⟩⟩⟩⟩ ⟨⟨rfl, (show 3 < 4 by decide), row_cells⟩, trivial⟩) ?_
  rintro ⟨n, c, O⟩ hok
  show VCode Try.prog 0 _ 4 (sl [(0, vS (A)), (1, vS (B)), (5, .own 3 ((((A).length : Int)).toNat)), (6, vI .u64 (c)), (7, vI .i64 ((n : Int)))]) (en [(3, row (O))]) _
  refine VCode.seq ?_
  refine VCode.seq ?_
  refine VCode.region ?_
  refine VList.go0 (n' := 5) rfl rfl (.move _ _ rfl) rfl ?_
  refine VList.go0 (n' := 6) rfl rfl (.move _ _ rfl) rfl ?_
  refine VList.go0 (n' := 7) rfl rfl (Eff.lenS rfl Try.underlying22) rfl ?_
  refine VList.go0 (n' := 8) rfl rfl (.bin _ _ _ _ _ _ _ _ rfl rfl rfl) rfl ?_
  refine VList.nil (Then.go ?_)
  refine VCode.cond _ rfl (fun hc1 => ?_) (fun hc1 => ?_)
  · replace hc1 := of_decide_eq_true hc1
    refine VCode.skip (Then.go ?_)
    refine VCode.seq ?_
    refine VCode.block ?_
    refine VCode.seq ?_
    have hx := ok32_getD oA n
    have hy := ok32_getD oB n
    have h0 := hok.c0
    have h1 := hok.c1
    have hO := hok.len
    refine VCode.region ?_
    refine VList.go0 (n' := 9) rfl rfl (.move _ _ rfl) rfl ?_
    refine VList.go0 (n' := 10) rfl rfl (.assign _ _ rfl) rfl ?_
    refine VList.nil (Then.go ?_)
    refine VCode.join (α := (Int)) (fun (s : (Int)) => (4, sl [(0, vS (A)), (1, vS (B)), (5, .own 3 ((((A).length : Int)).toNat)), (7, vI .i64 ((n : Int))), (8, vI .u64 (s))], en [(3, row (O))])) (fun (s : (Int)) => s = c + B.getD n 0) ?_ ?_
    · skip
      refine VCode.seq ?_
      refine VCode.region ?_
      refine VList.go0 (n' := 11) rfl rfl (.move _ _ rfl) rfl ?_
      refine VList.go0 (n' := 12) rfl rfl (.move _ _ rfl) rfl ?_
      refine VList.go0 (n' := 13) rfl rfl (Eff.lenS rfl Try.underlying22) rfl ?_
      refine VList.go0 (n' := 14) rfl rfl (.bin _ _ _ _ _ _ _ _ rfl rfl rfl) rfl ?_
      refine VList.nil (Then.go ?_)
      refine VCode.cond _ rfl (fun hc2 => ?_) (fun hc2 => ?_)
      · replace hc2 := of_decide_eq_true hc2
        refine VCode.region ?_
        refine VList.go0 (n' := 15) rfl rfl (.move _ _ rfl) rfl ?_
        refine VList.go0 (n' := 16) rfl rfl (.move _ _ rfl) rfl ?_
        refine VList.go0 (n' := 17) rfl rfl (.move _ _ rfl) rfl ?_
        refine VList.go0 (n' := 18) rfl rfl (Eff.indexRdN rfl rfl Try.underlying22 P_sz51 (by first | omega | (simp; done) | (simp; omega))) rfl ?_
        refine VList.go0 (n' := 19) rfl rfl (.loadRd1 _ _ _ _ rfl P_agg51 rfl) rfl ?_
        refine VList.go0 (n' := 20) rfl rfl (Eff.convN_u64 rfl Try.underlying51 Try.underlying62 (by first | omega | (simp; done) | (simp; omega))) rfl ?_
        refine VList.go0 (n' := 21) rfl rfl (.bin _ _ _ _ _ _ _ _ rfl rfl (bop_add_u64 (by first | omega | (simp; done) | (simp; omega)))) rfl ?_
        refine VList.go0 (n' := 22) rfl rfl (.assign _ _ rfl) rfl ?_
        exact VList.nil (Joins.go ((c + (B).getD (n) 0)) rfl (Weak.of (show 0 ≤ 4 by decide) ⟨⟨rfl, rfl⟩, ⟨⟨rfl, rfl⟩, ⟨⟨rfl, rfl⟩, ⟨⟨rfl, rfl⟩, ⟨⟨rfl, rfl⟩, trivial⟩⟩⟩⟩⟩ ⟨⟨rfl, (show 3 < 4 by decide), row_cells⟩, trivial⟩))
      · replace hc2 := of_decide_eq_false hc2
        exact VCode.skip (Joins.go (c) (by rw [getD_out (L := B) (by omega)]; omega) (Weak.of (show 0 ≤ 4 by decide) ⟨⟨rfl, rfl⟩, ⟨⟨rfl, rfl⟩, ⟨⟨rfl, rfl⟩, ⟨⟨rfl, rfl⟩, ⟨⟨rfl, rfl⟩, trivial⟩⟩⟩⟩⟩ ⟨⟨rfl, (show 3 < 4 by decide), row_cells⟩, trivial⟩))
    · intro s hs
      show VCode Try.prog 0 _ 4 (sl [(0, vS (A)), (1, vS (B)), (5, .own 3 ((((A).length : Int)).toNat)), (7, vI .i64 ((n : Int))), (8, vI .u64 (s))]) (en [(3, row (O))]) _
      refine VCode.seq ?_
      refine VCode.region ?_
      refine VList.go0 (n' := 5) rfl rfl (.move _ _ rfl) rfl ?_
      refine VList.go0 (n' := 6) rfl rfl (.move _ _ rfl) rfl ?_
      refine VList.go0 (n' := 7) rfl rfl (Eff.indexRdN rfl rfl Try.underlying22 P_sz51 (by first | omega | (simp; done) | (simp; omega))) rfl ?_
      refine VList.go0 (n' := 8) rfl rfl (.loadRd1 _ _ _ _ rfl P_agg51 rfl) rfl ?_
      refine VList.go0 (n' := 9) rfl rfl (Eff.convN_u64 rfl Try.underlying51 Try.underlying62 (by first | omega | (simp; done) | (simp; omega))) rfl ?_
      refine VList.go0 (n' := 10) rfl rfl (.move _ _ rfl) rfl ?_
      refine VList.go0 (n' := 11) rfl rfl (.bin _ _ _ _ _ _ _ _ rfl rfl rfl) rfl ?_
      refine VList.nil (Then.go ?_)
      refine VCode.cond _ rfl (fun hc3 => ?_) (fun hc3 => ?_)
      · replace hc3 := of_decide_eq_true hc3
        refine VCode.seq ?_
        refine VCode.region ?_
        refine VList.go0 (n' := 12) rfl rfl (.move _ _ rfl) rfl ?_
        refine VList.go0 (n' := 13) rfl rfl (.move _ _ rfl) rfl ?_
        refine VList.go0 (n' := 14) rfl rfl (.move _ _ rfl) rfl ?_
        refine VList.go0 (n' := 15) rfl rfl (.move _ _ rfl) rfl ?_
        refine VList.go0 (n' := 16) rfl rfl (Eff.indexRdN rfl rfl Try.underlying22 P_sz51 (by first | omega | (simp; done) | (simp; omega))) rfl ?_
        refine VList.go0 (n' := 17) rfl rfl (.loadRd1 _ _ _ _ rfl P_agg51 rfl) rfl ?_
        refine VList.go0 (n' := 18) rfl rfl (Eff.convN_u64 rfl Try.underlying51 Try.underlying62 (by first | omega | (simp; done) | (simp; omega))) rfl ?_
        refine VList.go0 (n' := 19) rfl rfl (.bin _ _ _ _ _ _ _ _ rfl rfl (bop_add_u64 (by first | omega | (simp; done) | (simp; omega)))) rfl ?_
        refine VList.go0 (n' := 20) rfl rfl (.move _ _ rfl) rfl ?_
        refine VList.go0 (n' := 21) rfl rfl (.bin _ _ _ _ _ _ _ _ rfl rfl (bop_sub_u64 (by first | omega | (simp; done) | (simp; omega)))) rfl ?_
        refine VList.go0 (n' := 22) rfl rfl (Eff.convM_u32 rfl Try.underlying62 Try.underlying51) rfl ?_
        refine VList.go0 (n' := 23) rfl rfl (Eff.indexRowN rfl rfl Try.underlying22 P_sz51 (by first | omega | (simp; done) | (simp; omega))) rfl ?_
        refine VList.goS (n' := 24) rfl rfl (Eff.store32 rfl rfl rfl P_sz51 (by first | omega | (simp; done) | (simp; omega))) rfl ?_
        refine VList.nil (Then.go ?_)
        refine VCode.region ?_
        refine VList.go0 (n' := 25) rfl rfl (.assign _ _ rfl) rfl ?_
        refine VList.nil (InBlock.go (Then.go ?_))
        refine VCode.region ?_
        refine VList.go0 (n' := 26) rfl rfl (.move _ _ rfl) rfl ?_
        refine VList.go0 (n' := 27) rfl rfl (.bin _ _ _ _ _ _ _ _ rfl rfl (bop_add_i64 (by first | omega | (simp; done) | (simp; omega)))) rfl ?_
        refine VList.go0 (n' := 28) rfl rfl (.assign _ _ rfl) rfl ?_
        exact VList.nil (Round.go (n + 1, 1, (O).set ((n)) ((((((A).getD (n) 0 + 4294967296) - s)) % 4294967296))) (hok.step2 oA oB (by omega) hs (by first | (left; exact ⟨by omega, rfl, rfl⟩) | (right; exact ⟨by omega, rfl, rfl⟩))) (by first | (dsimp only; omega) | omega) (Weak.of (show 0 ≤ 4 by decide) ⟨⟨rfl, rfl⟩, ⟨⟨rfl, rfl⟩, ⟨⟨rfl, rfl⟩, ⟨⟨rfl, rfl⟩, ⟨⟨rfl, rfl⟩, trivial⟩⟩⟩⟩⟩ ⟨⟨rfl, (show 3 < 4 by decide), row_cells⟩, trivial⟩))
      · replace hc3 := of_decide_eq_false hc3
        refine VCode.seq ?_
        refine VCode.region ?_
        refine VList.go0 (n' := 12) rfl rfl (.move _ _ rfl) rfl ?_
        refine VList.go0 (n' := 13) rfl rfl (.move _ _ rfl) rfl ?_
        refine VList.go0 (n' := 14) rfl rfl (.move _ _ rfl) rfl ?_
        refine VList.go0 (n' := 15) rfl rfl (.move _ _ rfl) rfl ?_
        refine VList.go0 (n' := 16) rfl rfl (Eff.indexRdN rfl rfl Try.underlying22 P_sz51 (by first | omega | (simp; done) | (simp; omega))) rfl ?_
        refine VList.go0 (n' := 17) rfl rfl (.loadRd1 _ _ _ _ rfl P_agg51 rfl) rfl ?_
        refine VList.go0 (n' := 18) rfl rfl (Eff.convN_u64 rfl Try.underlying51 Try.underlying62 (by first | omega | (simp; done) | (simp; omega))) rfl ?_
        refine VList.go0 (n' := 19) rfl rfl (.move _ _ rfl) rfl ?_
        refine VList.go0 (n' := 20) rfl rfl (.bin _ _ _ _ _ _ _ _ rfl rfl (bop_sub_u64 (by first | omega | (simp; done) | (simp; omega)))) rfl ?_
        refine VList.go0 (n' := 21) rfl rfl (Eff.convM_u32 rfl Try.underlying62 Try.underlying51) rfl ?_
        refine VList.go0 (n' := 22) rfl rfl (Eff.indexRowN rfl rfl Try.underlying22 P_sz51 (by first | omega | (simp; done) | (simp; omega))) rfl ?_
        refine VList.goS (n' := 23) rfl rfl (Eff.store32 rfl rfl rfl P_sz51 (by first | omega | (simp; done) | (simp; omega))) rfl ?_
        refine VList.nil (Then.go ?_)
        refine VCode.region ?_
        refine VList.go0 (n' := 24) rfl rfl (.assign _ _ rfl) rfl ?_
        refine VList.nil (InBlock.go (Then.go ?_))
        refine VCode.region ?_
        refine VList.go0 (n' := 25) rfl rfl (.move _ _ rfl) rfl ?_
        refine VList.go0 (n' := 26) rfl rfl (.bin _ _ _ _ _ _ _ _ rfl rfl (bop_add_i64 (by first | omega | (simp; done) | (simp; omega)))) rfl ?_
        refine VList.go0 (n' := 27) rfl rfl (.assign _ _ rfl) rfl ?_
        exact VList.nil (Round.go (n + 1, 0, (O).set ((n)) (((((A).getD (n) 0 - s)) % 4294967296))) (hok.step2 oA oB (by omega) hs (by first | (left; exact ⟨by omega, rfl, rfl⟩) | (right; exact ⟨by omega, rfl, rfl⟩))) (by first | (dsimp only; omega) | omega) (Weak.of (show 0 ≤ 4 by decide) ⟨⟨rfl, rfl⟩, ⟨⟨rfl, rfl⟩, ⟨⟨rfl, rfl⟩, ⟨⟨rfl, rfl⟩, ⟨⟨rfl, rfl⟩, trivial⟩⟩⟩⟩⟩ ⟨⟨rfl, (show 3 < 4 by decide), row_cells⟩, trivial⟩))
  · replace hc1 := of_decide_eq_false hc1
    refine VCode.exit (Then.exit (Round.exit (InBlock.here (Then.go ?_))))
    refine VCode.seq ?_
    have hn := hok.le
    have hO := hok.len
    obtain ⟨e1, e2⟩ := hok.fin oB (by omega) hl hv
    refine VCode.region ?_
    refine VList.go0 (n' := 9) rfl rfl (.move _ _ rfl) rfl ?_
    refine VList.goN (n' := 10) rfl rfl (.callV _ _ _ _ _ _ rfl (ress_cons (res_row rfl (by first | omega | (simp; done) | (simp; omega) | (simp [*]; done) | (simp [*]; omega))) ress_nil) (f66 _ (by first | omega | (simp; done) | (simp; omega)) (e2))) rfl ?_
    refine VList.go0 (n' := 11) rfl rfl (.assign _ _ rfl) rfl ?_
    refine VList.nil (Then.go ?_)
    exact VCode.ret (⟨trivial, [u32S (dg (val (O)))], (resVars_cons (resVar_tmp rfl rfl) resVars_nil), (by rw [e1]; rfl)⟩)
theorem f65 (A B : List Int) (hA : A.length ≤ 400000000) (hB : B.length ≤ 400000000) (oA : ok32 A) (oB : ok32 B) : VF Try.prog 65 [u32S (A), u32S (B)] (u32S (dg (val A * val B))) := by
  refine VF_of P_mixed Try.func65 rfl rfl (by kernel_rfl) ?_
  refine VCode.seq ?_
  refine VCode.region ?_
  refine VList.go0 (n' := 1) rfl rfl (.assign _ _ rfl) rfl ?_
  refine VList.nil (Then.go ?_)
  refine VCode.seq ?_
  refine VCode.region ?_
  refine VList.go0 (n' := 2) rfl rfl (.move _ _ rfl) rfl ?_
  refine VList.go0 (n' := 3) rfl rfl (Eff.lenS rfl Try.underlying22) rfl ?_
  refine VList.go0 (n' := 4) rfl rfl (.move _ _ rfl) rfl ?_
  refine VList.go0 (n' := 5) rfl rfl (Eff.lenS rfl Try.underlying22) rfl ?_
  refine VList.go0 (n' := 6) rfl rfl (.bin _ _ _ _ _ _ _ _ rfl rfl (bop_add_i64 (by first | omega | (simp; done) | (simp; omega)))) rfl ?_
  refine VList.go1 (n' := 7) rfl rfl (Eff.makeRow rfl Try.underlying22 P_zero51 P_sz51 P_bytes51 (by first | omega | (simp; done) | (simp; omega)) (by first | omega | (simp; done) | (simp; omega))) rfl ?_
  refine VList.go0 (n' := 8) rfl rfl (.assign _ _ rfl) rfl ?_
  refine VList.nil (Then.go ?_)
  refine VCode.seq ?_
  refine VCode.seq ?_
  refine VCode.region ?_
  refine VList.go0 (n' := 9) rfl rfl (.assign _ _ rfl) rfl ?_
  refine VList.nil (Then.go ?_)
  refine VCode.block ?_
  refine VCode.loop (α := (Nat) × (List Int)) (fun (x_ : (Nat) × (List Int)) => match x_ with | (n, O) => (7, sl [(0, vS (A)), (1, vS (B)), (5, .own 6 (((((A).length : Int) + ((B).length : Int))).toNat)), (6, vI .i64 ((n : Int)))], en [(6, row (O))])) (fun (x_ : (Nat) × (List Int)) => match x_ with | (n, O) => ProdInv A B O n) (fun (x_ : (Nat) × (List Int)) => match x_ with | (n, O) => A.length - n) (0, List.replicate (((A).length : Int) + ((B).length : Int)).toNat 0) (ProdInv.start (by first | rfl | (congr 1; omega))) (Weak.of (show 0 ≤ 7 by decide) ⟨⟨rfl, rfl⟩, ⟨⟨rfl, rfl⟩, ⟨⟨rfl, rfl⟩, ⟨⟨rfl, rfl⟩, trivial⟩⟩⟩⟩ ⟨⟨rfl, (show 6 < 7 by decide), row_cells⟩, trivial⟩) ?_
  rintro ⟨n, O⟩ hok
  show VCode Try.prog 0 _ 7 (sl [(0, vS (A)), (1, vS (B)), (5, .own 6 (((((A).length : Int) + ((B).length : Int))).toNat)), (6, vI .i64 ((n : Int)))]) (en [(6, row (O))]) _
  refine VCode.seq ?_
  refine VCode.seq ?_
  refine VCode.region ?_
  refine VList.go0 (n' := 8) rfl rfl (.move _ _ rfl) rfl ?_
  refine VList.go0 (n' := 9) rfl rfl (.move _ _ rfl) rfl ?_
  refine VList.go0 (n' := 10) rfl rfl (Eff.lenS rfl Try.underlying22) rfl ?_
  refine VList.go0 (n' := 11) rfl rfl (.bin _ _ _ _ _ _ _ _ rfl rfl rfl) rfl ?_
  refine VList.nil (Then.go ?_)
  refine VCode.cond _ rfl (fun hc1 => ?_) (fun hc1 => ?_)
  · replace hc1 := of_decide_eq_true hc1
    refine VCode.skip (Then.go ?_)
    refine VCode.seq ?_
    refine VCode.block ?_
    refine VCode.seq ?_
    refine VCode.region ?_
    refine VList.go0 (n' := 12) rfl rfl (.assign _ _ rfl) rfl ?_
    refine VList.nil (Then.go ?_)
    refine VCode.seq ?_
    refine VCode.seq ?_
    refine VCode.region ?_
    refine VList.go0 (n' := 13) rfl rfl (.assign _ _ rfl) rfl ?_
    refine VList.nil (Then.go ?_)
    refine VCode.block ?_
    refine VCode.loop (α := (Nat) × (Int) × (List Int)) (fun (x_ : (Nat) × (Int) × (List Int)) => match x_ with | (k, c, O) => (7, sl [(0, vS (A)), (1, vS (B)), (5, .own 6 (((((A).length : Int) + ((B).length : Int))).toNat)), (6, vI .i64 ((n : Int))), (7, vI .u64 (c)), (8, vI .i64 ((k : Int)))], en [(6, row (O))])) (fun (x_ : (Nat) × (Int) × (List Int)) => match x_ with | (k, c, O) => ProdIn A B O n k c) (fun (x_ : (Nat) × (Int) × (List Int)) => match x_ with | (k, c, O) => B.length - k) (0, 0, O) (hok.enter (by omega)) (Weak.of (show 0 ≤ 7 by decide) ⟨⟨rfl, rfl⟩, ⟨⟨rfl, rfl⟩, ⟨⟨rfl, rfl⟩, ⟨⟨rfl, rfl⟩, ⟨⟨rfl, rfl⟩, ⟨⟨rfl, rfl⟩, trivial⟩⟩⟩⟩⟩⟩ ⟨⟨rfl, (show 6 < 7 by decide), row_cells⟩, trivial⟩) ?_
    rintro ⟨k, c, O⟩ hok2
    show VCode Try.prog 0 _ 7 (sl [(0, vS (A)), (1, vS (B)), (5, .own 6 (((((A).length : Int) + ((B).length : Int))).toNat)), (6, vI .i64 ((n : Int))), (7, vI .u64 (c)), (8, vI .i64 ((k : Int)))]) (en [(6, row (O))]) _
    refine VCode.seq ?_
    refine VCode.seq ?_
    refine VCode.region ?_
    refine VList.go0 (n' := 8) rfl rfl (.move _ _ rfl) rfl ?_
    refine VList.go0 (n' := 9) rfl rfl (.move _ _ rfl) rfl ?_
    refine VList.go0 (n' := 10) rfl rfl (Eff.lenS rfl Try.underlying22) rfl ?_
    refine VList.go0 (n' := 11) rfl rfl (.bin _ _ _ _ _ _ _ _ rfl rfl rfl) rfl ?_
    refine VList.nil (Then.go ?_)
    refine VCode.cond _ rfl (fun hc2 => ?_) (fun hc2 => ?_)
    · replace hc2 := of_decide_eq_true hc2
      refine VCode.skip (Then.go ?_)
      refine VCode.seq ?_
      refine VCode.block ?_
      refine VCode.seq ?_
      have hi : (((n : Int)) + ((k : Int))).toNat = n + k := (by omega)
      have hx := ok32_getD oA n
      have hy := ok32_getD oB k
      have hxy := mul_small hx hy
      have hz := ok32_getD hok2.ok (((n : Int)) + ((k : Int))).toNat
      have h0 := hok2.c0
      have h1 := hok2.c1
      have hO := hok2.len
      have hkl := hok2.le
      refine VCode.draw (by kernel_rfl) ?_
      refine VLog.go0 (n' := 12) rfl rfl (.move _ _ rfl) rfl ?_
      refine VLog.go0 (n' := 13) rfl rfl (.move _ _ rfl) rfl ?_
      refine VLog.go0 (n' := 14) rfl rfl (Eff.indexRdN rfl rfl Try.underlying22 P_sz51 (by first | omega | (simp; done) | (simp; omega))) rfl ?_
      refine VLog.go0 (n' := 15) rfl rfl (.loadRd1 _ _ _ _ rfl P_agg51 rfl) rfl ?_
      refine VLog.go0 (n' := 16) rfl rfl (Eff.convN_u64 rfl Try.underlying51 Try.underlying62 (by first | omega | (simp; done) | (simp; omega))) rfl ?_
      refine VLog.go0 (n' := 17) rfl rfl (.move _ _ rfl) rfl ?_
      refine VLog.go0 (n' := 18) rfl rfl (.move _ _ rfl) rfl ?_
      refine VLog.go0 (n' := 19) rfl rfl (Eff.indexRdN rfl rfl Try.underlying22 P_sz51 (by first | omega | (simp; done) | (simp; omega))) rfl ?_
      refine VLog.go0 (n' := 20) rfl rfl (.loadRd1 _ _ _ _ rfl P_agg51 rfl) rfl ?_
      refine VLog.go0 (n' := 21) rfl rfl (Eff.convN_u64 rfl Try.underlying51 Try.underlying62 (by first | omega | (simp; done) | (simp; omega))) rfl ?_
      refine VLog.go0 (n' := 22) rfl rfl (.bin _ _ _ _ _ _ _ _ rfl rfl (bop_mul_u64 (by first | omega | (simp; done) | (simp; omega)))) rfl ?_
      refine VLog.go0 (n' := 23) rfl rfl (.move _ _ rfl) rfl ?_
      refine VLog.go0 (n' := 24) rfl rfl (.move _ _ rfl) rfl ?_
      refine VLog.go0 (n' := 25) rfl rfl (.move _ _ rfl) rfl ?_
      refine VLog.go0 (n' := 26) rfl rfl (.bin _ _ _ _ _ _ _ _ rfl rfl (bop_add_i64 (by first | omega | (simp; done) | (simp; omega)))) rfl ?_
      refine VLog.go0 (n' := 27) rfl rfl (Eff.indexRow rfl rfl Try.underlying22 P_sz51 (by first | omega | (simp; done) | (simp; omega)) (by first | omega | (simp; done) | (simp; omega))) rfl ?_
      refine VLog.go0 (n' := 28) rfl rfl (Eff.load32 rfl rfl P_agg51 (by first | omega | (simp; done) | (simp; omega))) rfl ?_
      refine VLog.go0 (n' := 29) rfl rfl (Eff.convN_u64 rfl Try.underlying51 Try.underlying62 (by first | omega | (simp; done) | (simp; omega))) rfl ?_
      refine VLog.go0 (n' := 30) rfl rfl (.bin _ _ _ _ _ _ _ _ rfl rfl (bop_add_u64 (by first | omega | (simp; done) | (simp; omega)))) rfl ?_
      refine VLog.go0 (n' := 31) rfl rfl (.move _ _ rfl) rfl ?_
      refine VLog.go0 (n' := 32) rfl rfl (.bin _ _ _ _ _ _ _ _ rfl rfl (bop_add_u64 (by first | omega | (simp; done) | (simp; omega)))) rfl ?_
      refine VLog.go0 (n' := 33) rfl rfl (.assign _ _ rfl) rfl ?_
      refine VLog.nil ⟨by kernel_rfl, Then.go ?_⟩
      refine VCode.seq ?_
      refine VCode.region ?_
      refine VList.go0 (n' := 34) rfl rfl (.move _ _ rfl) rfl ?_
      refine VList.go0 (n' := 35) rfl rfl (.move _ _ rfl) rfl ?_
      refine VList.go0 (n' := 36) rfl rfl (.move _ _ rfl) rfl ?_
      refine VList.go0 (n' := 37) rfl rfl (.bin _ _ _ _ _ _ _ _ rfl rfl (bop_add_i64 (by first | omega | (simp; done) | (simp; omega)))) rfl ?_
      refine VList.go0 (n' := 38) rfl rfl (.move _ _ rfl) rfl ?_
      refine VList.go0 (n' := 39) rfl rfl (Eff.convM_u32 rfl Try.underlying62 Try.underlying51) rfl ?_
      refine VList.go0 (n' := 40) rfl rfl (Eff.indexRow rfl rfl Try.underlying22 P_sz51 (by first | omega | (simp; done) | (simp; omega)) (by first | omega | (simp; done) | (simp; omega))) rfl ?_
      refine VList.goS (n' := 41) rfl rfl (Eff.store32 rfl rfl rfl P_sz51 (by first | omega | (simp; done) | (simp; omega))) rfl ?_
      refine VList.nil (Then.go ?_)
      refine VCode.region ?_
      refine VList.go0 (n' := 42) rfl rfl (.move _ _ rfl) rfl ?_
      refine VList.go0 (n' := 43) rfl rfl (.bin _ _ _ _ _ _ _ _ rfl rfl (bop_quo_u64 (by first | omega | (simp; done) | (simp; omega)) (by first | omega | (simp; done) | (simp; omega)) (by first | omega | (simp; done) | (simp; omega)))) rfl ?_
      refine VList.go0 (n' := 44) rfl rfl (.assign _ _ rfl) rfl ?_
      refine VList.nil (InBlock.go (Then.go ?_))
      refine VCode.region ?_
      refine VList.go0 (n' := 45) rfl rfl (.move _ _ rfl) rfl ?_
      refine VList.go0 (n' := 46) rfl rfl (.bin _ _ _ _ _ _ _ _ rfl rfl (bop_add_i64 (by first | omega | (simp; done) | (simp; omega)))) rfl ?_
      refine VList.go0 (n' := 47) rfl rfl (.assign _ _ rfl) rfl ?_
      exact VList.nil (Round.go (k + 1, (A.getD n 0 * B.getD k 0 + O.getD (((n : Int)) + ((k : Int))).toNat 0 + c) / 4294967296, O.set (((n : Int)) + ((k : Int))).toNat ((A.getD n 0 * B.getD k 0 + O.getD (((n : Int)) + ((k : Int))).toNat 0 + c) % 4294967296)) (by rw [hi]; exact hok2.step oA oB (by omega) rfl) (by first | (dsimp only; omega) | omega) (Weak.of (show 0 ≤ 7 by decide) ⟨⟨rfl, rfl⟩, ⟨⟨rfl, rfl⟩, ⟨⟨rfl, rfl⟩, ⟨⟨rfl, rfl⟩, ⟨⟨rfl, rfl⟩, ⟨⟨rfl, rfl⟩, trivial⟩⟩⟩⟩⟩⟩ ⟨⟨rfl, (show 6 < 7 by decide), row_cells⟩, trivial⟩))
    · replace hc2 := of_decide_eq_false hc2
      refine VCode.exit (Then.exit (Round.exit (InBlock.here (Then.go ?_))))
      have hO := hok2.len
      have hkl := hok2.le
      have h0 := hok2.c0
      have h1 := hok2.c1
      refine VCode.region ?_
      refine VList.go0 (n' := 12) rfl rfl (.move _ _ rfl) rfl ?_
      refine VList.go0 (n' := 13) rfl rfl (.move _ _ rfl) rfl ?_
      refine VList.go0 (n' := 14) rfl rfl (.move _ _ rfl) rfl ?_
      refine VList.go0 (n' := 15) rfl rfl (Eff.lenS rfl Try.underlying22) rfl ?_
      refine VList.go0 (n' := 16) rfl rfl (.bin _ _ _ _ _ _ _ _ rfl rfl (bop_add_i64 (by first | omega | (simp; done) | (simp; omega)))) rfl ?_
      refine VList.go0 (n' := 17) rfl rfl (.move _ _ rfl) rfl ?_
      refine VList.go0 (n' := 18) rfl rfl (Eff.convM_u32 rfl Try.underlying62 Try.underlying51) rfl ?_
      refine VList.go0 (n' := 19) rfl rfl (Eff.indexRow rfl rfl Try.underlying22 P_sz51 (by first | omega | (simp; done) | (simp; omega)) (by first | omega | (simp; done) | (simp; omega))) rfl ?_
      refine VList.goS (n' := 20) rfl rfl (Eff.store32 rfl rfl rfl P_sz51 (by first | omega | (simp; done) | (simp; omega))) rfl ?_
      refine VList.nil (InBlock.go (Then.go ?_))
      refine VCode.region ?_
      refine VList.go0 (n' := 21) rfl rfl (.move _ _ rfl) rfl ?_
      refine VList.go0 (n' := 22) rfl rfl (.bin _ _ _ _ _ _ _ _ rfl rfl (bop_add_i64 (by first | omega | (simp; done) | (simp; omega)))) rfl ?_
      refine VList.go0 (n' := 23) rfl rfl (.assign _ _ rfl) rfl ?_
      exact VList.nil (Round.go (n + 1, O.set (((n : Int)) + ((B).length : Int)).toNat (c % 4294967296)) (by have hi : (((n : Int)) + ((B).length : Int)).toNat = n + B.length := (by omega); rw [hi]; exact hok2.leave (by omega)) (by first | (dsimp only; omega) | omega) (Weak.of (show 0 ≤ 7 by decide) ⟨⟨rfl, rfl⟩, ⟨⟨rfl, rfl⟩, ⟨⟨rfl, rfl⟩, ⟨⟨rfl, rfl⟩, trivial⟩⟩⟩⟩ ⟨⟨rfl, (show 6 < 7 by decide), row_cells⟩, trivial⟩))
  · replace hc1 := of_decide_eq_false hc1
    refine VCode.exit (Then.exit (Round.exit (InBlock.here (Then.go ?_))))
    refine VCode.seq ?_
    have hn := hok.le
    have hO := hok.len
    have e1 := hok.fin (by omega)
    refine VCode.region ?_
    refine VList.go0 (n' := 12) rfl rfl (.move _ _ rfl) rfl ?_
    refine VList.goN (n' := 13) rfl rfl (.callV _ _ _ _ _ _ rfl (ress_cons (res_row rfl (by first | omega | (simp; done) | (simp; omega) | (simp [*]; done) | (simp [*]; omega))) ress_nil) (f66 _ (by first | omega | (simp; done) | (simp; omega)) (hok.ok))) rfl ?_
    refine VList.go0 (n' := 14) rfl rfl (.assign _ _ rfl) rfl ?_
    refine VList.nil (Then.go ?_)
    exact VCode.ret (⟨trivial, [u32S (dg (val (O)))], (resVars_cons (resVar_tmp rfl rfl) resVars_nil), (by rw [e1]; rfl)⟩)
end Go.VL

/- Walks over the Go functions, printed by a program of this session over the kit's print, and by hand. -/
set_option linter.unusedVariables false
set_option linter.unusedSimpArgs false
namespace Go.VL
open Go.Proofs
theorem f39 (n : Bool) (A : List Int) (m : Bool) (B : List Int) (hA : A.length ≤ 9223372036854775807) (hB : B.length ≤ 9223372036854775807) (oA : ok32 A) (oB : ok32 B) : VF Try.prog 39 [.agg [boolB (n), u32S (A)], .agg [boolB (m), u32S (B)]] (gR (validB n A && validB m B) (zOf n A + zOf m B)) := by
  refine VF_of P_mixed Try.func39 rfl rfl (by kernel_rfl) ?_
  refine VCode.seq ?_
  refine VCode.region ?_
  refine VList.go1 (n' := 1) rfl rfl (.box _ _ _ rfl (List.cons_ne_nil _ _) rfl) rfl ?_
  refine VList.go1 (n' := 2) rfl rfl (.box _ _ _ rfl (List.cons_ne_nil _ _) rfl) rfl ?_
  refine VList.go1 (n' := 3) rfl rfl (.alloc _ _ P_zero24 (List.cons_ne_nil _ _)) rfl ?_
  refine VList.go0 (n' := 4) rfl rfl (.assign _ _ rfl) rfl ?_
  refine VList.nil (Then.go ?_)
  refine VCode.seq ?_
  refine VCode.seq ?_
  refine VCode.region ?_
  refine VList.go0 (n' := 5) rfl rfl (.loadS _ _ _ _ _ _ rfl rfl P_agg24 P_sz24 (Nat.le_of_ble_eq_true rfl)) rfl ?_
  refine VList.go0 (n' := 6) rfl rfl (.callF _ _ _ _ _ _ rfl (ress_cons rfl ress_nil) (f26 _ _ (by first | omega | assumption | (simp; done) | (simp; omega))) rfl) rfl ?_
  refine VList.go0 (n' := 7) rfl rfl (.un _ _ _ _ _ rfl rfl) rfl ?_
  refine VList.go0 (n' := 8) rfl rfl (.move _ _ rfl) rfl ?_
  refine VList.split (d := 9) _ rfl (fun hc1 => ?_) (fun hc1 => ?_)
  · replace hc1 := (bnot_t hc1)
    refine VList.skip (n' := 9) rfl rfl rfl ?_
    refine VList.skip (n' := 10) rfl rfl rfl ?_
    refine VList.skip (n' := 11) rfl rfl rfl ?_
    refine VList.go0 (n' := 12) rfl rfl (.pick _ _ _ _ _ rfl rfl) rfl ?_
    refine VList.nil (Then.go ?_)
    refine VCode.cond _ rfl (fun _ => ?_) (fun h_ => Bool.noConfusion h_)
    refine VCode.seq ?_
    refine VCode.region ?_
    refine VList.go0 (n' := 13) rfl rfl Eff.int0 rfl ?_
    refine VList.goS (n' := 14) rfl rfl (.store _ _ _ _ _ _ _ rfl rfl rfl rfl P_sz24 (Nat.le_of_ble_eq_true rfl) rfl) rfl ?_
    refine VList.go0 (n' := 15) rfl rfl (.assign _ _ rfl) rfl ?_
    refine VList.nil (Then.go ?_)
    exact VCode.ret (Then.ret (⟨trivial, [.agg [boolB (false), u32S ([])], numB .i64 (1)], (resVars_cons (resVar_cell rfl rfl P_agg24 P_sz24 (Nat.le_of_ble_eq_true rfl) rfl) (resVars_cons (resVar_tmp rfl rfl) resVars_nil)), (by rw [gR_false (by simp [*])]; rfl)⟩))
  · replace hc1 := (bnot_f hc1)
    refine VList.go0 (n' := 9) rfl rfl (.loadS _ _ _ _ _ _ rfl rfl P_agg24 P_sz24 (Nat.le_of_ble_eq_true rfl)) rfl ?_
    refine VList.go0 (n' := 10) rfl rfl (.callF _ _ _ _ _ _ rfl (ress_cons rfl ress_nil) (f26 _ _ (by first | omega | assumption | (simp; done) | (simp; omega))) rfl) rfl ?_
    refine VList.go0 (n' := 11) rfl rfl (.un _ _ _ _ _ rfl rfl) rfl ?_
    refine VList.go0 (n' := 12) rfl rfl (.pick _ _ _ _ _ rfl rfl) rfl ?_
    refine VList.nil (Then.go ?_)
    refine VCode.cond _ rfl (fun hc2 => ?_) (fun hc2 => ?_)
    · replace hc2 := (bnot_t hc2)
      refine VCode.seq ?_
      refine VCode.region ?_
      refine VList.go0 (n' := 13) rfl rfl Eff.int0 rfl ?_
      refine VList.goS (n' := 14) rfl rfl (.store _ _ _ _ _ _ _ rfl rfl rfl rfl P_sz24 (Nat.le_of_ble_eq_true rfl) rfl) rfl ?_
      refine VList.go0 (n' := 15) rfl rfl (.assign _ _ rfl) rfl ?_
      refine VList.nil (Then.go ?_)
      exact VCode.ret (Then.ret (⟨trivial, [.agg [boolB (false), u32S ([])], numB .i64 (1)], (resVars_cons (resVar_cell rfl rfl P_agg24 P_sz24 (Nat.le_of_ble_eq_true rfl) rfl) (resVars_cons (resVar_tmp rfl rfl) resVars_nil)), (by rw [gR_false (by simp [*])]; rfl)⟩))
    · replace hc2 := (bnot_f hc2)
      refine VCode.skip (Then.go ?_)
      refine VCode.seq ?_
      refine VCode.seq ?_
      have va : validB n A = true := by assumption
      have vb : validB m B = true := by assumption
      have hv := vv va vb
      obtain ⟨nA, lA, sA⟩ := valid_norm oA va
      obtain ⟨nB, lB, sB⟩ := valid_norm oB vb
      have vA := val_nonneg oA
      have vB_ := val_nonneg oB
      refine VCode.region ?_
      refine VList.go0 (n' := 13) rfl rfl (.fieldAddr _ _ _ _ _ _ _ _ rfl P_fld24_0) rfl ?_
      refine VList.go0 (n' := 14) rfl rfl (.load1 _ _ _ _ _ _ rfl rfl P_agg4 rfl) rfl ?_
      refine VList.go0 (n' := 15) rfl rfl (.fieldAddr _ _ _ _ _ _ _ _ rfl P_fld24_0) rfl ?_
      refine VList.go0 (n' := 16) rfl rfl (.load1 _ _ _ _ _ _ rfl rfl P_agg4 rfl) rfl ?_
      refine VList.go0 (n' := 17) rfl rfl (.binB _ _ _ _ _ _ _ _ rfl rfl Try.underlying4 rfl) rfl ?_
      refine VList.nil (Then.go ?_)
      refine VCode.cond _ rfl (fun hc3 => ?_) (fun hc3 => ?_)
      · replace hc3 := eq_of_beq hc3
        refine VCode.seq ?_
        refine VCode.draw (by kernel_rfl) ?_
        refine VLog.go0 (n' := 18) rfl rfl (.fieldAddr _ _ _ _ _ _ _ _ rfl P_fld24_0) rfl ?_
        refine VLog.go0 (n' := 19) rfl rfl (.load1 _ _ _ _ _ _ rfl rfl P_agg4 rfl) rfl ?_
        refine VLog.go0 (n' := 20) rfl rfl (.fieldAddr _ _ _ _ _ _ _ _ rfl P_fld24_1) rfl ?_
        refine VLog.go0 (n' := 21) rfl rfl (.load1 _ _ _ _ _ _ rfl rfl P_agg22 rfl) rfl ?_
        refine VLog.go0 (n' := 22) rfl rfl (.fieldAddr _ _ _ _ _ _ _ _ rfl P_fld24_1) rfl ?_
        refine VLog.go0 (n' := 23) rfl rfl (.load1 _ _ _ _ _ _ rfl rfl P_agg22 rfl) rfl ?_
        refine VLog.go0 (n' := 24) rfl rfl (Eff.callV0 rfl (ress_cons rfl (ress_cons rfl ress_nil)) (f56 _ _ (by first | omega | assumption | (simp; done) | (simp; omega)) (by first | omega | assumption | (simp; done) | (simp; omega)) (by first | omega | assumption | (simp; done) | (simp; omega)) (by first | omega | assumption | (simp; done) | (simp; omega))) rfl) rfl ?_
        refine VLog.go0 (n' := 25) rfl rfl (Eff.callV0 rfl (ress_cons rfl (ress_cons rfl ress_nil)) (f58 _ _ (add_len oA oB lA lB) (ok32_dg _)) rfl) rfl ?_
        refine VLog.go0 (n' := 26) rfl rfl (.extract _ _ _ _ rfl rfl) rfl ?_
        refine VLog.go0 (n' := 27) rfl rfl (.extract _ _ _ _ rfl rfl) rfl ?_
        refine VLog.goS (n' := 28) rfl rfl (.store _ _ _ _ _ _ _ rfl rfl rfl rfl P_sz24 (Nat.le_of_ble_eq_true rfl) rfl) rfl ?_
        refine VLog.go0 (n' := 29) rfl rfl (.assign _ _ rfl) rfl ?_
        refine VLog.nil ⟨by kernel_rfl, Then.go ?_⟩
        exact VCode.ret (Then.ret (⟨trivial, [.agg [boolB (zN (sg (n) (val (dg (val (A) + val (B)))))), u32S (zL (sg (n) (val (dg (val (A) + val (B))))))], numB .i64 (zE (sg (n) (val (dg (val (A) + val (B))))))], (resVars_cons (resVar_cell rfl rfl P_agg24 P_sz24 (Nat.le_of_ble_eq_true rfl) rfl) (resVars_cons (resVar_tmp rfl rfl) resVars_nil)), (by rw [gR_true hv]; show zR (sg n (val A) + sg m (val B)) = _; rw [val_dg (by omega), sg_add, ← hc3]; rfl)⟩))
      · replace hc3 := ne_of_beq_false hc3
        refine VCode.skip (Then.go ?_)
        refine VCode.seq ?_
        refine VCode.seq ?_
        refine VCode.region ?_
        refine VList.go0 (n' := 18) rfl rfl (.fieldAddr _ _ _ _ _ _ _ _ rfl P_fld24_1) rfl ?_
        refine VList.go0 (n' := 19) rfl rfl (.load1 _ _ _ _ _ _ rfl rfl P_agg22 rfl) rfl ?_
        refine VList.go0 (n' := 20) rfl rfl (.fieldAddr _ _ _ _ _ _ _ _ rfl P_fld24_1) rfl ?_
        refine VList.go0 (n' := 21) rfl rfl (.load1 _ _ _ _ _ _ rfl rfl P_agg22 rfl) rfl ?_
        refine VList.go0 (n' := 22) rfl rfl (.callF _ _ _ _ _ _ rfl (ress_cons rfl (ress_cons rfl ress_nil)) (f72 _ _ (by first | omega | assumption | (simp; done) | (simp; omega)) (by first | omega | assumption | (simp; done) | (simp; omega)) (by first | omega | assumption | (simp; done) | (simp; omega)) (by first | omega | assumption | (simp; done) | (simp; omega)) (fun h => cmp_len nA nB h)) rfl) rfl ?_
        refine VList.go0 (n' := 23) rfl rfl (.bin _ _ _ _ _ _ _ _ rfl rfl rfl) rfl ?_
        refine VList.nil (Then.go ?_)
        refine VCode.cond _ rfl (fun hc4 => ?_) (fun hc4 => ?_)
        · replace hc4 := of_decide_eq_true hc4
          refine VCode.seq ?_
          refine VCode.draw (by kernel_rfl) ?_
          refine VLog.go0 (n' := 24) rfl rfl (.fieldAddr _ _ _ _ _ _ _ _ rfl P_fld24_0) rfl ?_
          refine VLog.go0 (n' := 25) rfl rfl (.load1 _ _ _ _ _ _ rfl rfl P_agg4 rfl) rfl ?_
          refine VLog.go0 (n' := 26) rfl rfl (.fieldAddr _ _ _ _ _ _ _ _ rfl P_fld24_1) rfl ?_
          refine VLog.go0 (n' := 27) rfl rfl (.load1 _ _ _ _ _ _ rfl rfl P_agg22 rfl) rfl ?_
          refine VLog.go0 (n' := 28) rfl rfl (.fieldAddr _ _ _ _ _ _ _ _ rfl P_fld24_1) rfl ?_
          refine VLog.go0 (n' := 29) rfl rfl (.load1 _ _ _ _ _ _ rfl rfl P_agg22 rfl) rfl ?_
          refine VLog.go0 (n' := 30) rfl rfl (Eff.callV0 rfl (ress_cons rfl (ress_cons rfl ress_nil)) (f57 _ _ (by first | omega | assumption | (simp; done) | (simp; omega)) (by first | omega | assumption | (simp; done) | (simp; omega)) (by first | omega | assumption | (simp; done) | (simp; omega)) (by first | omega | assumption | (simp; done) | (simp; omega)) (norm_le_len nB nA (cmp3_ge (by assumption))) (cmp3_ge (by assumption))) rfl) rfl ?_
          refine VLog.go0 (n' := 31) rfl rfl (Eff.callV0 rfl (ress_cons rfl (ress_cons rfl ress_nil)) (f58 _ _ (sub_len oA oB lA) (ok32_dg _)) rfl) rfl ?_
          refine VLog.go0 (n' := 32) rfl rfl (.extract _ _ _ _ rfl rfl) rfl ?_
          refine VLog.go0 (n' := 33) rfl rfl (.extract _ _ _ _ rfl rfl) rfl ?_
          refine VLog.goS (n' := 34) rfl rfl (.store _ _ _ _ _ _ _ rfl rfl rfl rfl P_sz24 (Nat.le_of_ble_eq_true rfl) rfl) rfl ?_
          refine VLog.go0 (n' := 35) rfl rfl (.assign _ _ rfl) rfl ?_
          refine VLog.nil ⟨by kernel_rfl, Then.go ?_⟩
          exact VCode.ret (Then.ret (⟨trivial, [.agg [boolB (zN (sg (n) (val (dg (val (A) - val (B)))))), u32S (zL (sg (n) (val (dg (val (A) - val (B))))))], numB .i64 (zE (sg (n) (val (dg (val (A) - val (B))))))], (resVars_cons (resVar_cell rfl rfl P_agg24 P_sz24 (Nat.le_of_ble_eq_true rfl) rfl) (resVars_cons (resVar_tmp rfl rfl) resVars_nil)), (by have h2 := cmp3_ge hc4; rw [gR_true hv]; show zR (sg n (val A) + sg m (val B)) = _; rw [val_dg (by omega), sg_mix' hc3]; rfl)⟩))
        · replace hc4 := of_decide_eq_false hc4
          refine VCode.skip (Then.go ?_)
          refine VCode.seq ?_
          refine VCode.draw (by kernel_rfl) ?_
          refine VLog.go0 (n' := 24) rfl rfl (.fieldAddr _ _ _ _ _ _ _ _ rfl P_fld24_0) rfl ?_
          refine VLog.go0 (n' := 25) rfl rfl (.load1 _ _ _ _ _ _ rfl rfl P_agg4 rfl) rfl ?_
          refine VLog.go0 (n' := 26) rfl rfl (.fieldAddr _ _ _ _ _ _ _ _ rfl P_fld24_1) rfl ?_
          refine VLog.go0 (n' := 27) rfl rfl (.load1 _ _ _ _ _ _ rfl rfl P_agg22 rfl) rfl ?_
          refine VLog.go0 (n' := 28) rfl rfl (.fieldAddr _ _ _ _ _ _ _ _ rfl P_fld24_1) rfl ?_
          refine VLog.go0 (n' := 29) rfl rfl (.load1 _ _ _ _ _ _ rfl rfl P_agg22 rfl) rfl ?_
          refine VLog.go0 (n' := 30) rfl rfl (Eff.callV0 rfl (ress_cons rfl (ress_cons rfl ress_nil)) (f57 _ _ (by first | omega | assumption | (simp; done) | (simp; omega)) (by first | omega | assumption | (simp; done) | (simp; omega)) (by first | omega | assumption | (simp; done) | (simp; omega)) (by first | omega | assumption | (simp; done) | (simp; omega)) (norm_le_len nA nB (Int.le_of_lt (cmp3_nge (by assumption)))) (Int.le_of_lt (cmp3_nge (by assumption)))) rfl) rfl ?_
          refine VLog.go0 (n' := 31) rfl rfl (Eff.callV0 rfl (ress_cons rfl (ress_cons rfl ress_nil)) (f58 _ _ (sub_len oB oA lB) (ok32_dg _)) rfl) rfl ?_
          refine VLog.go0 (n' := 32) rfl rfl (.extract _ _ _ _ rfl rfl) rfl ?_
          refine VLog.go0 (n' := 33) rfl rfl (.extract _ _ _ _ rfl rfl) rfl ?_
          refine VLog.goS (n' := 34) rfl rfl (.store _ _ _ _ _ _ _ rfl rfl rfl rfl P_sz24 (Nat.le_of_ble_eq_true rfl) rfl) rfl ?_
          refine VLog.go0 (n' := 35) rfl rfl (.assign _ _ rfl) rfl ?_
          refine VLog.nil ⟨by kernel_rfl, Then.go ?_⟩
          exact VCode.ret (⟨trivial, [.agg [boolB (zN (sg (m) (val (dg (val (B) - val (A)))))), u32S (zL (sg (m) (val (dg (val (B) - val (A))))))], numB .i64 (zE (sg (m) (val (dg (val (B) - val (A))))))], (resVars_cons (resVar_cell rfl rfl P_agg24 P_sz24 (Nat.le_of_ble_eq_true rfl) rfl) (resVars_cons (resVar_tmp rfl rfl) resVars_nil)), (by have h2 := cmp3_nge hc4; rw [gR_true hv]; show zR (sg n (val A) + sg m (val B)) = _; rw [val_dg (by omega), sg_mix hc3]; rfl)⟩)
theorem f76 (m : Bool) (B : List Int) (hB : B.length ≤ 1000000000) : VF Try.prog 76 [.agg [boolB (m), u32S (B)]] (intB (ngB m B) B) := by
  refine VF_of P_mixed Try.func76 rfl rfl (by kernel_rfl) ?_
  refine VCode.seq ?_
  refine VCode.region ?_
  refine VList.go1 (n' := 1) rfl rfl (.box _ _ _ rfl (List.cons_ne_nil _ _) rfl) rfl ?_
  refine VList.go1 (n' := 2) rfl rfl (.alloc _ _ P_zero24 (List.cons_ne_nil _ _)) rfl ?_
  refine VList.nil (Then.go ?_)
  refine VCode.seq ?_
  refine VCode.draw (by kernel_rfl) ?_
  refine VLog.go0 (n' := 3) rfl rfl (.fieldAddr _ _ _ _ _ _ _ _ rfl P_fld24_0) rfl ?_
  refine VLog.go0 (n' := 4) rfl rfl (.load1 _ _ _ _ _ _ rfl rfl P_agg4 rfl) rfl ?_
  refine VLog.go0 (n' := 5) rfl rfl (.un _ _ _ _ _ rfl rfl) rfl ?_
  refine VLog.go0 (n' := 6) rfl rfl (.move _ _ rfl) rfl ?_
  refine VLog.split (d := 6) _ rfl (fun hc1 => ?_) (fun hc1 => ?_)
  · replace hc1 := bnot_t hc1
    refine VLog.go0 (n' := 7) rfl rfl (.fieldAddr _ _ _ _ _ _ _ _ rfl P_fld24_1) rfl ?_
    refine VLog.go0 (n' := 8) rfl rfl (.load1 _ _ _ _ _ _ rfl rfl P_agg22 rfl) rfl ?_
    refine VLog.go0 (n' := 9) rfl rfl (Eff.lenS rfl Try.underlying22) rfl ?_
    refine VLog.go0 (n' := 10) rfl rfl (.bin _ _ _ _ _ _ _ _ rfl rfl rfl) rfl ?_
    refine VLog.go0 (n' := 11) rfl rfl (.pick _ _ _ _ _ rfl rfl) rfl ?_
    refine VLog.go1 (n' := 12) rfl rfl (Eff.lits0 Try.underlying22 P_zero51 P_sz51) rfl ?_
    refine VLog.go0 (n' := 13) rfl rfl (.fieldAddr _ _ _ _ _ _ _ _ rfl P_fld24_1) rfl ?_
    refine VLog.go0 (n' := 14) rfl rfl (.load1 _ _ _ _ _ _ rfl rfl P_agg22 rfl) rfl ?_
    refine VLog.goN (n' := 15) rfl rfl (Eff.appendRow rfl rfl (by first | omega | (simp; done) | (simp; omega)) rfl rfl (show _ ∉ ([] : List Nat) from List.not_mem_nil) Try.underlying22 P_sz51 P_bytes51 P_zero51 (by first | omega | (simp; done) | (simp; omega))) rfl ?_
    refine VLog.go0 (n' := 16) rfl rfl (Eff.int2 rfl rfl rfl rfl) rfl ?_
    refine VLog.goS (n' := 17) rfl rfl (.store _ _ _ _ _ _ _ rfl rfl rfl rfl P_sz24 (Nat.le_of_ble_eq_true rfl) rfl) rfl ?_
    refine VLog.nil ⟨by kernel_rfl, Then.go ?_⟩
    exact VCode.ret (⟨trivial, [.agg [boolB (decide (((B).length : Int) > 0)), u32S (([]) ++ (B))]], (resVars_cons (resVar_cell rfl rfl P_agg24 P_sz24 (Nat.le_of_ble_eq_true rfl) (res_agg rfl (by simp))) resVars_nil), (by rw [ngB, hc1]; rfl)⟩)
  · replace hc1 := bnot_f hc1
    refine VLog.skip (n' := 7) rfl rfl rfl ?_
    refine VLog.skip (n' := 8) rfl rfl rfl ?_
    refine VLog.skip (n' := 9) rfl rfl rfl ?_
    refine VLog.skip (n' := 10) rfl rfl rfl ?_
    refine VLog.go0 (n' := 11) rfl rfl (.pick _ _ _ _ _ rfl rfl) rfl ?_
    refine VLog.go1 (n' := 12) rfl rfl (Eff.lits0 Try.underlying22 P_zero51 P_sz51) rfl ?_
    refine VLog.go0 (n' := 13) rfl rfl (.fieldAddr _ _ _ _ _ _ _ _ rfl P_fld24_1) rfl ?_
    refine VLog.go0 (n' := 14) rfl rfl (.load1 _ _ _ _ _ _ rfl rfl P_agg22 rfl) rfl ?_
    refine VLog.goN (n' := 15) rfl rfl (Eff.appendRow rfl rfl (by first | omega | (simp; done) | (simp; omega)) rfl rfl (show _ ∉ ([] : List Nat) from List.not_mem_nil) Try.underlying22 P_sz51 P_bytes51 P_zero51 (by first | omega | (simp; done) | (simp; omega))) rfl ?_
    refine VLog.go0 (n' := 16) rfl rfl (Eff.int2 rfl rfl rfl rfl) rfl ?_
    refine VLog.goS (n' := 17) rfl rfl (.store _ _ _ _ _ _ _ rfl rfl rfl rfl P_sz24 (Nat.le_of_ble_eq_true rfl) rfl) rfl ?_
    refine VLog.nil ⟨by kernel_rfl, Then.go ?_⟩
    exact VCode.ret (⟨trivial, [.agg [boolB (false), u32S (([]) ++ (B))]], (resVars_cons (resVar_cell rfl rfl P_agg24 P_sz24 (Nat.le_of_ble_eq_true rfl) (res_agg rfl (by simp))) resVars_nil), (by rw [ngB, hc1]; rfl)⟩)
theorem f41 (n : Bool) (A : List Int) (m : Bool) (B : List Int) (hA : A.length ≤ 9223372036854775807) (hB : B.length ≤ 9223372036854775807) (oA : ok32 A) (oB : ok32 B) : VF Try.prog 41 [.agg [boolB (n), u32S (A)], .agg [boolB (m), u32S (B)]] (gR (validB n A && validB m B) (zOf n A - zOf m B)) := by
  refine VF_of P_mixed Try.func41 rfl rfl (by kernel_rfl) ?_
  refine VCode.seq ?_
  refine VCode.region ?_
  refine VList.go1 (n' := 1) rfl rfl (.box _ _ _ rfl (List.cons_ne_nil _ _) rfl) rfl ?_
  refine VList.go1 (n' := 2) rfl rfl (.box _ _ _ rfl (List.cons_ne_nil _ _) rfl) rfl ?_
  refine VList.go1 (n' := 3) rfl rfl (.alloc _ _ P_zero24 (List.cons_ne_nil _ _)) rfl ?_
  refine VList.go0 (n' := 4) rfl rfl (.assign _ _ rfl) rfl ?_
  refine VList.nil (Then.go ?_)
  refine VCode.seq ?_
  refine VCode.seq ?_
  refine VCode.region ?_
  refine VList.go0 (n' := 5) rfl rfl (.loadS _ _ _ _ _ _ rfl rfl P_agg24 P_sz24 (Nat.le_of_ble_eq_true rfl)) rfl ?_
  refine VList.go0 (n' := 6) rfl rfl (.callF _ _ _ _ _ _ rfl (ress_cons rfl ress_nil) (f26 _ _ (by first | omega | assumption | (simp; done) | (simp; omega))) rfl) rfl ?_
  refine VList.go0 (n' := 7) rfl rfl (.un _ _ _ _ _ rfl rfl) rfl ?_
  refine VList.go0 (n' := 8) rfl rfl (.move _ _ rfl) rfl ?_
  refine VList.split (d := 9) _ rfl (fun hc1 => ?_) (fun hc1 => ?_)
  · replace hc1 := (bnot_t hc1)
    refine VList.skip (n' := 9) rfl rfl rfl ?_
    refine VList.skip (n' := 10) rfl rfl rfl ?_
    refine VList.skip (n' := 11) rfl rfl rfl ?_
    refine VList.go0 (n' := 12) rfl rfl (.pick _ _ _ _ _ rfl rfl) rfl ?_
    refine VList.nil (Then.go ?_)
    refine VCode.cond _ rfl (fun _ => ?_) (fun h_ => Bool.noConfusion h_)
    refine VCode.seq ?_
    refine VCode.region ?_
    refine VList.go0 (n' := 13) rfl rfl Eff.int0 rfl ?_
    refine VList.goS (n' := 14) rfl rfl (.store _ _ _ _ _ _ _ rfl rfl rfl rfl P_sz24 (Nat.le_of_ble_eq_true rfl) rfl) rfl ?_
    refine VList.go0 (n' := 15) rfl rfl (.assign _ _ rfl) rfl ?_
    refine VList.nil (Then.go ?_)
    exact VCode.ret (Then.ret (⟨trivial, [.agg [boolB (false), u32S ([])], numB .i64 (1)], (resVars_cons (resVar_cell rfl rfl P_agg24 P_sz24 (Nat.le_of_ble_eq_true rfl) rfl) (resVars_cons (resVar_tmp rfl rfl) resVars_nil)), (by rw [gR_false (by simp [*])]; rfl)⟩))
  · replace hc1 := (bnot_f hc1)
    refine VList.go0 (n' := 9) rfl rfl (.loadS _ _ _ _ _ _ rfl rfl P_agg24 P_sz24 (Nat.le_of_ble_eq_true rfl)) rfl ?_
    refine VList.go0 (n' := 10) rfl rfl (.callF _ _ _ _ _ _ rfl (ress_cons rfl ress_nil) (f26 _ _ (by first | omega | assumption | (simp; done) | (simp; omega))) rfl) rfl ?_
    refine VList.go0 (n' := 11) rfl rfl (.un _ _ _ _ _ rfl rfl) rfl ?_
    refine VList.go0 (n' := 12) rfl rfl (.pick _ _ _ _ _ rfl rfl) rfl ?_
    refine VList.nil (Then.go ?_)
    refine VCode.cond _ rfl (fun hc2 => ?_) (fun hc2 => ?_)
    · replace hc2 := (bnot_t hc2)
      refine VCode.seq ?_
      refine VCode.region ?_
      refine VList.go0 (n' := 13) rfl rfl Eff.int0 rfl ?_
      refine VList.goS (n' := 14) rfl rfl (.store _ _ _ _ _ _ _ rfl rfl rfl rfl P_sz24 (Nat.le_of_ble_eq_true rfl) rfl) rfl ?_
      refine VList.go0 (n' := 15) rfl rfl (.assign _ _ rfl) rfl ?_
      refine VList.nil (Then.go ?_)
      exact VCode.ret (Then.ret (⟨trivial, [.agg [boolB (false), u32S ([])], numB .i64 (1)], (resVars_cons (resVar_cell rfl rfl P_agg24 P_sz24 (Nat.le_of_ble_eq_true rfl) rfl) (resVars_cons (resVar_tmp rfl rfl) resVars_nil)), (by rw [gR_false (by simp [*])]; rfl)⟩))
    · replace hc2 := (bnot_f hc2)
      refine VCode.skip (Then.go ?_)
      refine VCode.seq ?_
      have va : validB n A = true := by assumption
      have vb : validB m B = true := by assumption
      have hv := vv va vb
      obtain ⟨nA, lA, sA⟩ := valid_norm oA va
      obtain ⟨nB, lB, sB⟩ := valid_norm oB vb
      have vA := val_nonneg oA
      have vB_ := val_nonneg oB
      refine VCode.draw (by kernel_rfl) ?_
      refine VLog.go0 (n' := 13) rfl rfl (.loadS _ _ _ _ _ _ rfl rfl P_agg24 P_sz24 (Nat.le_of_ble_eq_true rfl)) rfl ?_
      refine VLog.go0 (n' := 14) rfl rfl (.loadS _ _ _ _ _ _ rfl rfl P_agg24 P_sz24 (Nat.le_of_ble_eq_true rfl)) rfl ?_
      refine VLog.go0 (n' := 15) rfl rfl (Eff.callV0 rfl (ress_cons rfl ress_nil) (f76 _ _ (by first | omega | assumption | (simp; done) | (simp; omega))) rfl) rfl ?_
      refine VLog.go0 (n' := 16) rfl rfl (Eff.callV0 rfl (ress_cons rfl (ress_cons rfl ress_nil)) (f39 _ _ _ _ (by first | omega | assumption | (simp; done) | (simp; omega)) (by first | omega | assumption | (simp; done) | (simp; omega)) (by first | omega | assumption | (simp; done) | (simp; omega)) (by first | omega | assumption | (simp; done) | (simp; omega))) rfl) rfl ?_
      refine VLog.go0 (n' := 17) rfl rfl (.extract _ _ _ _ rfl rfl) rfl ?_
      refine VLog.go0 (n' := 18) rfl rfl (.extract _ _ _ _ rfl rfl) rfl ?_
      refine VLog.goS (n' := 19) rfl rfl (.store _ _ _ _ _ _ _ rfl rfl rfl rfl P_sz24 (Nat.le_of_ble_eq_true rfl) rfl) rfl ?_
      refine VLog.go0 (n' := 20) rfl rfl (.assign _ _ rfl) rfl ?_
      refine VLog.nil ⟨by kernel_rfl, Then.go ?_⟩
      exact VCode.ret (⟨trivial, [.agg [boolB (gN (validB (n) (A) && validB ((ngB (m) (B))) (B)) (zOf (n) (A) + zOf ((ngB (m) (B))) (B))), u32S (gL (validB (n) (A) && validB ((ngB (m) (B))) (B)) (zOf (n) (A) + zOf ((ngB (m) (B))) (B)))], numB .i64 (gE (validB (n) (A) && validB ((ngB (m) (B))) (B)) (zOf (n) (A) + zOf ((ngB (m) (B))) (B)))], (resVars_cons (resVar_cell rfl rfl P_agg24 P_sz24 (Nat.le_of_ble_eq_true rfl) rfl) (resVars_cons (resVar_tmp rfl rfl) resVars_nil)), (ng_sub oB vb).symm⟩)
theorem f30 (n : Bool) (A : List Int) (m : Bool) (B : List Int) (hA : A.length ≤ 9223372036854775807) (hB : B.length ≤ 9223372036854775807) (oA : ok32 A) (oB : ok32 B) : VF Try.prog 30 [.agg [boolB (n), u32S (A)], .agg [boolB (m), u32S (B)]] (gR (validB n A && validB m B) (zOf n A * zOf m B)) := by
  refine VF_of P_mixed Try.func30 rfl rfl (by kernel_rfl) ?_
  refine VCode.seq ?_
  refine VCode.region ?_
  refine VList.go1 (n' := 1) rfl rfl (.box _ _ _ rfl (List.cons_ne_nil _ _) rfl) rfl ?_
  refine VList.go1 (n' := 2) rfl rfl (.box _ _ _ rfl (List.cons_ne_nil _ _) rfl) rfl ?_
  refine VList.go1 (n' := 3) rfl rfl (.alloc _ _ P_zero24 (List.cons_ne_nil _ _)) rfl ?_
  refine VList.go0 (n' := 4) rfl rfl (.assign _ _ rfl) rfl ?_
  refine VList.nil (Then.go ?_)
  refine VCode.seq ?_
  refine VCode.seq ?_
  refine VCode.region ?_
  refine VList.go0 (n' := 5) rfl rfl (.loadS _ _ _ _ _ _ rfl rfl P_agg24 P_sz24 (Nat.le_of_ble_eq_true rfl)) rfl ?_
  refine VList.go0 (n' := 6) rfl rfl (.callF _ _ _ _ _ _ rfl (ress_cons rfl ress_nil) (f26 _ _ (by first | omega | assumption | (simp; done) | (simp; omega))) rfl) rfl ?_
  refine VList.go0 (n' := 7) rfl rfl (.un _ _ _ _ _ rfl rfl) rfl ?_
  refine VList.go0 (n' := 8) rfl rfl (.move _ _ rfl) rfl ?_
  refine VList.split (d := 9) _ rfl (fun hc1 => ?_) (fun hc1 => ?_)
  · replace hc1 := (bnot_t hc1)
    refine VList.skip (n' := 9) rfl rfl rfl ?_
    refine VList.skip (n' := 10) rfl rfl rfl ?_
    refine VList.skip (n' := 11) rfl rfl rfl ?_
    refine VList.go0 (n' := 12) rfl rfl (.pick _ _ _ _ _ rfl rfl) rfl ?_
    refine VList.nil (Then.go ?_)
    refine VCode.cond _ rfl (fun _ => ?_) (fun h_ => Bool.noConfusion h_)
    refine VCode.seq ?_
    refine VCode.region ?_
    refine VList.go0 (n' := 13) rfl rfl Eff.int0 rfl ?_
    refine VList.goS (n' := 14) rfl rfl (.store _ _ _ _ _ _ _ rfl rfl rfl rfl P_sz24 (Nat.le_of_ble_eq_true rfl) rfl) rfl ?_
    refine VList.go0 (n' := 15) rfl rfl (.assign _ _ rfl) rfl ?_
    refine VList.nil (Then.go ?_)
    exact VCode.ret (Then.ret (⟨trivial, [.agg [boolB (false), u32S ([])], numB .i64 (1)], (resVars_cons (resVar_cell rfl rfl P_agg24 P_sz24 (Nat.le_of_ble_eq_true rfl) rfl) (resVars_cons (resVar_tmp rfl rfl) resVars_nil)), (by rw [gR_false (by simp [*])]; rfl)⟩))
  · replace hc1 := (bnot_f hc1)
    refine VList.go0 (n' := 9) rfl rfl (.loadS _ _ _ _ _ _ rfl rfl P_agg24 P_sz24 (Nat.le_of_ble_eq_true rfl)) rfl ?_
    refine VList.go0 (n' := 10) rfl rfl (.callF _ _ _ _ _ _ rfl (ress_cons rfl ress_nil) (f26 _ _ (by first | omega | assumption | (simp; done) | (simp; omega))) rfl) rfl ?_
    refine VList.go0 (n' := 11) rfl rfl (.un _ _ _ _ _ rfl rfl) rfl ?_
    refine VList.go0 (n' := 12) rfl rfl (.pick _ _ _ _ _ rfl rfl) rfl ?_
    refine VList.nil (Then.go ?_)
    refine VCode.cond _ rfl (fun hc2 => ?_) (fun hc2 => ?_)
    · replace hc2 := (bnot_t hc2)
      refine VCode.seq ?_
      refine VCode.region ?_
      refine VList.go0 (n' := 13) rfl rfl Eff.int0 rfl ?_
      refine VList.goS (n' := 14) rfl rfl (.store _ _ _ _ _ _ _ rfl rfl rfl rfl P_sz24 (Nat.le_of_ble_eq_true rfl) rfl) rfl ?_
      refine VList.go0 (n' := 15) rfl rfl (.assign _ _ rfl) rfl ?_
      refine VList.nil (Then.go ?_)
      exact VCode.ret (Then.ret (⟨trivial, [.agg [boolB (false), u32S ([])], numB .i64 (1)], (resVars_cons (resVar_cell rfl rfl P_agg24 P_sz24 (Nat.le_of_ble_eq_true rfl) rfl) (resVars_cons (resVar_tmp rfl rfl) resVars_nil)), (by rw [gR_false (by simp [*])]; rfl)⟩))
    · replace hc2 := (bnot_f hc2)
      refine VCode.skip (Then.go ?_)
      refine VCode.seq ?_
      have va : validB n A = true := by assumption
      have vb : validB m B = true := by assumption
      have hv := vv va vb
      obtain ⟨nA, lA, sA⟩ := valid_norm oA va
      obtain ⟨nB, lB, sB⟩ := valid_norm oB vb
      have vA := val_nonneg oA
      have vB_ := val_nonneg oB
      have m0 := Int.mul_nonneg (val_nonneg oA) (val_nonneg oB)
      refine VCode.draw (by kernel_rfl) ?_
      refine VLog.go0 (n' := 13) rfl rfl (.fieldAddr _ _ _ _ _ _ _ _ rfl P_fld24_0) rfl ?_
      refine VLog.go0 (n' := 14) rfl rfl (.load1 _ _ _ _ _ _ rfl rfl P_agg4 rfl) rfl ?_
      refine VLog.go0 (n' := 15) rfl rfl (.fieldAddr _ _ _ _ _ _ _ _ rfl P_fld24_0) rfl ?_
      refine VLog.go0 (n' := 16) rfl rfl (.load1 _ _ _ _ _ _ rfl rfl P_agg4 rfl) rfl ?_
      refine VLog.go0 (n' := 17) rfl rfl (.binB _ _ _ _ _ _ _ _ rfl rfl Try.underlying4 rfl) rfl ?_
      refine VLog.go0 (n' := 18) rfl rfl (.fieldAddr _ _ _ _ _ _ _ _ rfl P_fld24_1) rfl ?_
      refine VLog.go0 (n' := 19) rfl rfl (.load1 _ _ _ _ _ _ rfl rfl P_agg22 rfl) rfl ?_
      refine VLog.go0 (n' := 20) rfl rfl (.fieldAddr _ _ _ _ _ _ _ _ rfl P_fld24_1) rfl ?_
      refine VLog.go0 (n' := 21) rfl rfl (.load1 _ _ _ _ _ _ rfl rfl P_agg22 rfl) rfl ?_
      refine VLog.go0 (n' := 22) rfl rfl (Eff.callV0 rfl (ress_cons rfl (ress_cons rfl ress_nil)) (f65 _ _ (by first | omega | assumption | (simp; done) | (simp; omega)) (by first | omega | assumption | (simp; done) | (simp; omega)) (by first | omega | assumption | (simp; done) | (simp; omega)) (by first | omega | assumption | (simp; done) | (simp; omega))) rfl) rfl ?_
      refine VLog.go0 (n' := 23) rfl rfl (Eff.callV0 rfl (ress_cons rfl (ress_cons rfl ress_nil)) (f58 _ _ (mul_len oA oB lA lB) (ok32_dg _)) rfl) rfl ?_
      refine VLog.go0 (n' := 24) rfl rfl (.extract _ _ _ _ rfl rfl) rfl ?_
      refine VLog.go0 (n' := 25) rfl rfl (.extract _ _ _ _ rfl rfl) rfl ?_
      refine VLog.goS (n' := 26) rfl rfl (.store _ _ _ _ _ _ _ rfl rfl rfl rfl P_sz24 (Nat.le_of_ble_eq_true rfl) rfl) rfl ?_
      refine VLog.go0 (n' := 27) rfl rfl (.assign _ _ rfl) rfl ?_
      refine VLog.nil ⟨by kernel_rfl, Then.go ?_⟩
      exact VCode.ret (⟨trivial, [.agg [boolB (zN (sg ((!(n == m))) (val (dg (val (A) * val (B)))))), u32S (zL (sg ((!(n == m))) (val (dg (val (A) * val (B))))))], numB .i64 (zE (sg ((!(n == m))) (val (dg (val (A) * val (B))))))], (resVars_cons (resVar_cell rfl rfl P_agg24 P_sz24 (Nat.le_of_ble_eq_true rfl) rfl) (resVars_cons (resVar_tmp rfl rfl) resVars_nil)), (by rw [gR_true hv, show zOf n A * zOf m B = sg (!(n == m)) (val A * val B) from sg_mul, val_dg m0]; rfl)⟩)
theorem f37 (n : Int) (h0 : -9223372036854775808 ≤ n) (h1 : n ≤ 9223372036854775807) : VF Try.prog 37 [numB .i64 (n)] (intB (zN n) (zL n)) := by
  refine VF_of P_mixed Try.func37 rfl rfl (by kernel_rfl) ?_
  refine VCode.seq ?_
  refine VCode.region ?_
  refine VList.go1 (n' := 1) rfl rfl (.alloc _ _ P_zero24 (List.cons_ne_nil _ _)) rfl ?_
  refine VList.nil (Then.go ?_)
  refine VCode.seq ?_
  have hi := small_in h0 h1
  refine VCode.region ?_
  refine VList.go0 (n' := 2) rfl rfl (.move _ _ rfl) rfl ?_
  refine VList.go0 (n' := 3) rfl rfl (Eff.convM_u64 rfl Try.underlying3 Try.underlying62) rfl ?_
  refine VList.go0 (n' := 4) rfl rfl (.assign _ _ rfl) rfl ?_
  refine VList.nil (Then.go ?_)
  refine VCode.seq ?_
  refine VCode.seq ?_
  refine VCode.region ?_
  refine VList.go0 (n' := 5) rfl rfl (.move _ _ rfl) rfl ?_
  refine VList.go0 (n' := 6) rfl rfl (.bin _ _ _ _ _ _ _ _ rfl rfl rfl) rfl ?_
  refine VList.nil (Then.go ?_)
  refine VCode.cond _ rfl (fun hc1 => ?_) (fun hc1 => ?_)
  · replace hc1 := of_decide_eq_true hc1
    refine VCode.region ?_
    refine VList.go0 (n' := 7) rfl rfl (.move _ _ rfl) rfl ?_
    refine VList.go0 (n' := 8) rfl rfl (.un _ _ _ _ _ rfl (uopM_neg_u64 _)) rfl ?_
    refine VList.go0 (n' := 9) rfl rfl (.assign _ _ rfl) rfl ?_
    refine VList.nil (Then.go ?_)
    refine VCode.seq ?_
    refine VCode.region ?_
    refine VList.go0 (n' := 10) rfl rfl (.move _ _ rfl) rfl ?_
    refine VList.go0 (n' := 11) rfl rfl (.bin _ _ _ _ _ _ _ _ rfl rfl rfl) rfl ?_
    refine VList.go1 (n' := 12) rfl rfl (Eff.lits0 Try.underlying22 P_zero51 P_sz51) rfl ?_
    refine VList.go0 (n' := 13) rfl rfl (.move _ _ rfl) rfl ?_
    refine VList.go0 (n' := 14) rfl rfl (Eff.convM_u32 rfl Try.underlying62 Try.underlying51) rfl ?_
    refine VList.go0 (n' := 15) rfl rfl (.move _ _ rfl) rfl ?_
    refine VList.go0 (n' := 16) rfl rfl (.bin _ _ _ _ _ _ _ _ rfl rfl (bop_shrL_u64 (q := 4294967296) (by decide) (by decide) (by decide))) rfl ?_
    refine VList.go0 (n' := 17) rfl rfl (Eff.convM_u32 rfl Try.underlying62 Try.underlying51) rfl ?_
    refine VList.go1 (n' := 18) rfl rfl (Eff.lits2 rfl rfl Try.underlying22 P_zero51 P_sz51) rfl ?_
    refine VList.goN (n' := 19) rfl rfl (.callV _ _ _ _ _ _ rfl (ress_cons (res_row rfl (by first | omega | (simp; done) | (simp; omega) | (simp [*]; done) | (simp [*]; omega))) ress_nil) (f66 _ (by simp) (ok32_two (by omega) (by omega)))) rfl ?_
    refine VList.goN (n' := 20) rfl rfl (Eff.appendRow rfl rfl (by first | omega | (simp; done) | (simp; omega)) rfl rfl (show _ ∉ ([] : List Nat) from List.not_mem_nil) Try.underlying22 P_sz51 P_bytes51 P_zero51 (len_w (by omega) (by omega))) rfl ?_
    refine VList.go0 (n' := 21) rfl rfl (Eff.int2 rfl rfl rfl rfl) rfl ?_
    refine VList.goS (n' := 22) rfl rfl (.store _ _ _ _ _ _ _ rfl rfl rfl rfl P_sz24 (Nat.le_of_ble_eq_true rfl) rfl) rfl ?_
    refine VList.nil (Then.go ?_)
    exact VCode.ret (⟨trivial, [.agg [boolB (decide (n < 0)), u32S (([]) ++ (dg (val ([((((0 - ((n) % 18446744073709551616)) % 18446744073709551616)) % 4294967296), (((((0 - ((n) % 18446744073709551616)) % 18446744073709551616) / 4294967296)) % 4294967296)]))))]], (resVars_cons (resVar_cell rfl rfl P_agg24 P_sz24 (Nat.le_of_ble_eq_true rfl) (res_agg rfl (by simp))) resVars_nil), (by rw [(z_in hi).1, (z_in hi).2, of_val (by omega), show (0 - n % 18446744073709551616) % 18446744073709551616 = (n.natAbs : Int) by omega]; rfl)⟩)
  · replace hc1 := of_decide_eq_false hc1
    refine VCode.skip (Then.go ?_)
    refine VCode.seq ?_
    refine VCode.region ?_
    refine VList.go0 (n' := 7) rfl rfl (.move _ _ rfl) rfl ?_
    refine VList.go0 (n' := 8) rfl rfl (.bin _ _ _ _ _ _ _ _ rfl rfl rfl) rfl ?_
    refine VList.go1 (n' := 9) rfl rfl (Eff.lits0 Try.underlying22 P_zero51 P_sz51) rfl ?_
    refine VList.go0 (n' := 10) rfl rfl (.move _ _ rfl) rfl ?_
    refine VList.go0 (n' := 11) rfl rfl (Eff.convM_u32 rfl Try.underlying62 Try.underlying51) rfl ?_
    refine VList.go0 (n' := 12) rfl rfl (.move _ _ rfl) rfl ?_
    refine VList.go0 (n' := 13) rfl rfl (.bin _ _ _ _ _ _ _ _ rfl rfl (bop_shrL_u64 (q := 4294967296) (by decide) (by decide) (by decide))) rfl ?_
    refine VList.go0 (n' := 14) rfl rfl (Eff.convM_u32 rfl Try.underlying62 Try.underlying51) rfl ?_
    refine VList.go1 (n' := 15) rfl rfl (Eff.lits2 rfl rfl Try.underlying22 P_zero51 P_sz51) rfl ?_
    refine VList.goN (n' := 16) rfl rfl (.callV _ _ _ _ _ _ rfl (ress_cons (res_row rfl (by first | omega | (simp; done) | (simp; omega) | (simp [*]; done) | (simp [*]; omega))) ress_nil) (f66 _ (by simp) (ok32_two (by omega) (by omega)))) rfl ?_
    refine VList.goN (n' := 17) rfl rfl (Eff.appendRow rfl rfl (by first | omega | (simp; done) | (simp; omega)) rfl rfl (show _ ∉ ([] : List Nat) from List.not_mem_nil) Try.underlying22 P_sz51 P_bytes51 P_zero51 (len_w (by omega) (by omega))) rfl ?_
    refine VList.go0 (n' := 18) rfl rfl (Eff.int2 rfl rfl rfl rfl) rfl ?_
    refine VList.goS (n' := 19) rfl rfl (.store _ _ _ _ _ _ _ rfl rfl rfl rfl P_sz24 (Nat.le_of_ble_eq_true rfl) rfl) rfl ?_
    refine VList.nil (Then.go ?_)
    exact VCode.ret (⟨trivial, [.agg [boolB (decide (n < 0)), u32S (([]) ++ (dg (val ([((((n) % 18446744073709551616)) % 4294967296), (((((n) % 18446744073709551616) / 4294967296)) % 4294967296)]))))]], (resVars_cons (resVar_cell rfl rfl P_agg24 P_sz24 (Nat.le_of_ble_eq_true rfl) (res_agg rfl (by simp))) resVars_nil), (by rw [(z_in hi).1, (z_in hi).2, of_val (by omega), show n % 18446744073709551616 = (n.natAbs : Int) by omega]; rfl)⟩)
theorem f34 (n : Bool) (A : List Int) (m : Bool) (B : List Int) (hA : A.length ≤ 9223372036854775807) (hB : B.length ≤ 9223372036854775807) (oA : ok32 A) (oB : ok32 B) : VF Try.prog 34 [.agg [boolB (n), u32S (A)], .agg [boolB (m), u32S (B)]] (.tup [numB .i64 (cC (validB n A && validB m B) (zOf n A) (zOf m B)), numB .i64 (cE (validB n A && validB m B))]) := by
  refine VF_of P_mixed Try.func34 rfl rfl (by kernel_rfl) ?_
  refine VCode.seq ?_
  refine VCode.region ?_
  refine VList.go1 (n' := 1) rfl rfl (.box _ _ _ rfl (List.cons_ne_nil _ _) rfl) rfl ?_
  refine VList.go1 (n' := 2) rfl rfl (.box _ _ _ rfl (List.cons_ne_nil _ _) rfl) rfl ?_
  refine VList.go0 (n' := 3) rfl rfl (.assign _ _ rfl) rfl ?_
  refine VList.go0 (n' := 4) rfl rfl (.assign _ _ rfl) rfl ?_
  refine VList.nil (Then.go ?_)
  refine VCode.seq ?_
  refine VCode.seq ?_
  refine VCode.region ?_
  refine VList.go0 (n' := 5) rfl rfl (.loadS _ _ _ _ _ _ rfl rfl P_agg24 P_sz24 (Nat.le_of_ble_eq_true rfl)) rfl ?_
  refine VList.go0 (n' := 6) rfl rfl (.callF _ _ _ _ _ _ rfl (ress_cons rfl ress_nil) (f26 _ _ (by first | omega | assumption | (simp; done) | (simp; omega))) rfl) rfl ?_
  refine VList.go0 (n' := 7) rfl rfl (.un _ _ _ _ _ rfl rfl) rfl ?_
  refine VList.go0 (n' := 8) rfl rfl (.move _ _ rfl) rfl ?_
  refine VList.split (d := 9) _ rfl (fun hc1 => ?_) (fun hc1 => ?_)
  · replace hc1 := (bnot_t hc1)
    refine VList.skip (n' := 9) rfl rfl rfl ?_
    refine VList.skip (n' := 10) rfl rfl rfl ?_
    refine VList.skip (n' := 11) rfl rfl rfl ?_
    refine VList.go0 (n' := 12) rfl rfl (.pick _ _ _ _ _ rfl rfl) rfl ?_
    refine VList.nil (Then.go ?_)
    refine VCode.cond _ rfl (fun _ => ?_) (fun h_ => Bool.noConfusion h_)
    refine VCode.seq ?_
    refine VCode.region ?_
    refine VList.go0 (n' := 13) rfl rfl (.assign _ _ rfl) rfl ?_
    refine VList.go0 (n' := 14) rfl rfl (.assign _ _ rfl) rfl ?_
    refine VList.nil (Then.go ?_)
    exact VCode.ret (Then.ret (⟨trivial, [numB .i64 (0), numB .i64 (1)], (resVars_cons (resVar_tmp rfl rfl) (resVars_cons (resVar_tmp rfl rfl) resVars_nil)), (by rw [cC_false (by simp [*]), cE_false (by simp [*])]; rfl)⟩))
  · replace hc1 := (bnot_f hc1)
    refine VList.go0 (n' := 9) rfl rfl (.loadS _ _ _ _ _ _ rfl rfl P_agg24 P_sz24 (Nat.le_of_ble_eq_true rfl)) rfl ?_
    refine VList.go0 (n' := 10) rfl rfl (.callF _ _ _ _ _ _ rfl (ress_cons rfl ress_nil) (f26 _ _ (by first | omega | assumption | (simp; done) | (simp; omega))) rfl) rfl ?_
    refine VList.go0 (n' := 11) rfl rfl (.un _ _ _ _ _ rfl rfl) rfl ?_
    refine VList.go0 (n' := 12) rfl rfl (.pick _ _ _ _ _ rfl rfl) rfl ?_
    refine VList.nil (Then.go ?_)
    refine VCode.cond _ rfl (fun hc2 => ?_) (fun hc2 => ?_)
    · replace hc2 := (bnot_t hc2)
      refine VCode.seq ?_
      refine VCode.region ?_
      refine VList.go0 (n' := 13) rfl rfl (.assign _ _ rfl) rfl ?_
      refine VList.go0 (n' := 14) rfl rfl (.assign _ _ rfl) rfl ?_
      refine VList.nil (Then.go ?_)
      exact VCode.ret (Then.ret (⟨trivial, [numB .i64 (0), numB .i64 (1)], (resVars_cons (resVar_tmp rfl rfl) (resVars_cons (resVar_tmp rfl rfl) resVars_nil)), (by rw [cC_false (by simp [*]), cE_false (by simp [*])]; rfl)⟩))
    · replace hc2 := (bnot_f hc2)
      refine VCode.skip (Then.go ?_)
      refine VCode.seq ?_
      refine VCode.seq ?_
      have va : validB n A = true := by assumption
      have vb : validB m B = true := by assumption
      have hv := vv va vb
      obtain ⟨nA, lA, sA⟩ := valid_norm oA va
      obtain ⟨nB, lB, sB⟩ := valid_norm oB vb
      have vA := val_nonneg oA
      have vB_ := val_nonneg oB
      refine VCode.region ?_
      refine VList.go0 (n' := 13) rfl rfl (.fieldAddr _ _ _ _ _ _ _ _ rfl P_fld24_0) rfl ?_
      refine VList.go0 (n' := 14) rfl rfl (.load1 _ _ _ _ _ _ rfl rfl P_agg4 rfl) rfl ?_
      refine VList.go0 (n' := 15) rfl rfl (.fieldAddr _ _ _ _ _ _ _ _ rfl P_fld24_0) rfl ?_
      refine VList.go0 (n' := 16) rfl rfl (.load1 _ _ _ _ _ _ rfl rfl P_agg4 rfl) rfl ?_
      refine VList.go0 (n' := 17) rfl rfl (.binB _ _ _ _ _ _ _ _ rfl rfl Try.underlying4 rfl) rfl ?_
      refine VList.nil (Then.go ?_)
      refine VCode.cond _ rfl (fun hc3 => ?_) (fun hc3 => ?_)
      · replace hc3 := ne_of_beq_false (bnot_t hc3)
        refine VCode.seq ?_
        refine VCode.seq ?_
        refine VCode.region ?_
        refine VList.go0 (n' := 18) rfl rfl (.fieldAddr _ _ _ _ _ _ _ _ rfl P_fld24_0) rfl ?_
        refine VList.go0 (n' := 19) rfl rfl (.load1 _ _ _ _ _ _ rfl rfl P_agg4 rfl) rfl ?_
        refine VList.nil (Then.go ?_)
        refine VCode.cond _ rfl (fun hc4 => ?_) (fun hc4 => ?_)
        · (try simp at hc4)
          refine VCode.seq ?_
          refine VCode.region ?_
          refine VList.go0 (n' := 20) rfl rfl (.assign _ _ rfl) rfl ?_
          refine VList.go0 (n' := 21) rfl rfl (.assign _ _ rfl) rfl ?_
          refine VList.nil (Then.go ?_)
          exact VCode.ret (Then.ret (Then.ret (⟨trivial, [numB .i64 ((-1)), numB .i64 (0)], (resVars_cons (resVar_tmp rfl rfl) (resVars_cons (resVar_tmp rfl rfl) resVars_nil)), (by rw [cC_true hv, cE_true hv]; cases n <;> cases m <;> first | contradiction | (rw [cmp3_np (neg_pos nA sA rfl) vB_]; rfl) | (rw [cmp3_pn vA (neg_pos nB sB rfl)]; rfl) | (rw [cmp3_nn, ← cmp3_anti]; rfl) | (rw [cmp3_pp]; rfl))⟩)))
        · (try simp at hc4)
          refine VCode.skip (Then.go ?_)
          refine VCode.seq ?_
          refine VCode.region ?_
          refine VList.go0 (n' := 20) rfl rfl (.assign _ _ rfl) rfl ?_
          refine VList.go0 (n' := 21) rfl rfl (.assign _ _ rfl) rfl ?_
          refine VList.nil (Then.go ?_)
          exact VCode.ret (Then.ret (⟨trivial, [numB .i64 (1), numB .i64 (0)], (resVars_cons (resVar_tmp rfl rfl) (resVars_cons (resVar_tmp rfl rfl) resVars_nil)), (by rw [cC_true hv, cE_true hv]; cases n <;> cases m <;> first | contradiction | (rw [cmp3_np (neg_pos nA sA rfl) vB_]; rfl) | (rw [cmp3_pn vA (neg_pos nB sB rfl)]; rfl) | (rw [cmp3_nn, ← cmp3_anti]; rfl) | (rw [cmp3_pp]; rfl))⟩))
      · replace hc3 := eq_of_beq (bnot_f hc3)
        refine VCode.skip (Then.go ?_)
        refine VCode.seq ?_
        refine VCode.seq ?_
        refine VCode.region ?_
        refine VList.go0 (n' := 18) rfl rfl (.fieldAddr _ _ _ _ _ _ _ _ rfl P_fld24_0) rfl ?_
        refine VList.go0 (n' := 19) rfl rfl (.load1 _ _ _ _ _ _ rfl rfl P_agg4 rfl) rfl ?_
        refine VList.nil (Then.go ?_)
        refine VCode.cond _ rfl (fun hc5 => ?_) (fun hc5 => ?_)
        · (try simp at hc5)
          refine VCode.seq ?_
          refine VCode.region ?_
          refine VList.go0 (n' := 20) rfl rfl (.fieldAddr _ _ _ _ _ _ _ _ rfl P_fld24_1) rfl ?_
          refine VList.go0 (n' := 21) rfl rfl (.load1 _ _ _ _ _ _ rfl rfl P_agg22 rfl) rfl ?_
          refine VList.go0 (n' := 22) rfl rfl (.fieldAddr _ _ _ _ _ _ _ _ rfl P_fld24_1) rfl ?_
          refine VList.go0 (n' := 23) rfl rfl (.load1 _ _ _ _ _ _ rfl rfl P_agg22 rfl) rfl ?_
          refine VList.go0 (n' := 24) rfl rfl (.callF _ _ _ _ _ _ rfl (ress_cons rfl (ress_cons rfl ress_nil)) (f72 _ _ (by first | omega | assumption | (simp; done) | (simp; omega)) (by first | omega | assumption | (simp; done) | (simp; omega)) (by first | omega | assumption | (simp; done) | (simp; omega)) (by first | omega | assumption | (simp; done) | (simp; omega)) (fun h => cmp_len nB nA h)) rfl) rfl ?_
          refine VList.go0 (n' := 25) rfl rfl (.assign _ _ rfl) rfl ?_
          refine VList.go0 (n' := 26) rfl rfl (.assign _ _ rfl) rfl ?_
          refine VList.nil (Then.go ?_)
          exact VCode.ret (Then.ret (⟨trivial, [numB .i64 (cmp3 (val (B)) (val (A))), numB .i64 (0)], (resVars_cons (resVar_tmp rfl rfl) (resVars_cons (resVar_tmp rfl rfl) resVars_nil)), (by rw [cC_true hv, cE_true hv]; cases n <;> cases m <;> first | contradiction | (rw [cmp3_np (neg_pos nA sA rfl) vB_]; rfl) | (rw [cmp3_pn vA (neg_pos nB sB rfl)]; rfl) | (rw [cmp3_nn, ← cmp3_anti]; rfl) | (rw [cmp3_pp]; rfl))⟩))
        · (try simp at hc5)
          refine VCode.skip (Then.go ?_)
          refine VCode.seq ?_
          refine VCode.region ?_
          refine VList.go0 (n' := 20) rfl rfl (.fieldAddr _ _ _ _ _ _ _ _ rfl P_fld24_1) rfl ?_
          refine VList.go0 (n' := 21) rfl rfl (.load1 _ _ _ _ _ _ rfl rfl P_agg22 rfl) rfl ?_
          refine VList.go0 (n' := 22) rfl rfl (.fieldAddr _ _ _ _ _ _ _ _ rfl P_fld24_1) rfl ?_
          refine VList.go0 (n' := 23) rfl rfl (.load1 _ _ _ _ _ _ rfl rfl P_agg22 rfl) rfl ?_
          refine VList.go0 (n' := 24) rfl rfl (.callF _ _ _ _ _ _ rfl (ress_cons rfl (ress_cons rfl ress_nil)) (f72 _ _ (by first | omega | assumption | (simp; done) | (simp; omega)) (by first | omega | assumption | (simp; done) | (simp; omega)) (by first | omega | assumption | (simp; done) | (simp; omega)) (by first | omega | assumption | (simp; done) | (simp; omega)) (fun h => cmp_len nA nB h)) rfl) rfl ?_
          refine VList.go0 (n' := 25) rfl rfl (.assign _ _ rfl) rfl ?_
          refine VList.go0 (n' := 26) rfl rfl (.assign _ _ rfl) rfl ?_
          refine VList.nil (Then.go ?_)
          exact VCode.ret (⟨trivial, [numB .i64 (cmp3 (val (A)) (val (B))), numB .i64 (0)], (resVars_cons (resVar_tmp rfl rfl) (resVars_cons (resVar_tmp rfl rfl) resVars_nil)), (by rw [cC_true hv, cE_true hv]; cases n <;> cases m <;> first | contradiction | (rw [cmp3_np (neg_pos nA sA rfl) vB_]; rfl) | (rw [cmp3_pn vA (neg_pos nB sB rfl)]; rfl) | (rw [cmp3_nn, ← cmp3_anti]; rfl) | (rw [cmp3_pp]; rfl))⟩)
end Go.VL

/- Walks over the Go functions, printed by a program of this session over the kit's print, and by hand. -/
set_option linter.unusedVariables false
set_option linter.unusedSimpArgs false
namespace Go.VL
open Go.Proofs
theorem f70 (L : List Int) (i : Int) (hL : L.length ≤ 1000000000) (oL : ok32 L) (i0 : 0 ≤ i) (i1 : i ≤ 100000000000) : VF Try.prog 70 [u32S (L), numB .i64 (i)] (numB .u32 (val L / 2 ^ i.toNat % 2)) := by
  refine VF_of P_mixed Try.func70 rfl rfl (by kernel_rfl) ?_
  refine VCode.seq ?_
  refine VCode.region ?_
  refine VList.go0 (n' := 1) rfl rfl (.assign _ _ rfl) rfl ?_
  refine VList.nil (Then.go ?_)
  refine VCode.seq ?_
  refine VCode.seq ?_
  refine VCode.region ?_
  refine VList.go0 (n' := 2) rfl rfl (.move _ _ rfl) rfl ?_
  refine VList.go0 (n' := 3) rfl rfl (.bin _ _ _ _ _ _ _ _ rfl rfl (bop_quo_i64 (by first | omega | (simp; done) | (simp; omega)) (by first | omega | (simp; done) | (simp; omega)) (by first | omega | (simp; done) | (simp; omega)))) rfl ?_
  refine VList.go0 (n' := 4) rfl rfl (.move _ _ rfl) rfl ?_
  refine VList.go0 (n' := 5) rfl rfl (Eff.lenS rfl Try.underlying22) rfl ?_
  refine VList.go0 (n' := 6) rfl rfl (.bin _ _ _ _ _ _ _ _ rfl rfl rfl) rfl ?_
  refine VList.nil (Then.go ?_)
  refine VCode.cond _ rfl (fun hc1 => ?_) (fun hc1 => ?_)
  · replace hc1 := of_decide_eq_true hc1
    refine VCode.seq ?_
    refine VCode.region ?_
    refine VList.go0 (n' := 7) rfl rfl (.assign _ _ rfl) rfl ?_
    refine VList.nil (Then.go ?_)
    exact VCode.ret (Then.ret (⟨trivial, [numB .u32 (0)], (resVars_cons (resVar_tmp rfl rfl) resVars_nil), (by rw [bit_out oL (by omega)]; rfl)⟩))
  · replace hc1 := of_decide_eq_false hc1
    refine VCode.skip (Then.go ?_)
    refine VCode.seq ?_
    have hx := ok32_getD oL (i / 32).toNat
    have hs0 := Int.ediv_nonneg hx.1 (Int.le_of_lt (two_pow_pos (i % 32).toNat))
    have hs1 := Int.ediv_le_self (2 ^ (i % 32).toNat) hx.1
    refine VCode.region ?_
    refine VList.go0 (n' := 7) rfl rfl (.move _ _ rfl) rfl ?_
    refine VList.go0 (n' := 8) rfl rfl (.move _ _ rfl) rfl ?_
    refine VList.go0 (n' := 9) rfl rfl (.bin _ _ _ _ _ _ _ _ rfl rfl (bop_quo_i64 (by first | omega | (simp; done) | (simp; omega)) (by first | omega | (simp; done) | (simp; omega)) (by first | omega | (simp; done) | (simp; omega)))) rfl ?_
    refine VList.go0 (n' := 10) rfl rfl (Eff.indexRd rfl rfl Try.underlying22 P_sz51 (by first | omega | (simp; done) | (simp; omega)) (by first | omega | (simp; done) | (simp; omega))) rfl ?_
    refine VList.go0 (n' := 11) rfl rfl (.loadRd1 _ _ _ _ rfl P_agg51 rfl) rfl ?_
    refine VList.go0 (n' := 12) rfl rfl (.move _ _ rfl) rfl ?_
    refine VList.go0 (n' := 13) rfl rfl (.bin _ _ _ _ _ _ _ _ rfl rfl (bop_rem_i64 (by first | omega | (simp; done) | (simp; omega)) (by first | omega | (simp; done) | (simp; omega)))) rfl ?_
    refine VList.go0 (n' := 14) rfl rfl (.bin _ _ _ _ _ _ _ (.int .u32 (((L).getD ((i / 32)).toNat 0 / 2 ^ ((i % 32)).toNat))) rfl rfl (bop_shr_u32 (by omega) (by omega))) rfl ?_
    refine VList.go0 (n' := 15) rfl rfl (.bin _ _ _ _ _ _ _ (.int .u32 ((((L).getD ((i / 32)).toNat 0 / 2 ^ ((i % 32)).toNat) % 2))) rfl rfl (bop_mask_u32 (q := 2) 1 (by decide) (by decide) (by decide) (by omega))) rfl ?_
    refine VList.go0 (n' := 16) rfl rfl (.assign _ _ rfl) rfl ?_
    refine VList.nil (Then.go ?_)
    exact VCode.ret (⟨trivial, [numB .u32 ((((L).getD ((i / 32)).toNat 0 / 2 ^ ((i % 32)).toNat) % 2))], (resVars_cons (resVar_tmp rfl rfl) resVars_nil), (by rw [bit_in (q := (i / 32).toNat) (r := (i % 32).toNat) oL (by omega) (by omega) (by omega)]; rfl)⟩)
theorem f78 (L : List Int) (hL : L.length ≤ 1000000000) (nL : norm L) : VF Try.prog 78 [u32S (L)] (numB .i64 ((blen (val L).toNat : Nat) : Int)) := by
  refine VF_of P_mixed Try.func78 rfl rfl (by kernel_rfl) ?_
  refine VCode.seq ?_
  refine VCode.region ?_
  refine VList.go0 (n' := 1) rfl rfl (.assign _ _ rfl) rfl ?_
  refine VList.nil (Then.go ?_)
  refine VCode.seq ?_
  refine VCode.seq ?_
  refine VCode.region ?_
  refine VList.go0 (n' := 2) rfl rfl (.move _ _ rfl) rfl ?_
  refine VList.go0 (n' := 3) rfl rfl (Eff.lenS rfl Try.underlying22) rfl ?_
  refine VList.go0 (n' := 4) rfl rfl (.bin _ _ _ _ _ _ _ _ rfl rfl rfl) rfl ?_
  refine VList.nil (Then.go ?_)
  refine VCode.cond _ rfl (fun hc1 => ?_) (fun hc1 => ?_)
  · replace hc1 := eq_of_beq hc1
    refine VCode.seq ?_
    refine VCode.region ?_
    refine VList.go0 (n' := 5) rfl rfl (.assign _ _ rfl) rfl ?_
    refine VList.nil (Then.go ?_)
    exact VCode.ret (Then.ret (⟨trivial, [numB .i64 (0)], (resVars_cons (resVar_tmp rfl rfl) resVars_nil), (by rw [norm_zero nL (by omega)]; exact congrArg (numB .i64) (by simp [blen_zero]))⟩))
  · replace hc1 := ne_of_beq_false hc1
    refine VCode.skip (Then.go ?_)
    refine VCode.seq ?_
    have hx := ok32_getD nL.1 ((((L).length : Int) - 1)).toNat
    have e0 := blen_val (q := ((((L).length : Int) - 1)).toNat) nL (by omega) (by omega)
    have e1 := (blen_lt 32 ((L).getD ((((L).length : Int) - 1)).toNat 0).toNat).2 (by omega)
    refine VCode.region ?_
    refine VList.go0 (n' := 5) rfl rfl (.move _ _ rfl) rfl ?_
    refine VList.go0 (n' := 6) rfl rfl (Eff.lenS rfl Try.underlying22) rfl ?_
    refine VList.go0 (n' := 7) rfl rfl (.bin _ _ _ _ _ _ _ _ rfl rfl (bop_sub_i64 (by first | omega | (simp; done) | (simp; omega)))) rfl ?_
    refine VList.go0 (n' := 8) rfl rfl (.bin _ _ _ _ _ _ _ _ rfl rfl (bop_mul_i64 (by first | omega | (simp; done) | (simp; omega)))) rfl ?_
    refine VList.go0 (n' := 9) rfl rfl (.assign _ _ rfl) rfl ?_
    refine VList.nil (Then.go ?_)
    refine VCode.seq ?_
    refine VCode.seq ?_
    refine VCode.region ?_
    refine VList.go0 (n' := 10) rfl rfl (.move _ _ rfl) rfl ?_
    refine VList.go0 (n' := 11) rfl rfl (.move _ _ rfl) rfl ?_
    refine VList.go0 (n' := 12) rfl rfl (Eff.lenS rfl Try.underlying22) rfl ?_
    refine VList.go0 (n' := 13) rfl rfl (.bin _ _ _ _ _ _ _ _ rfl rfl (bop_sub_i64 (by first | omega | (simp; done) | (simp; omega)))) rfl ?_
    refine VList.go0 (n' := 14) rfl rfl (Eff.indexRd rfl rfl Try.underlying22 P_sz51 (by first | omega | (simp; done) | (simp; omega)) (by first | omega | (simp; done) | (simp; omega))) rfl ?_
    refine VList.go0 (n' := 15) rfl rfl (.loadRd1 _ _ _ _ rfl P_agg51 rfl) rfl ?_
    refine VList.go0 (n' := 16) rfl rfl (.assign _ _ rfl) rfl ?_
    refine VList.nil (Then.go ?_)
    refine VCode.block ?_
    refine VCode.loop (α := (Int) × (Int)) (fun (x_ : (Int) × (Int)) => match x_ with | (s, t) => (0, sl [(3, vI .i64 (s)), (4, vI .u32 (t))], en [])) (fun (x_ : (Int) × (Int)) => match x_ with | (s, t) => s + ((blen t.toNat : Nat) : Int) = ((blen (val L).toNat : Nat) : Int) ∧ 0 ≤ t ∧ t < 4294967296 ∧ 0 ≤ s ∧ s ≤ 100000000000) (fun (x_ : (Int) × (Int)) => match x_ with | (s, t) => t.toNat) ((32 * (((L).length : Int) - 1)), (L).getD ((((L).length : Int) - 1)).toNat 0) ⟨by omega, hx.1, hx.2, by omega, by omega⟩ (Weak.of (show 0 ≤ 0 by decide) ⟨⟨rfl, rfl⟩, ⟨⟨rfl, rfl⟩, trivial⟩⟩ trivial) ?_
    rintro ⟨s, t⟩ hok
    obtain ⟨h1, h2, h3, h4, h5⟩ := hok
    show VCode Try.prog 0 _ 0 (sl [(3, vI .i64 (s)), (4, vI .u32 (t))]) (en []) _
    refine VCode.seq ?_
    refine VCode.seq ?_
    refine VCode.region ?_
    refine VList.go0 (n' := 1) rfl rfl (.move _ _ rfl) rfl ?_
    refine VList.go0 (n' := 2) rfl rfl (.bin _ _ _ _ _ _ _ _ rfl rfl rfl) rfl ?_
    refine VList.nil (Then.go ?_)
    refine VCode.cond _ rfl (fun hc2 => ?_) (fun hc2 => ?_)
    · replace hc2 := of_decide_eq_true hc2
      refine VCode.skip (Then.go ?_)
      refine VCode.seq ?_
      refine VCode.block ?_
      have hb := blen_pos (n := t.toNat) (by omega)
      have e : (t / 2).toNat = t.toNat / 2 := by omega
      refine VCode.region ?_
      refine VList.go0 (n' := 3) rfl rfl (.move _ _ rfl) rfl ?_
      refine VList.go0 (n' := 4) rfl rfl (.bin _ _ _ _ _ _ _ _ rfl rfl (bop_add_i64 (by first | omega | (simp; done) | (simp; omega)))) rfl ?_
      refine VList.go0 (n' := 5) rfl rfl (.assign _ _ rfl) rfl ?_
      refine VList.nil (InBlock.go (Then.go ?_))
      refine VCode.region ?_
      refine VList.go0 (n' := 6) rfl rfl (.move _ _ rfl) rfl ?_
      refine VList.go0 (n' := 7) rfl rfl (.bin _ _ _ _ _ _ _ _ rfl rfl (bop_quo_u32 (by first | omega | (simp; done) | (simp; omega)) (by first | omega | (simp; done) | (simp; omega)) (by first | omega | (simp; done) | (simp; omega)))) rfl ?_
      refine VList.go0 (n' := 8) rfl rfl (.assign _ _ rfl) rfl ?_
      exact VList.nil (Round.go (s + 1, t / 2) ⟨by rw [e]; omega, by omega, by omega, by omega, by omega⟩ (by first | (dsimp only; omega) | omega) (Weak.of (show 0 ≤ 0 by decide) ⟨⟨rfl, rfl⟩, ⟨⟨rfl, rfl⟩, trivial⟩⟩ trivial))
    · replace hc2 := of_decide_eq_false hc2
      refine VCode.exit (Then.exit (Round.exit (InBlock.here (Then.go ?_))))
      refine VCode.seq ?_
      refine VCode.region ?_
      refine VList.go0 (n' := 3) rfl rfl (.move _ _ rfl) rfl ?_
      refine VList.go0 (n' := 4) rfl rfl (.assign _ _ rfl) rfl ?_
      refine VList.nil (Then.go ?_)
      exact VCode.ret (⟨trivial, [numB .i64 (s)], (resVars_cons (resVar_tmp rfl rfl) resVars_nil), (by have ht : t.toNat = 0 := (by omega); rw [ht, blen_zero] at h1; exact congrArg (numB .i64) (by omega))⟩)
theorem f79 (L : List Int) (b : Int) (hL : L.length ≤ 900000000) (oL : ok32 L) (b0 : 0 ≤ b) (b1 : b ≤ 1) : VF Try.prog 79 [u32S (L), numB .u32 (b)] (u32S (dg (2 * val L + b))) := by
  refine VF_of P_mixed Try.func79 rfl rfl (by kernel_rfl) ?_
  refine VCode.seq ?_
  refine VCode.region ?_
  refine VList.go0 (n' := 1) rfl rfl (.assign _ _ rfl) rfl ?_
  refine VList.nil (Then.go ?_)
  refine VCode.seq ?_
  refine VCode.region ?_
  refine VList.go0 (n' := 2) rfl rfl (.move _ _ rfl) rfl ?_
  refine VList.go0 (n' := 3) rfl rfl (Eff.lenS rfl Try.underlying22) rfl ?_
  refine VList.go0 (n' := 4) rfl rfl (.bin _ _ _ _ _ _ _ _ rfl rfl (bop_add_i64 (by first | omega | (simp; done) | (simp; omega)))) rfl ?_
  refine VList.go1 (n' := 5) rfl rfl (Eff.makeRow rfl Try.underlying22 P_zero51 P_sz51 P_bytes51 (by first | omega | (simp; done) | (simp; omega)) (by first | omega | (simp; done) | (simp; omega))) rfl ?_
  refine VList.go0 (n' := 6) rfl rfl (.assign _ _ rfl) rfl ?_
  refine VList.nil (Then.go ?_)
  refine VCode.seq ?_
  refine VCode.seq ?_
  refine VCode.region ?_
  refine VList.go0 (n' := 7) rfl rfl (.assign _ _ rfl) rfl ?_
  refine VList.nil (Then.go ?_)
  refine VCode.block ?_
  refine VCode.loop (α := (Nat) × (Int) × (List Int)) (fun (x_ : (Nat) × (Int) × (List Int)) => match x_ with | (n, w, O) => (5, sl [(0, vS (L)), (1, vI .u32 (w)), (5, .own 4 (((((L).length : Int) + 1)).toNat)), (6, vI .i64 ((n : Int)))], en [(4, row (O))])) (fun (x_ : (Nat) × (Int) × (List Int)) => match x_ with | (n, w, O) => DblInv L O b n w) (fun (x_ : (Nat) × (Int) × (List Int)) => match x_ with | (n, w, O) => L.length - n) (0, b, List.replicate (((L).length : Int) + 1).toNat 0) (DblInv.start (by first | (simp; done) | (simp; omega)) b0 b1) (Weak.of (show 0 ≤ 5 by decide) ⟨⟨rfl, rfl⟩, ⟨⟨rfl, rfl⟩, ⟨⟨rfl, rfl⟩, ⟨⟨rfl, rfl⟩, trivial⟩⟩⟩⟩ ⟨⟨rfl, (show 4 < 5 by decide), row_cells⟩, trivial⟩) ?_
  rintro ⟨n, w, O⟩ hok
  show VCode Try.prog 0 _ 5 (sl [(0, vS (L)), (1, vI .u32 (w)), (5, .own 4 (((((L).length : Int) + 1)).toNat)), (6, vI .i64 ((n : Int)))]) (en [(4, row (O))]) _
  refine VCode.seq ?_
  refine VCode.seq ?_
  refine VCode.region ?_
  refine VList.go0 (n' := 6) rfl rfl (.move _ _ rfl) rfl ?_
  refine VList.go0 (n' := 7) rfl rfl (.move _ _ rfl) rfl ?_
  refine VList.go0 (n' := 8) rfl rfl (Eff.lenS rfl Try.underlying22) rfl ?_
  refine VList.go0 (n' := 9) rfl rfl (.bin _ _ _ _ _ _ _ _ rfl rfl rfl) rfl ?_
  refine VList.nil (Then.go ?_)
  refine VCode.cond _ rfl (fun hc1 => ?_) (fun hc1 => ?_)
  · replace hc1 := of_decide_eq_true hc1
    refine VCode.skip (Then.go ?_)
    refine VCode.seq ?_
    refine VCode.block ?_
    refine VCode.seq ?_
    have hx := ok32_getD oL n
    have h0 := hok.w0
    have h1 := hok.w1
    have hO := hok.len
    refine VCode.region ?_
    refine VList.go0 (n' := 10) rfl rfl (.move _ _ rfl) rfl ?_
    refine VList.go0 (n' := 11) rfl rfl (.move _ _ rfl) rfl ?_
    refine VList.go0 (n' := 12) rfl rfl (.move _ _ rfl) rfl ?_
    refine VList.go0 (n' := 13) rfl rfl (.move _ _ rfl) rfl ?_
    refine VList.go0 (n' := 14) rfl rfl (Eff.indexRdN rfl rfl Try.underlying22 P_sz51 (by first | omega | (simp; done) | (simp; omega))) rfl ?_
    refine VList.go0 (n' := 15) rfl rfl (.loadRd1 _ _ _ _ rfl P_agg51 rfl) rfl ?_
    refine VList.go0 (n' := 16) rfl rfl (.bin _ _ _ _ _ _ _ (.int .u32 ((((L).getD (n) 0 * 2) % 4294967296))) rfl rfl (bopM_mul_u32 _ _)) rfl ?_
    refine VList.go0 (n' := 17) rfl rfl (.move _ _ rfl) rfl ?_
    refine VList.go0 (n' := 18) rfl rfl (.bin _ _ _ _ _ _ _ _ rfl rfl (bop_add_u32 (by first | omega | (simp; done) | (simp; omega)))) rfl ?_
    refine VList.go0 (n' := 19) rfl rfl (Eff.indexRowN rfl rfl Try.underlying22 P_sz51 (by first | omega | (simp; done) | (simp; omega))) rfl ?_
    refine VList.goS (n' := 20) rfl rfl (Eff.store32 rfl rfl rfl P_sz51 (by first | omega | (simp; done) | (simp; omega))) rfl ?_
    refine VList.nil (Then.go ?_)
    refine VCode.region ?_
    refine VList.go0 (n' := 21) rfl rfl (.move _ _ rfl) rfl ?_
    refine VList.go0 (n' := 22) rfl rfl (.move _ _ rfl) rfl ?_
    refine VList.go0 (n' := 23) rfl rfl (Eff.indexRdN rfl rfl Try.underlying22 P_sz51 (by first | omega | (simp; done) | (simp; omega))) rfl ?_
    refine VList.go0 (n' := 24) rfl rfl (.loadRd1 _ _ _ _ rfl P_agg51 rfl) rfl ?_
    refine VList.go0 (n' := 25) rfl rfl (.bin _ _ _ _ _ _ _ _ rfl rfl (bop_shrL_u32 (q := 2147483648) (by decide) (by decide) (by decide))) rfl ?_
    refine VList.go0 (n' := 26) rfl rfl (.assign _ _ rfl) rfl ?_
    refine VList.nil (InBlock.go (Then.go ?_))
    refine VCode.region ?_
    refine VList.go0 (n' := 27) rfl rfl (.move _ _ rfl) rfl ?_
    refine VList.go0 (n' := 28) rfl rfl (.bin _ _ _ _ _ _ _ _ rfl rfl (bop_add_i64 (by first | omega | (simp; done) | (simp; omega)))) rfl ?_
    refine VList.go0 (n' := 29) rfl rfl (.assign _ _ rfl) rfl ?_
    exact VList.nil (Round.go (n + 1, ((L).getD (n) 0 / 2147483648), (O).set ((n)) (((((L).getD (n) 0 * 2) % 4294967296) + w))) (hok.step oL (by omega)) (by first | (dsimp only; omega) | omega) (Weak.of (show 0 ≤ 5 by decide) ⟨⟨rfl, rfl⟩, ⟨⟨rfl, rfl⟩, ⟨⟨rfl, rfl⟩, ⟨⟨rfl, rfl⟩, trivial⟩⟩⟩⟩ ⟨⟨rfl, (show 4 < 5 by decide), row_cells⟩, trivial⟩))
  · replace hc1 := of_decide_eq_false hc1
    refine VCode.exit (Then.exit (Round.exit (InBlock.here (Then.go ?_))))
    refine VCode.seq ?_
    have hO := hok.len
    have hle := hok.le
    refine VCode.region ?_
    refine VList.go0 (n' := 10) rfl rfl (.move _ _ rfl) rfl ?_
    refine VList.go0 (n' := 11) rfl rfl (.move _ _ rfl) rfl ?_
    refine VList.go0 (n' := 12) rfl rfl (Eff.lenS rfl Try.underlying22) rfl ?_
    refine VList.go0 (n' := 13) rfl rfl (.move _ _ rfl) rfl ?_
    refine VList.go0 (n' := 14) rfl rfl (Eff.indexRowN rfl rfl Try.underlying22 P_sz51 (by first | omega | (simp; done) | (simp; omega))) rfl ?_
    refine VList.goS (n' := 15) rfl rfl (Eff.store32 rfl rfl rfl P_sz51 (by first | omega | (simp; done) | (simp; omega))) rfl ?_
    refine VList.nil (Then.go ?_)
    refine VCode.seq ?_
    obtain ⟨e1, e2⟩ := hok.fin (by omega)
    refine VCode.region ?_
    refine VList.go0 (n' := 16) rfl rfl (.move _ _ rfl) rfl ?_
    refine VList.goN (n' := 17) rfl rfl (.callV _ _ _ _ _ _ rfl (ress_cons (res_row rfl (by first | omega | (simp; done) | (simp; omega) | (simp [*]; done) | (simp [*]; omega))) ress_nil) (f66 _ (by first | omega | assumption | (simp; done) | (simp; omega)) (e2))) rfl ?_
    refine VList.go0 (n' := 18) rfl rfl (.assign _ _ rfl) rfl ?_
    refine VList.nil (Then.go ?_)
    exact VCode.ret (⟨trivial, [u32S (dg (val ((O).set (((L).length)) (w))))], (resVars_cons (resVar_tmp rfl rfl) resVars_nil), (by rw [e1]; rfl)⟩)
theorem f61 (A : List Int) (d : Int) (hA : A.length ≤ 900000000) (oA : ok32 A) (hd : 0 < d) (hd1 : d < 4294967296) : VF Try.prog 61 [u32S (A), numB .u32 (d)] (.tup [u32S (dg (val A / d)), numB .u32 (val A % d)]) := by
  refine VF_of P_mixed Try.func61 rfl rfl (by kernel_rfl) ?_
  refine VCode.seq ?_
  refine VCode.region ?_
  refine VList.go0 (n' := 1) rfl rfl (.assign _ _ rfl) rfl ?_
  refine VList.go0 (n' := 2) rfl rfl (.assign _ _ rfl) rfl ?_
  refine VList.nil (Then.go ?_)
  refine VCode.seq ?_
  refine VCode.region ?_
  refine VList.go0 (n' := 3) rfl rfl (.move _ _ rfl) rfl ?_
  refine VList.go0 (n' := 4) rfl rfl (Eff.lenS rfl Try.underlying22) rfl ?_
  refine VList.go1 (n' := 5) rfl rfl (Eff.makeRow rfl Try.underlying22 P_zero51 P_sz51 P_bytes51 (by first | omega | (simp; done) | (simp; omega)) (by first | omega | (simp; done) | (simp; omega))) rfl ?_
  refine VList.go0 (n' := 6) rfl rfl (.assign _ _ rfl) rfl ?_
  refine VList.nil (Then.go ?_)
  refine VCode.seq ?_
  refine VCode.region ?_
  refine VList.go0 (n' := 7) rfl rfl (.assign _ _ rfl) rfl ?_
  refine VList.nil (Then.go ?_)
  refine VCode.seq ?_
  refine VCode.seq ?_
  refine VCode.region ?_
  refine VList.go0 (n' := 8) rfl rfl (.move _ _ rfl) rfl ?_
  refine VList.go0 (n' := 9) rfl rfl (Eff.lenS rfl Try.underlying22) rfl ?_
  refine VList.go0 (n' := 10) rfl rfl (.bin _ _ _ _ _ _ _ _ rfl rfl (bop_sub_i64 (by first | omega | (simp; done) | (simp; omega)))) rfl ?_
  refine VList.go0 (n' := 11) rfl rfl (.assign _ _ rfl) rfl ?_
  refine VList.nil (Then.go ?_)
  refine VCode.block ?_
  refine VCode.loop (α := (Int) × (Int) × (List Int)) (fun (x_ : (Int) × (Int) × (List Int)) => match x_ with | (q, r, O) => (5, sl [(0, vS (A)), (1, vI .u32 (d)), (6, .own 4 ((((A).length : Int)).toNat)), (7, vI .u64 (r)), (8, vI .i64 (q))], en [(4, row (O))])) (fun (x_ : (Int) × (Int) × (List Int)) => match x_ with | (q, r, O) => SmallInv A O d ((A.length : Int) - 1 - q).toNat r ∧ -1 ≤ q ∧ q < A.length) (fun (x_ : (Int) × (Int) × (List Int)) => match x_ with | (q, r, O) => (q + 1).toNat) (((A).length : Int) - 1, 0, List.replicate (((A).length : Int)).toNat 0) ⟨by rw [show ((A.length : Int) - 1 - (((A).length : Int) - 1)).toNat = 0 by omega]; exact SmallInv.start (by simp) hd, by omega, by omega⟩ (Weak.of (show 0 ≤ 5 by decide) ⟨⟨rfl, rfl⟩, ⟨⟨rfl, rfl⟩, ⟨⟨rfl, rfl⟩, ⟨⟨rfl, rfl⟩, ⟨⟨rfl, rfl⟩, trivial⟩⟩⟩⟩⟩ ⟨⟨rfl, (show 4 < 5 by decide), row_cells⟩, trivial⟩) ?_
  rintro ⟨q, r, O⟩ hok0
  obtain ⟨hok, hq1, hq2⟩ := hok0
  show VCode Try.prog 0 _ 5 (sl [(0, vS (A)), (1, vI .u32 (d)), (6, .own 4 ((((A).length : Int)).toNat)), (7, vI .u64 (r)), (8, vI .i64 (q))]) (en [(4, row (O))]) _
  refine VCode.seq ?_
  refine VCode.seq ?_
  refine VCode.region ?_
  refine VList.go0 (n' := 6) rfl rfl (.move _ _ rfl) rfl ?_
  refine VList.go0 (n' := 7) rfl rfl (.bin _ _ _ _ _ _ _ _ rfl rfl rfl) rfl ?_
  refine VList.nil (Then.go ?_)
  refine VCode.cond _ rfl (fun hc1 => ?_) (fun hc1 => ?_)
  · replace hc1 := of_decide_eq_true hc1
    refine VCode.skip (Then.go ?_)
    refine VCode.seq ?_
    refine VCode.block ?_
    refine VCode.seq ?_
    have hx := ok32_getD oA (q).toNat
    have h0 := hok.r0
    have h1 := hok.r1
    have hO := hok.len
    have hw := div_word ⟨h0, h1⟩ hd1 hx rfl
    refine VCode.region ?_
    refine VList.go0 (n' := 8) rfl rfl (.move _ _ rfl) rfl ?_
    refine VList.go0 (n' := 9) rfl rfl (.bin _ _ _ _ _ _ _ _ rfl rfl (bop_mul_u64 (by first | omega | (simp; done) | (simp; omega)))) rfl ?_
    refine VList.go0 (n' := 10) rfl rfl (.move _ _ rfl) rfl ?_
    refine VList.go0 (n' := 11) rfl rfl (.move _ _ rfl) rfl ?_
    refine VList.go0 (n' := 12) rfl rfl (Eff.indexRd rfl rfl Try.underlying22 P_sz51 (by first | omega | (simp; done) | (simp; omega)) (by first | omega | (simp; done) | (simp; omega))) rfl ?_
    refine VList.go0 (n' := 13) rfl rfl (.loadRd1 _ _ _ _ rfl P_agg51 rfl) rfl ?_
    refine VList.go0 (n' := 14) rfl rfl (Eff.convN_u64 rfl Try.underlying51 Try.underlying62 (by first | omega | (simp; done) | (simp; omega))) rfl ?_
    refine VList.go0 (n' := 15) rfl rfl (.bin _ _ _ _ _ _ _ _ rfl rfl (bop_add_u64 (by first | omega | (simp; done) | (simp; omega)))) rfl ?_
    refine VList.go0 (n' := 16) rfl rfl (.assign _ _ rfl) rfl ?_
    refine VList.nil (Then.go ?_)
    refine VCode.seq ?_
    refine VCode.region ?_
    refine VList.go0 (n' := 17) rfl rfl (.move _ _ rfl) rfl ?_
    refine VList.go0 (n' := 18) rfl rfl (.move _ _ rfl) rfl ?_
    refine VList.go0 (n' := 19) rfl rfl (.move _ _ rfl) rfl ?_
    refine VList.go0 (n' := 20) rfl rfl (.move _ _ rfl) rfl ?_
    refine VList.go0 (n' := 21) rfl rfl (Eff.convN_u64 rfl Try.underlying51 Try.underlying62 (by first | omega | (simp; done) | (simp; omega))) rfl ?_
    refine VList.go0 (n' := 22) rfl rfl (.bin _ _ _ _ _ _ _ _ rfl rfl (bop_quo_u64 (by first | omega | (simp; done) | (simp; omega)) (by first | omega | (simp; done) | (simp; omega)) (by first | omega | (simp; done) | (simp; omega)))) rfl ?_
    refine VList.go0 (n' := 23) rfl rfl (Eff.convM_u32 rfl Try.underlying62 Try.underlying51) rfl ?_
    refine VList.go0 (n' := 24) rfl rfl (Eff.indexRow rfl rfl Try.underlying22 P_sz51 (by first | omega | (simp; done) | (simp; omega)) (by first | omega | (simp; done) | (simp; omega))) rfl ?_
    refine VList.goS (n' := 25) rfl rfl (Eff.store32 rfl rfl rfl P_sz51 (by first | omega | (simp; done) | (simp; omega))) rfl ?_
    refine VList.nil (Then.go ?_)
    refine VCode.region ?_
    refine VList.go0 (n' := 26) rfl rfl (.move _ _ rfl) rfl ?_
    refine VList.go0 (n' := 27) rfl rfl (.move _ _ rfl) rfl ?_
    refine VList.go0 (n' := 28) rfl rfl (Eff.convN_u64 rfl Try.underlying51 Try.underlying62 (by first | omega | (simp; done) | (simp; omega))) rfl ?_
    refine VList.go0 (n' := 29) rfl rfl (.bin _ _ _ _ _ _ _ _ rfl rfl (bop_rem_u64 (by first | omega | (simp; done) | (simp; omega)) (by first | omega | (simp; done) | (simp; omega)))) rfl ?_
    refine VList.go0 (n' := 30) rfl rfl (.assign _ _ rfl) rfl ?_
    refine VList.nil (InBlock.go (Then.go ?_))
    refine VCode.region ?_
    refine VList.go0 (n' := 31) rfl rfl (.move _ _ rfl) rfl ?_
    refine VList.go0 (n' := 32) rfl rfl (.bin _ _ _ _ _ _ _ _ rfl rfl (bop_sub_i64 (by first | omega | (simp; done) | (simp; omega)))) rfl ?_
    refine VList.go0 (n' := 33) rfl rfl (.assign _ _ rfl) rfl ?_
    exact VList.nil (Round.go (q - 1, (((r * 4294967296) + (A).getD (q).toNat 0) % d), (O).set ((q).toNat) ((((((r * 4294967296) + (A).getD (q).toNat 0) / d)) % 4294967296))) ⟨by rw [show ((A.length : Int) - 1 - (q - 1)).toNat = ((A.length : Int) - 1 - q).toNat + 1 by omega]; exact hok.step (q := q.toNat) oA hd1 (by omega) rfl, by omega, by omega⟩ (by first | (dsimp only; omega) | omega) (Weak.of (show 0 ≤ 5 by decide) ⟨⟨rfl, rfl⟩, ⟨⟨rfl, rfl⟩, ⟨⟨rfl, rfl⟩, ⟨⟨rfl, rfl⟩, ⟨⟨rfl, rfl⟩, trivial⟩⟩⟩⟩⟩ ⟨⟨rfl, (show 4 < 5 by decide), row_cells⟩, trivial⟩))
  · replace hc1 := of_decide_eq_false hc1
    refine VCode.exit (Then.exit (Round.exit (InBlock.here (Then.go ?_))))
    refine VCode.seq ?_
    have hO := hok.len
    have h0 := hok.r0
    have h1 := hok.r1
    obtain ⟨e1, e2, e3⟩ := hok.fin (by omega) oA
    refine VCode.region ?_
    refine VList.go0 (n' := 8) rfl rfl (.move _ _ rfl) rfl ?_
    refine VList.goN (n' := 9) rfl rfl (.callV _ _ _ _ _ _ rfl (ress_cons (res_row rfl (by first | omega | (simp; done) | (simp; omega) | (simp [*]; done) | (simp [*]; omega))) ress_nil) (f66 _ (by first | omega | assumption | (simp; done) | (simp; omega)) (e1))) rfl ?_
    refine VList.go0 (n' := 10) rfl rfl (.move _ _ rfl) rfl ?_
    refine VList.go0 (n' := 11) rfl rfl (Eff.convM_u32 rfl Try.underlying62 Try.underlying51) rfl ?_
    refine VList.go0 (n' := 12) rfl rfl (.assign _ _ rfl) rfl ?_
    refine VList.go0 (n' := 13) rfl rfl (.assign _ _ rfl) rfl ?_
    refine VList.nil (Then.go ?_)
    exact VCode.ret (⟨trivial, [u32S (dg (val (O))), numB .u32 (((r) % 4294967296))], (resVars_cons (resVar_tmp rfl rfl) (resVars_cons (resVar_tmp rfl rfl) resVars_nil)), (by rw [e2, e3, show val A % d % 4294967296 = val A % d by omega]; rfl)⟩)
theorem f48 (n : Bool) (A : List Int) (hA : A.length ≤ 9223372036854775807) (oA : ok32 A) : VF Try.prog 48 [.agg [boolB (n), u32S (A)]] (.tup [numB .i64 (if validB n A = true then ((blen (val A).toNat : Nat) : Int) else 0), numB .i64 (cE (validB n A))]) := by
  refine VF_of P_mixed Try.func48 rfl rfl (by kernel_rfl) ?_
  refine VCode.seq ?_
  refine VCode.region ?_
  refine VList.go1 (n' := 1) rfl rfl (.box _ _ _ rfl (List.cons_ne_nil _ _) rfl) rfl ?_
  refine VList.go0 (n' := 2) rfl rfl (.assign _ _ rfl) rfl ?_
  refine VList.go0 (n' := 3) rfl rfl (.assign _ _ rfl) rfl ?_
  refine VList.nil (Then.go ?_)
  refine VCode.seq ?_
  refine VCode.seq ?_
  refine VCode.region ?_
  refine VList.go0 (n' := 4) rfl rfl (.loadS _ _ _ _ _ _ rfl rfl P_agg24 P_sz24 (Nat.le_of_ble_eq_true rfl)) rfl ?_
  refine VList.go0 (n' := 5) rfl rfl (.callF _ _ _ _ _ _ rfl (ress_cons rfl ress_nil) (f26 _ _ (by first | omega | assumption | (simp; done) | (simp; omega))) rfl) rfl ?_
  refine VList.go0 (n' := 6) rfl rfl (.un _ _ _ _ _ rfl rfl) rfl ?_
  refine VList.nil (Then.go ?_)
  refine VCode.cond _ rfl (fun hc1 => ?_) (fun hc1 => ?_)
  · replace hc1 := (bnot_t hc1)
    refine VCode.seq ?_
    refine VCode.region ?_
    refine VList.go0 (n' := 7) rfl rfl (.assign _ _ rfl) rfl ?_
    refine VList.go0 (n' := 8) rfl rfl (.assign _ _ rfl) rfl ?_
    refine VList.nil (Then.go ?_)
    exact VCode.ret (Then.ret (⟨trivial, [numB .i64 (0), numB .i64 (1)], (resVars_cons (resVar_tmp rfl rfl) (resVars_cons (resVar_tmp rfl rfl) resVars_nil)), (by rw [cE_false hc1, hc1]; rfl)⟩))
  · replace hc1 := (bnot_f hc1)
    refine VCode.skip (Then.go ?_)
    refine VCode.seq ?_
    obtain ⟨nA, lA, sA⟩ := valid_norm oA hc1
    refine VCode.region ?_
    refine VList.go0 (n' := 7) rfl rfl (.fieldAddr _ _ _ _ _ _ _ _ rfl P_fld24_1) rfl ?_
    refine VList.go0 (n' := 8) rfl rfl (.load1 _ _ _ _ _ _ rfl rfl P_agg22 rfl) rfl ?_
    refine VList.go0 (n' := 9) rfl rfl (.callF _ _ _ _ _ _ rfl (ress_cons rfl ress_nil) (f78 _ (by first | omega | assumption | (simp; done) | (simp; omega)) (nA)) rfl) rfl ?_
    refine VList.go0 (n' := 10) rfl rfl (.assign _ _ rfl) rfl ?_
    refine VList.go0 (n' := 11) rfl rfl (.assign _ _ rfl) rfl ?_
    refine VList.nil (Then.go ?_)
    exact VCode.ret (⟨trivial, [numB .i64 (((blen (val (A)).toNat : Nat) : Int)), numB .i64 (0)], (resVars_cons (resVar_tmp rfl rfl) (resVars_cons (resVar_tmp rfl rfl) resVars_nil)), (by rw [cE_true hc1, if_pos hc1]; rfl)⟩)
theorem f49 (n : Bool) (A : List Int) (hA : A.length ≤ 9223372036854775807) (oA : ok32 A) : VF Try.prog 49 [.agg [boolB (n), u32S (A)]] (.tup [numB .i64 (smI n A), boolB (smB n A)]) := by
  refine VF_of P_mixed Try.func49 rfl rfl (by kernel_rfl) ?_
  refine VCode.seq ?_
  refine VCode.region ?_
  refine VList.go1 (n' := 1) rfl rfl (.box _ _ _ rfl (List.cons_ne_nil _ _) rfl) rfl ?_
  refine VList.go0 (n' := 2) rfl rfl (.assign _ _ rfl) rfl ?_
  refine VList.go0 (n' := 3) rfl rfl (.assign _ _ rfl) rfl ?_
  refine VList.nil (Then.go ?_)
  refine VCode.seq ?_
  refine VCode.seq ?_
  refine VCode.region ?_
  refine VList.go0 (n' := 4) rfl rfl (.loadS _ _ _ _ _ _ rfl rfl P_agg24 P_sz24 (Nat.le_of_ble_eq_true rfl)) rfl ?_
  refine VList.go0 (n' := 5) rfl rfl (.callF _ _ _ _ _ _ rfl (ress_cons rfl ress_nil) (f26 _ _ (by first | omega | assumption | (simp; done) | (simp; omega))) rfl) rfl ?_
  refine VList.go0 (n' := 6) rfl rfl (.un _ _ _ _ _ rfl rfl) rfl ?_
  refine VList.go0 (n' := 7) rfl rfl (.move _ _ rfl) rfl ?_
  refine VList.split (d := 9) _ rfl (fun hc1 => ?_) (fun hc1 => ?_)
  · replace hc1 := (bnot_t hc1)
    refine VList.skip (n' := 8) rfl rfl rfl ?_
    refine VList.skip (n' := 9) rfl rfl rfl ?_
    refine VList.skip (n' := 10) rfl rfl rfl ?_
    refine VList.skip (n' := 11) rfl rfl rfl ?_
    refine VList.go0 (n' := 12) rfl rfl (.pick _ _ _ _ _ rfl rfl) rfl ?_
    refine VList.nil (Then.go ?_)
    refine VCode.cond _ rfl (fun _ => ?_) (fun h_ => Bool.noConfusion h_)
    refine VCode.seq ?_
    refine VCode.region ?_
    refine VList.go0 (n' := 13) rfl rfl (.assign _ _ rfl) rfl ?_
    refine VList.go0 (n' := 14) rfl rfl (.assign _ _ rfl) rfl ?_
    refine VList.nil (Then.go ?_)
    exact VCode.ret (Then.ret (⟨trivial, [numB .i64 (0), boolB (false)], (resVars_cons (resVar_tmp rfl rfl) (resVars_cons (resVar_tmp rfl rfl) resVars_nil)), (by have hs : smB n A = false := sm_inv (by assumption); rw [sm_bad hs, hs]; rfl)⟩))
  · replace hc1 := (bnot_f hc1)
    refine VList.go0 (n' := 8) rfl rfl (.fieldAddr _ _ _ _ _ _ _ _ rfl P_fld24_1) rfl ?_
    refine VList.go0 (n' := 9) rfl rfl (.load1 _ _ _ _ _ _ rfl rfl P_agg22 rfl) rfl ?_
    refine VList.go0 (n' := 10) rfl rfl (Eff.lenS rfl Try.underlying22) rfl ?_
    refine VList.go0 (n' := 11) rfl rfl (.bin _ _ _ _ _ _ _ _ rfl rfl rfl) rfl ?_
    refine VList.go0 (n' := 12) rfl rfl (.pick _ _ _ _ _ rfl rfl) rfl ?_
    refine VList.nil (Then.go ?_)
    refine VCode.cond _ rfl (fun hc2 => ?_) (fun hc2 => ?_)
    · replace hc2 := of_decide_eq_true hc2
      refine VCode.seq ?_
      refine VCode.region ?_
      refine VList.go0 (n' := 13) rfl rfl (.assign _ _ rfl) rfl ?_
      refine VList.go0 (n' := 14) rfl rfl (.assign _ _ rfl) rfl ?_
      refine VList.nil (Then.go ?_)
      exact VCode.ret (Then.ret (⟨trivial, [numB .i64 (0), boolB (false)], (resVars_cons (resVar_tmp rfl rfl) (resVars_cons (resVar_tmp rfl rfl) resVars_nil)), (by have hs : smB n A = false := sm_len oA (by assumption); rw [sm_bad hs, hs]; rfl)⟩))
    · replace hc2 := of_decide_eq_false hc2
      refine VCode.skip (Then.go ?_)
      refine VCode.seq ?_
      have hv : validB n A = true := by assumption
      have hl2 : A.length ≤ 2 := by omega
      refine VCode.region ?_
      refine VList.go0 (n' := 13) rfl rfl (.assign _ _ rfl) rfl ?_
      refine VList.nil (Then.go ?_)
      refine VCode.seq ?_
      refine VCode.seq ?_
      refine VCode.region ?_
      refine VList.go0 (n' := 14) rfl rfl (.fieldAddr _ _ _ _ _ _ _ _ rfl P_fld24_1) rfl ?_
      refine VList.go0 (n' := 15) rfl rfl (.load1 _ _ _ _ _ _ rfl rfl P_agg22 rfl) rfl ?_
      refine VList.go0 (n' := 16) rfl rfl (Eff.lenS rfl Try.underlying22) rfl ?_
      refine VList.go0 (n' := 17) rfl rfl (.bin _ _ _ _ _ _ _ _ rfl rfl (bop_sub_i64 (by first | omega | (simp; done) | (simp; omega)))) rfl ?_
      refine VList.go0 (n' := 18) rfl rfl (.assign _ _ rfl) rfl ?_
      refine VList.nil (Then.go ?_)
      refine VCode.block ?_
      refine VCode.loop (α := (Int) × (Int)) (fun (x_ : (Int) × (Int)) => match x_ with | (q, c) => (1, sl [(1, .ptr 0 (0)), (4, vI .u64 (c)), (5, vI .i64 (q))], en [(0, ⟨2, [vB (n), vS (A)], true⟩)])) (fun (x_ : (Int) × (Int)) => match x_ with | (q, c) => c = val (A.drop (q + 1).toNat) ∧ -1 ≤ q ∧ q < A.length) (fun (x_ : (Int) × (Int)) => match x_ with | (q, c) => (q + 1).toNat) (((A).length : Int) - 1, 0) ⟨by rw [List.drop_eq_nil_of_le (by omega)]; rfl, by omega, by omega⟩ (Weak.of (show 0 ≤ 1 by decide) ⟨⟨rfl, rfl⟩, ⟨⟨rfl, rfl⟩, ⟨⟨rfl, rfl⟩, trivial⟩⟩⟩ ⟨⟨rfl, (show 0 < 1 by decide), (by intro v_ hv_; simp at hv_; rcases hv_ with rfl | rfl <;> rfl)⟩, trivial⟩) ?_
      rintro ⟨q, c⟩ hok
      obtain ⟨hcq, hq1, hq2⟩ := hok
      show VCode Try.prog 0 _ 1 (sl [(1, .ptr 0 (0)), (4, vI .u64 (c)), (5, vI .i64 (q))]) (en [(0, ⟨2, [vB (n), vS (A)], true⟩)]) _
      refine VCode.seq ?_
      refine VCode.seq ?_
      refine VCode.region ?_
      refine VList.go0 (n' := 2) rfl rfl (.move _ _ rfl) rfl ?_
      refine VList.go0 (n' := 3) rfl rfl (.bin _ _ _ _ _ _ _ _ rfl rfl rfl) rfl ?_
      refine VList.nil (Then.go ?_)
      refine VCode.cond _ rfl (fun hc3 => ?_) (fun hc3 => ?_)
      · replace hc3 := of_decide_eq_true hc3
        refine VCode.skip (Then.go ?_)
        refine VCode.seq ?_
        refine VCode.block ?_
        have hx := ok32_getD oA (q).toNat
        have hds := drop_small (q := q.toNat) oA (by omega)
        rw [show q.toNat + 1 = (q + 1).toNat by omega, ← hcq] at hds
        refine VCode.region ?_
        refine VList.go0 (n' := 4) rfl rfl (.move _ _ rfl) rfl ?_
        refine VList.go0 (n' := 5) rfl rfl (.bin _ _ _ _ _ _ _ (.int .u64 ((c * 4294967296))) rfl rfl (bop_shlL_u64 (q := 4294967296) (by decide) (by decide) (by decide) (by omega))) rfl ?_
        refine VList.go0 (n' := 6) rfl rfl (.fieldAddr _ _ _ _ _ _ _ _ rfl P_fld24_1) rfl ?_
        refine VList.go0 (n' := 7) rfl rfl (.load1 _ _ _ _ _ _ rfl rfl P_agg22 rfl) rfl ?_
        refine VList.go0 (n' := 8) rfl rfl (.move _ _ rfl) rfl ?_
        refine VList.go0 (n' := 9) rfl rfl (Eff.indexRd rfl rfl Try.underlying22 P_sz51 (by first | omega | (simp; done) | (simp; omega)) (by first | omega | (simp; done) | (simp; omega))) rfl ?_
        refine VList.go0 (n' := 10) rfl rfl (.loadRd1 _ _ _ _ rfl P_agg51 rfl) rfl ?_
        refine VList.go0 (n' := 11) rfl rfl (Eff.convN_u64 rfl Try.underlying51 Try.underlying62 (by first | omega | (simp; done) | (simp; omega))) rfl ?_
        refine VList.go0 (n' := 12) rfl rfl (.bin _ _ _ _ _ _ _ _ rfl rfl (bop_add_u64 (by first | omega | (simp; done) | (simp; omega)))) rfl ?_
        refine VList.go0 (n' := 13) rfl rfl (.assign _ _ rfl) rfl ?_
        refine VList.nil (InBlock.go (Then.go ?_))
        refine VCode.region ?_
        refine VList.go0 (n' := 14) rfl rfl (.move _ _ rfl) rfl ?_
        refine VList.go0 (n' := 15) rfl rfl (.bin _ _ _ _ _ _ _ _ rfl rfl (bop_sub_i64 (by first | omega | (simp; done) | (simp; omega)))) rfl ?_
        refine VList.go0 (n' := 16) rfl rfl (.assign _ _ rfl) rfl ?_
        exact VList.nil (Round.go (q - 1, ((c * 4294967296) + (A).getD (q).toNat 0)) ⟨by rw [show (q - 1 + 1).toNat = q.toNat by omega, ← drop_word (L := A) (q := q.toNat) (by omega), show q.toNat + 1 = (q + 1).toNat by omega, ← hcq], by omega, by omega⟩ (by first | (dsimp only; omega) | omega) (Weak.of (show 0 ≤ 1 by decide) ⟨⟨rfl, rfl⟩, ⟨⟨rfl, rfl⟩, ⟨⟨rfl, rfl⟩, trivial⟩⟩⟩ ⟨⟨rfl, (show 0 < 1 by decide), (by intro v_ hv_; simp at hv_; rcases hv_ with rfl | rfl <;> rfl)⟩, trivial⟩))
      · replace hc3 := of_decide_eq_false hc3
        refine VCode.exit (Then.exit (Round.exit (InBlock.here (Then.go ?_))))
        refine VCode.seq ?_
        refine VCode.seq ?_
        have hcv : c = val A := by rw [hcq, show (q + 1).toNat = 0 by omega, List.drop_zero]
        have hw := word_lt oA (by omega)
        rw [← hcv] at hw
        refine VCode.region ?_
        refine VList.go0 (n' := 4) rfl rfl (.fieldAddr _ _ _ _ _ _ _ _ rfl P_fld24_0) rfl ?_
        refine VList.go0 (n' := 5) rfl rfl (.load1 _ _ _ _ _ _ rfl rfl P_agg4 rfl) rfl ?_
        refine VList.go0 (n' := 6) rfl rfl (.move _ _ rfl) rfl ?_
        refine VList.split (d := 34) _ rfl (fun hc4 => ?_) (fun hc4 => ?_)
        · (try simp at hc4)
          refine VList.go0 (n' := 7) rfl rfl (.move _ _ rfl) rfl ?_
          refine VList.go0 (n' := 8) rfl rfl (.bin _ _ _ _ _ _ _ _ rfl rfl rfl) rfl ?_
          refine VList.go0 (n' := 9) rfl rfl (.pick _ _ _ _ _ rfl rfl) rfl ?_
          refine VList.nil (Then.go ?_)
          refine VCode.cond _ rfl (fun hc5 => ?_) (fun hc5 => ?_)
          · replace hc5 := of_decide_eq_true hc5
            refine VCode.seq ?_
            refine VCode.region ?_
            refine VList.go0 (n' := 10) rfl rfl (.move _ _ rfl) rfl ?_
            refine VList.go0 (n' := 11) rfl rfl (.un _ _ _ _ _ rfl (uopM_neg_u64 _)) rfl ?_
            refine VList.go0 (n' := 12) rfl rfl (Eff.convW rfl Try.underlying62 Try.underlying3 (neg_back hw.1 (by omega))) rfl ?_
            refine VList.go0 (n' := 13) rfl rfl (.assign _ _ rfl) rfl ?_
            refine VList.go0 (n' := 14) rfl rfl (.assign _ _ rfl) rfl ?_
            refine VList.nil (Then.go ?_)
            exact VCode.ret (Then.ret (⟨trivial, [numB .i64 ((-(c))), boolB (true)], (resVars_cons (resVar_tmp rfl rfl) (resVars_cons (resVar_tmp rfl rfl) resVars_nil)), (by first | (have hs : smB n A = true := smB_of hv (sg_t (by assumption)) (by rw [eq_comm]; simp; omega); rw [sm_ok hs, hs, sg_t (by assumption), ← hcv]; rfl) | (have hs : smB n A = true := smB_of hv (sg_f (by assumption)) (by rw [eq_comm]; simp; omega); rw [sm_ok hs, hs, sg_f (by assumption), ← hcv]; rfl) | (have hs : smB n A = false := smB_of hv (sg_t (by assumption)) (by rw [eq_comm]; simp; omega); rw [sm_bad hs, hs]; rfl) | (have hs : smB n A = false := smB_of hv (sg_f (by assumption)) (by rw [eq_comm]; simp; omega); rw [sm_bad hs, hs]; rfl) | (exfalso; simp_all))⟩))
          · replace hc5 := of_decide_eq_false hc5
            refine VCode.skip (Then.go ?_)
            refine VCode.seq ?_
            refine VCode.seq ?_
            refine VCode.region ?_
            refine VList.go0 (n' := 10) rfl rfl (.fieldAddr _ _ _ _ _ _ _ _ rfl P_fld24_0) rfl ?_
            refine VList.go0 (n' := 11) rfl rfl (.load1 _ _ _ _ _ _ rfl rfl P_agg4 rfl) rfl ?_
            refine VList.go0 (n' := 12) rfl rfl (.un _ _ _ _ _ rfl rfl) rfl ?_
            refine VList.go0 (n' := 13) rfl rfl (.move _ _ rfl) rfl ?_
            refine VList.split (d := 44) _ rfl (fun hc6 => ?_) (fun hc6 => ?_)
            · replace hc6 := bnot_t hc6
              refine VList.go0 (n' := 14) rfl rfl (.move _ _ rfl) rfl ?_
              refine VList.go0 (n' := 15) rfl rfl (.bin _ _ _ _ _ _ _ _ rfl rfl rfl) rfl ?_
              refine VList.go0 (n' := 16) rfl rfl (.pick _ _ _ _ _ rfl rfl) rfl ?_
              refine VList.nil (Then.go ?_)
              refine VCode.cond _ rfl (fun hc7 => ?_) (fun hc7 => ?_)
              · replace hc7 := of_decide_eq_true hc7
                refine VCode.seq ?_
                refine VCode.region ?_
                refine VList.go0 (n' := 17) rfl rfl (.move _ _ rfl) rfl ?_
                refine VList.go0 (n' := 18) rfl rfl (Eff.convN_i64 rfl Try.underlying62 Try.underlying3 (by first | omega | (simp; done) | (simp; omega))) rfl ?_
                refine VList.go0 (n' := 19) rfl rfl (.assign _ _ rfl) rfl ?_
                refine VList.go0 (n' := 20) rfl rfl (.assign _ _ rfl) rfl ?_
                refine VList.nil (Then.go ?_)
                exact VCode.ret (Then.ret (⟨trivial, [numB .i64 (c), boolB (true)], (resVars_cons (resVar_tmp rfl rfl) (resVars_cons (resVar_tmp rfl rfl) resVars_nil)), (by first | (have hs : smB n A = true := smB_of hv (sg_t (by assumption)) (by rw [eq_comm]; simp; omega); rw [sm_ok hs, hs, sg_t (by assumption), ← hcv]; rfl) | (have hs : smB n A = true := smB_of hv (sg_f (by assumption)) (by rw [eq_comm]; simp; omega); rw [sm_ok hs, hs, sg_f (by assumption), ← hcv]; rfl) | (have hs : smB n A = false := smB_of hv (sg_t (by assumption)) (by rw [eq_comm]; simp; omega); rw [sm_bad hs, hs]; rfl) | (have hs : smB n A = false := smB_of hv (sg_f (by assumption)) (by rw [eq_comm]; simp; omega); rw [sm_bad hs, hs]; rfl) | (exfalso; simp_all))⟩))
              · replace hc7 := of_decide_eq_false hc7
                refine VCode.skip (Then.go ?_)
                refine VCode.seq ?_
                refine VCode.region ?_
                refine VList.go0 (n' := 17) rfl rfl (.assign _ _ rfl) rfl ?_
                refine VList.go0 (n' := 18) rfl rfl (.assign _ _ rfl) rfl ?_
                refine VList.nil (Then.go ?_)
                exact VCode.ret (⟨trivial, [numB .i64 (0), boolB (false)], (resVars_cons (resVar_tmp rfl rfl) (resVars_cons (resVar_tmp rfl rfl) resVars_nil)), (by first | (have hs : smB n A = true := smB_of hv (sg_t (by assumption)) (by rw [eq_comm]; simp; omega); rw [sm_ok hs, hs, sg_t (by assumption), ← hcv]; rfl) | (have hs : smB n A = true := smB_of hv (sg_f (by assumption)) (by rw [eq_comm]; simp; omega); rw [sm_ok hs, hs, sg_f (by assumption), ← hcv]; rfl) | (have hs : smB n A = false := smB_of hv (sg_t (by assumption)) (by rw [eq_comm]; simp; omega); rw [sm_bad hs, hs]; rfl) | (have hs : smB n A = false := smB_of hv (sg_f (by assumption)) (by rw [eq_comm]; simp; omega); rw [sm_bad hs, hs]; rfl) | (exfalso; simp_all))⟩)
            · replace hc6 := bnot_f hc6
              refine VList.skip (n' := 14) rfl rfl rfl ?_
              refine VList.skip (n' := 15) rfl rfl rfl ?_
              refine VList.go0 (n' := 16) rfl rfl (.pick _ _ _ _ _ rfl rfl) rfl ?_
              refine VList.nil (Then.go ?_)
              refine VCode.cond _ rfl (fun h_ => Bool.noConfusion h_) (fun _ => ?_)
              refine VCode.skip (Then.go ?_)
              refine VCode.seq ?_
              refine VCode.region ?_
              refine VList.go0 (n' := 17) rfl rfl (.assign _ _ rfl) rfl ?_
              refine VList.go0 (n' := 18) rfl rfl (.assign _ _ rfl) rfl ?_
              refine VList.nil (Then.go ?_)
              exact VCode.ret (⟨trivial, [numB .i64 (0), boolB (false)], (resVars_cons (resVar_tmp rfl rfl) (resVars_cons (resVar_tmp rfl rfl) resVars_nil)), (by first | (have hs : smB n A = true := smB_of hv (sg_t (by assumption)) (by rw [eq_comm]; simp; omega); rw [sm_ok hs, hs, sg_t (by assumption), ← hcv]; rfl) | (have hs : smB n A = true := smB_of hv (sg_f (by assumption)) (by rw [eq_comm]; simp; omega); rw [sm_ok hs, hs, sg_f (by assumption), ← hcv]; rfl) | (have hs : smB n A = false := smB_of hv (sg_t (by assumption)) (by rw [eq_comm]; simp; omega); rw [sm_bad hs, hs]; rfl) | (have hs : smB n A = false := smB_of hv (sg_f (by assumption)) (by rw [eq_comm]; simp; omega); rw [sm_bad hs, hs]; rfl) | (exfalso; simp_all))⟩)
        · (try simp at hc4)
          refine VList.skip (n' := 7) rfl rfl rfl ?_
          refine VList.skip (n' := 8) rfl rfl rfl ?_
          refine VList.go0 (n' := 9) rfl rfl (.pick _ _ _ _ _ rfl rfl) rfl ?_
          refine VList.nil (Then.go ?_)
          refine VCode.cond _ rfl (fun h_ => Bool.noConfusion h_) (fun _ => ?_)
          refine VCode.skip (Then.go ?_)
          refine VCode.seq ?_
          refine VCode.seq ?_
          refine VCode.region ?_
          refine VList.go0 (n' := 10) rfl rfl (.fieldAddr _ _ _ _ _ _ _ _ rfl P_fld24_0) rfl ?_
          refine VList.go0 (n' := 11) rfl rfl (.load1 _ _ _ _ _ _ rfl rfl P_agg4 rfl) rfl ?_
          refine VList.go0 (n' := 12) rfl rfl (.un _ _ _ _ _ rfl rfl) rfl ?_
          refine VList.go0 (n' := 13) rfl rfl (.move _ _ rfl) rfl ?_
          refine VList.split (d := 44) _ rfl (fun hc8 => ?_) (fun hc8 => ?_)
          · replace hc8 := bnot_t hc8
            refine VList.go0 (n' := 14) rfl rfl (.move _ _ rfl) rfl ?_
            refine VList.go0 (n' := 15) rfl rfl (.bin _ _ _ _ _ _ _ _ rfl rfl rfl) rfl ?_
            refine VList.go0 (n' := 16) rfl rfl (.pick _ _ _ _ _ rfl rfl) rfl ?_
            refine VList.nil (Then.go ?_)
            refine VCode.cond _ rfl (fun hc9 => ?_) (fun hc9 => ?_)
            · replace hc9 := of_decide_eq_true hc9
              refine VCode.seq ?_
              refine VCode.region ?_
              refine VList.go0 (n' := 17) rfl rfl (.move _ _ rfl) rfl ?_
              refine VList.go0 (n' := 18) rfl rfl (Eff.convN_i64 rfl Try.underlying62 Try.underlying3 (by first | omega | (simp; done) | (simp; omega))) rfl ?_
              refine VList.go0 (n' := 19) rfl rfl (.assign _ _ rfl) rfl ?_
              refine VList.go0 (n' := 20) rfl rfl (.assign _ _ rfl) rfl ?_
              refine VList.nil (Then.go ?_)
              exact VCode.ret (Then.ret (⟨trivial, [numB .i64 (c), boolB (true)], (resVars_cons (resVar_tmp rfl rfl) (resVars_cons (resVar_tmp rfl rfl) resVars_nil)), (by first | (have hs : smB n A = true := smB_of hv (sg_t (by assumption)) (by rw [eq_comm]; simp; omega); rw [sm_ok hs, hs, sg_t (by assumption), ← hcv]; rfl) | (have hs : smB n A = true := smB_of hv (sg_f (by assumption)) (by rw [eq_comm]; simp; omega); rw [sm_ok hs, hs, sg_f (by assumption), ← hcv]; rfl) | (have hs : smB n A = false := smB_of hv (sg_t (by assumption)) (by rw [eq_comm]; simp; omega); rw [sm_bad hs, hs]; rfl) | (have hs : smB n A = false := smB_of hv (sg_f (by assumption)) (by rw [eq_comm]; simp; omega); rw [sm_bad hs, hs]; rfl) | (exfalso; simp_all))⟩))
            · replace hc9 := of_decide_eq_false hc9
              refine VCode.skip (Then.go ?_)
              refine VCode.seq ?_
              refine VCode.region ?_
              refine VList.go0 (n' := 17) rfl rfl (.assign _ _ rfl) rfl ?_
              refine VList.go0 (n' := 18) rfl rfl (.assign _ _ rfl) rfl ?_
              refine VList.nil (Then.go ?_)
              exact VCode.ret (⟨trivial, [numB .i64 (0), boolB (false)], (resVars_cons (resVar_tmp rfl rfl) (resVars_cons (resVar_tmp rfl rfl) resVars_nil)), (by first | (have hs : smB n A = true := smB_of hv (sg_t (by assumption)) (by rw [eq_comm]; simp; omega); rw [sm_ok hs, hs, sg_t (by assumption), ← hcv]; rfl) | (have hs : smB n A = true := smB_of hv (sg_f (by assumption)) (by rw [eq_comm]; simp; omega); rw [sm_ok hs, hs, sg_f (by assumption), ← hcv]; rfl) | (have hs : smB n A = false := smB_of hv (sg_t (by assumption)) (by rw [eq_comm]; simp; omega); rw [sm_bad hs, hs]; rfl) | (have hs : smB n A = false := smB_of hv (sg_f (by assumption)) (by rw [eq_comm]; simp; omega); rw [sm_bad hs, hs]; rfl) | (exfalso; simp_all))⟩)
          · replace hc8 := bnot_f hc8
            refine VList.skip (n' := 14) rfl rfl rfl ?_
            refine VList.skip (n' := 15) rfl rfl rfl ?_
            refine VList.go0 (n' := 16) rfl rfl (.pick _ _ _ _ _ rfl rfl) rfl ?_
            refine VList.nil (Then.go ?_)
            refine VCode.cond _ rfl (fun h_ => Bool.noConfusion h_) (fun _ => ?_)
            refine VCode.skip (Then.go ?_)
            refine VCode.seq ?_
            refine VCode.region ?_
            refine VList.go0 (n' := 17) rfl rfl (.assign _ _ rfl) rfl ?_
            refine VList.go0 (n' := 18) rfl rfl (.assign _ _ rfl) rfl ?_
            refine VList.nil (Then.go ?_)
            exact VCode.ret (⟨trivial, [numB .i64 (0), boolB (false)], (resVars_cons (resVar_tmp rfl rfl) (resVars_cons (resVar_tmp rfl rfl) resVars_nil)), (by first | (have hs : smB n A = true := smB_of hv (sg_t (by assumption)) (by rw [eq_comm]; simp; omega); rw [sm_ok hs, hs, sg_t (by assumption), ← hcv]; rfl) | (have hs : smB n A = true := smB_of hv (sg_f (by assumption)) (by rw [eq_comm]; simp; omega); rw [sm_ok hs, hs, sg_f (by assumption), ← hcv]; rfl) | (have hs : smB n A = false := smB_of hv (sg_t (by assumption)) (by rw [eq_comm]; simp; omega); rw [sm_bad hs, hs]; rfl) | (have hs : smB n A = false := smB_of hv (sg_f (by assumption)) (by rw [eq_comm]; simp; omega); rw [sm_bad hs, hs]; rfl) | (exfalso; simp_all))⟩)
end Go.VL

/- Walks over the Go functions, printed by a program of this session over the kit's print, and by hand. -/
set_option linter.unusedVariables false
set_option linter.unusedSimpArgs false
namespace Go.VL
open Go.Proofs
theorem f73 (L : List Int) (n : Int) (hL : L.length ≤ 400000000) (oL : ok32 L) (h0 : 0 ≤ n) (h1 : n ≤ 1000000000) : VF Try.prog 73 [u32S (L), numB .i64 (n)] (u32S (dg (val L * 2 ^ n.toNat))) := by
  refine VF_of P_mixed Try.func73 rfl rfl (by kernel_rfl) ?_
  refine VCode.seq ?_
  refine VCode.region ?_
  refine VList.go0 (n' := 1) rfl rfl (.assign _ _ rfl) rfl ?_
  refine VList.nil (Then.go ?_)
  refine VCode.seq ?_
  refine VCode.region ?_
  refine VList.go0 (n' := 2) rfl rfl (.move _ _ rfl) rfl ?_
  refine VList.go0 (n' := 3) rfl rfl (Eff.lenS rfl Try.underlying22) rfl ?_
  refine VList.go0 (n' := 4) rfl rfl (.move _ _ rfl) rfl ?_
  refine VList.go0 (n' := 5) rfl rfl (.bin _ _ _ _ _ _ _ _ rfl rfl (bop_quo_i64 (by first | omega | (simp; done) | (simp; omega)) (by first | omega | (simp; done) | (simp; omega)) (by first | omega | (simp; done) | (simp; omega)))) rfl ?_
  refine VList.go0 (n' := 6) rfl rfl (.bin _ _ _ _ _ _ _ _ rfl rfl (bop_add_i64 (by first | omega | (simp; done) | (simp; omega)))) rfl ?_
  refine VList.go0 (n' := 7) rfl rfl (.bin _ _ _ _ _ _ _ _ rfl rfl (bop_add_i64 (by first | omega | (simp; done) | (simp; omega)))) rfl ?_
  refine VList.go1 (n' := 8) rfl rfl (Eff.makeRow rfl Try.underlying22 P_zero51 P_sz51 P_bytes51 (by first | omega | (simp; done) | (simp; omega)) (by first | omega | (simp; done) | (simp; omega))) rfl ?_
  refine VList.go0 (n' := 9) rfl rfl (.assign _ _ rfl) rfl ?_
  refine VList.nil (Then.go ?_)
  refine VCode.seq ?_
  refine VCode.seq ?_
  refine VCode.region ?_
  refine VList.go0 (n' := 10) rfl rfl (.assign _ _ rfl) rfl ?_
  refine VList.nil (Then.go ?_)
  refine VCode.block ?_
  refine VCode.loop (α := (Nat) × (List Int)) (fun (x_ : (Nat) × (List Int)) => match x_ with | (k, O) => (8, sl [(0, vS (L)), (1, vI .i64 (n)), (5, .own 7 ((((((L).length : Int) + (n / 32)) + 1)).toNat)), (6, vI .i64 ((k : Int)))], en [(7, row (O))])) (fun (x_ : (Nat) × (List Int)) => match x_ with | (k, O) => LeftInv L O (n / 32).toNat (n % 32).toNat k) (fun (x_ : (Nat) × (List Int)) => match x_ with | (k, O) => L.length - k) (0, List.replicate ((((L).length : Int) + (n / 32)) + 1).toNat 0) (by have e : ((((L).length : Int) + (n / 32)) + 1).toNat = L.length + (n / 32).toNat + 1 := (by omega); show LeftInv L (List.replicate _ 0) _ _ 0; rw [e]; exact LeftInv.start) (Weak.of (show 0 ≤ 8 by decide) ⟨⟨rfl, rfl⟩, ⟨⟨rfl, rfl⟩, ⟨⟨rfl, rfl⟩, ⟨⟨rfl, rfl⟩, trivial⟩⟩⟩⟩ ⟨⟨rfl, (show 7 < 8 by decide), row_cells⟩, trivial⟩) ?_
  rintro ⟨k, O⟩ hok
  show VCode Try.prog 0 _ 8 (sl [(0, vS (L)), (1, vI .i64 (n)), (5, .own 7 ((((((L).length : Int) + (n / 32)) + 1)).toNat)), (6, vI .i64 ((k : Int)))]) (en [(7, row (O))]) _
  refine VCode.seq ?_
  refine VCode.seq ?_
  refine VCode.region ?_
  refine VList.go0 (n' := 9) rfl rfl (.move _ _ rfl) rfl ?_
  refine VList.go0 (n' := 10) rfl rfl (.move _ _ rfl) rfl ?_
  refine VList.go0 (n' := 11) rfl rfl (Eff.lenS rfl Try.underlying22) rfl ?_
  refine VList.go0 (n' := 12) rfl rfl (.bin _ _ _ _ _ _ _ _ rfl rfl rfl) rfl ?_
  refine VList.nil (Then.go ?_)
  refine VCode.cond _ rfl (fun hc1 => ?_) (fun hc1 => ?_)
  · replace hc1 := of_decide_eq_true hc1
    refine VCode.skip (Then.go ?_)
    refine VCode.seq ?_
    refine VCode.block ?_
    refine VCode.seq ?_
    have hx := ok32_getD oL k
    have hs := shl_word (r := (n % 32).toNat) (by omega) hx
    have hO := hok.len
    have hi : (((k : Int)) + (n / 32)).toNat = k + (n / 32).toNat := (by omega)
    have hi1 : ((((k : Int)) + (n / 32)) + 1).toNat = k + (n / 32).toNat + 1 := (by omega)
    have hz := ok32_getD hok.ok (k + (n / 32).toNat)
    have htop := hok.top
    have hsum := hok.sum oL (by omega) (by omega) rfl
    rw [← hi] at hz htop hsum
    refine VCode.region ?_
    refine VList.go0 (n' := 13) rfl rfl (.move _ _ rfl) rfl ?_
    refine VList.go0 (n' := 14) rfl rfl (.move _ _ rfl) rfl ?_
    refine VList.go0 (n' := 15) rfl rfl (Eff.indexRdN rfl rfl Try.underlying22 P_sz51 (by first | omega | (simp; done) | (simp; omega))) rfl ?_
    refine VList.go0 (n' := 16) rfl rfl (.loadRd1 _ _ _ _ rfl P_agg51 rfl) rfl ?_
    refine VList.go0 (n' := 17) rfl rfl (Eff.convN_u64 rfl Try.underlying51 Try.underlying62 (by first | omega | (simp; done) | (simp; omega))) rfl ?_
    refine VList.go0 (n' := 18) rfl rfl (.move _ _ rfl) rfl ?_
    refine VList.go0 (n' := 19) rfl rfl (.bin _ _ _ _ _ _ _ _ rfl rfl (bop_rem_i64 (by first | omega | (simp; done) | (simp; omega)) (by first | omega | (simp; done) | (simp; omega)))) rfl ?_
    refine VList.go0 (n' := 20) rfl rfl (.bin _ _ _ _ _ _ _ (.int .u64 (((L).getD (k) 0 * 2 ^ ((n % 32)).toNat))) rfl rfl (bop_shl_u64 (by omega) (by omega) (by omega))) rfl ?_
    refine VList.go0 (n' := 21) rfl rfl (.assign _ _ rfl) rfl ?_
    refine VList.nil (Then.go ?_)
    refine VCode.seq ?_
    refine VCode.region ?_
    refine VList.go0 (n' := 22) rfl rfl (.move _ _ rfl) rfl ?_
    refine VList.go0 (n' := 23) rfl rfl (.move _ _ rfl) rfl ?_
    refine VList.go0 (n' := 24) rfl rfl (.move _ _ rfl) rfl ?_
    refine VList.go0 (n' := 25) rfl rfl (.bin _ _ _ _ _ _ _ _ rfl rfl (bop_quo_i64 (by first | omega | (simp; done) | (simp; omega)) (by first | omega | (simp; done) | (simp; omega)) (by first | omega | (simp; done) | (simp; omega)))) rfl ?_
    refine VList.go0 (n' := 26) rfl rfl (.bin _ _ _ _ _ _ _ _ rfl rfl (bop_add_i64 (by first | omega | (simp; done) | (simp; omega)))) rfl ?_
    refine VList.go0 (n' := 27) rfl rfl (.move _ _ rfl) rfl ?_
    refine VList.go0 (n' := 28) rfl rfl (.move _ _ rfl) rfl ?_
    refine VList.go0 (n' := 29) rfl rfl (.move _ _ rfl) rfl ?_
    refine VList.go0 (n' := 30) rfl rfl (.bin _ _ _ _ _ _ _ _ rfl rfl (bop_quo_i64 (by first | omega | (simp; done) | (simp; omega)) (by first | omega | (simp; done) | (simp; omega)) (by first | omega | (simp; done) | (simp; omega)))) rfl ?_
    refine VList.go0 (n' := 31) rfl rfl (.bin _ _ _ _ _ _ _ _ rfl rfl (bop_add_i64 (by first | omega | (simp; done) | (simp; omega)))) rfl ?_
    refine VList.go0 (n' := 32) rfl rfl (Eff.indexRow rfl rfl Try.underlying22 P_sz51 (by first | omega | (simp; done) | (simp; omega)) (by first | omega | (simp; done) | (simp; omega))) rfl ?_
    refine VList.go0 (n' := 33) rfl rfl (Eff.load32 rfl rfl P_agg51 (by first | omega | (simp; done) | (simp; omega))) rfl ?_
    refine VList.go0 (n' := 34) rfl rfl (.move _ _ rfl) rfl ?_
    refine VList.go0 (n' := 35) rfl rfl (Eff.convM_u32 rfl Try.underlying62 Try.underlying51) rfl ?_
    refine VList.go0 (n' := 36) rfl rfl (.bin _ _ _ _ _ _ _ (.int .u32 (((O).getD ((((k : Int) + (n / 32))).toNat) 0 + ((((L).getD (k) 0 * 2 ^ ((n % 32)).toNat)) % 4294967296)))) rfl rfl (bop_orR_u32 (q := 2 ^ (n % 32).toNat) (n % 32).toNat rfl ⟨hz.1, htop⟩ (shl_low (by omega) hx.1) (by omega))) rfl ?_
    refine VList.go0 (n' := 37) rfl rfl (Eff.indexRow rfl rfl Try.underlying22 P_sz51 (by first | omega | (simp; done) | (simp; omega)) (by first | omega | (simp; done) | (simp; omega))) rfl ?_
    refine VList.goS (n' := 38) rfl rfl (Eff.store32 rfl rfl rfl P_sz51 (by first | omega | (simp; done) | (simp; omega))) rfl ?_
    refine VList.nil (Then.go ?_)
    refine VCode.region ?_
    refine VList.go0 (n' := 39) rfl rfl (.move _ _ rfl) rfl ?_
    refine VList.go0 (n' := 40) rfl rfl (.move _ _ rfl) rfl ?_
    refine VList.go0 (n' := 41) rfl rfl (.move _ _ rfl) rfl ?_
    refine VList.go0 (n' := 42) rfl rfl (.bin _ _ _ _ _ _ _ _ rfl rfl (bop_quo_i64 (by first | omega | (simp; done) | (simp; omega)) (by first | omega | (simp; done) | (simp; omega)) (by first | omega | (simp; done) | (simp; omega)))) rfl ?_
    refine VList.go0 (n' := 43) rfl rfl (.bin _ _ _ _ _ _ _ _ rfl rfl (bop_add_i64 (by first | omega | (simp; done) | (simp; omega)))) rfl ?_
    refine VList.go0 (n' := 44) rfl rfl (.bin _ _ _ _ _ _ _ _ rfl rfl (bop_add_i64 (by first | omega | (simp; done) | (simp; omega)))) rfl ?_
    refine VList.go0 (n' := 45) rfl rfl (.move _ _ rfl) rfl ?_
    refine VList.go0 (n' := 46) rfl rfl (.bin _ _ _ _ _ _ _ _ rfl rfl (bop_quo_u64 (by first | omega | (simp; done) | (simp; omega)) (by first | omega | (simp; done) | (simp; omega)) (by first | omega | (simp; done) | (simp; omega)))) rfl ?_
    refine VList.go0 (n' := 47) rfl rfl (Eff.convM_u32 rfl Try.underlying62 Try.underlying51) rfl ?_
    refine VList.go0 (n' := 48) rfl rfl (Eff.indexRow rfl rfl Try.underlying22 P_sz51 (by first | omega | (simp; done) | (simp; omega)) (by first | omega | (simp; done) | (simp; omega))) rfl ?_
    refine VList.goS (n' := 49) rfl rfl (Eff.store32 rfl rfl rfl P_sz51 (by first | omega | (simp; done) | (simp; omega))) rfl ?_
    refine VList.nil (InBlock.go (Then.go ?_))
    refine VCode.region ?_
    refine VList.go0 (n' := 50) rfl rfl (.move _ _ rfl) rfl ?_
    refine VList.go0 (n' := 51) rfl rfl (.bin _ _ _ _ _ _ _ _ rfl rfl (bop_add_i64 (by first | omega | (simp; done) | (simp; omega)))) rfl ?_
    refine VList.go0 (n' := 52) rfl rfl (.assign _ _ rfl) rfl ?_
    exact VList.nil (Round.go (k + 1, ((O).set ((((k : Int)) + (n / 32)).toNat) ((O).getD ((((k : Int)) + (n / 32)).toNat) 0 + (((L).getD (k) 0 * 2 ^ (n % 32).toNat) % 4294967296))).set (((((k : Int)) + (n / 32)) + 1).toNat) ((((L).getD (k) 0 * 2 ^ (n % 32).toNat) / 4294967296) % 4294967296)) (by show LeftInv L (((O).set ((((k : Int)) + (n / 32)).toNat) ((O).getD ((((k : Int)) + (n / 32)).toNat) 0 + (((L).getD (k) 0 * 2 ^ (n % 32).toNat) % 4294967296))).set (((((k : Int)) + (n / 32)) + 1).toNat) ((((L).getD (k) 0 * 2 ^ (n % 32).toNat) / 4294967296) % 4294967296)) _ _ (k + 1); rw [hi, hi1]; exact hok.step oL (by omega) (by omega) rfl) (by first | (dsimp only; omega) | omega) (Weak.of (show 0 ≤ 8 by decide) ⟨⟨rfl, rfl⟩, ⟨⟨rfl, rfl⟩, ⟨⟨rfl, rfl⟩, ⟨⟨rfl, rfl⟩, trivial⟩⟩⟩⟩ ⟨⟨rfl, (show 7 < 8 by decide), row_cells⟩, trivial⟩))
  · replace hc1 := of_decide_eq_false hc1
    refine VCode.exit (Then.exit (Round.exit (InBlock.here (Then.go ?_))))
    refine VCode.seq ?_
    have hle := hok.le
    have hO := hok.len
    have e1 := hok.fin (m := n.toNat) (by omega) (by omega)
    refine VCode.region ?_
    refine VList.go0 (n' := 13) rfl rfl (.move _ _ rfl) rfl ?_
    refine VList.goN (n' := 14) rfl rfl (.callV _ _ _ _ _ _ rfl (ress_cons (res_row rfl (by first | omega | (simp; done) | (simp; omega) | (simp [*]; done) | (simp [*]; omega))) ress_nil) (f66 _ (by first | omega | assumption | (simp; done) | (simp; omega)) (hok.ok))) rfl ?_
    refine VList.go0 (n' := 15) rfl rfl (.assign _ _ rfl) rfl ?_
    refine VList.nil (Then.go ?_)
    exact VCode.ret (⟨trivial, [u32S (dg (val (O)))], (resVars_cons (resVar_tmp rfl rfl) resVars_nil), (by rw [e1]; rfl)⟩)
theorem f80 (L : List Int) (n : Int) (hL : L.length ≤ 900000000) (nL : norm L) (h0 : 0 ≤ n) (h1 : n ≤ 1000000000) : VF Try.prog 80 [u32S (L), numB .i64 (n)] (.tup [u32S (dg (val L / 2 ^ n.toNat)), boolB (decide (val L % 2 ^ n.toNat ≠ 0))]) := by
  refine VF_of P_mixed Try.func80 rfl rfl (by kernel_rfl) ?_
  refine VCode.seq ?_
  refine VCode.region ?_
  refine VList.go0 (n' := 1) rfl rfl (.assign _ _ rfl) rfl ?_
  refine VList.go0 (n' := 2) rfl rfl (.assign _ _ rfl) rfl ?_
  refine VList.nil (Then.go ?_)
  refine VCode.seq ?_
  refine VCode.seq ?_
  have oL := nL.1
  have hr : (n % 32).toNat < 32 := (by omega)
  have hm : n.toNat = 32 * (n / 32).toNat + (n % 32).toNat := (by omega)
  have h2 := two_pow_pos (n % 32).toNat
  have h3 := two_pow_lt hr
  refine VCode.region ?_
  refine VList.go0 (n' := 3) rfl rfl (.move _ _ rfl) rfl ?_
  refine VList.go0 (n' := 4) rfl rfl (.bin _ _ _ _ _ _ _ _ rfl rfl (bop_quo_i64 (by first | omega | (simp; done) | (simp; omega)) (by first | omega | (simp; done) | (simp; omega)) (by first | omega | (simp; done) | (simp; omega)))) rfl ?_
  refine VList.go0 (n' := 5) rfl rfl (.move _ _ rfl) rfl ?_
  refine VList.go0 (n' := 6) rfl rfl (Eff.lenS rfl Try.underlying22) rfl ?_
  refine VList.go0 (n' := 7) rfl rfl (.bin _ _ _ _ _ _ _ _ rfl rfl rfl) rfl ?_
  refine VList.nil (Then.go ?_)
  refine VCode.cond _ rfl (fun hc1 => ?_) (fun hc1 => ?_)
  · replace hc1 := of_decide_eq_true hc1
    refine VCode.seq ?_
    refine VCode.region ?_
    refine VList.go0 (n' := 8) rfl rfl (.move _ _ rfl) rfl ?_
    refine VList.go0 (n' := 9) rfl rfl (Eff.lenS rfl Try.underlying22) rfl ?_
    refine VList.go0 (n' := 10) rfl rfl (.bin _ _ _ _ _ _ _ _ rfl rfl rfl) rfl ?_
    refine VList.go0 (n' := 11) rfl rfl (.assign _ _ rfl) rfl ?_
    refine VList.go0 (n' := 12) rfl rfl (.assign _ _ rfl) rfl ?_
    refine VList.nil (Then.go ?_)
    exact VCode.ret (Then.ret (⟨trivial, [u32S ([]), boolB (decide (((L).length : Int) > 0))], (resVars_cons (resVar_tmp rfl rfl) (resVars_cons (resVar_tmp rfl rfl) resVars_nil)), (by obtain ⟨w1, w2⟩ := right_out nL hm (by omega); rw [w1, w2]; rfl)⟩))
  · replace hc1 := of_decide_eq_false hc1
    refine VCode.skip (Then.go ?_)
    refine VCode.seq ?_
    have hq : (n / 32).toNat < L.length := (by omega)
    have hx := ok32_getD oL (n / 32).toNat
    refine VCode.region ?_
    refine VList.go0 (n' := 8) rfl rfl (.assign _ _ rfl) rfl ?_
    refine VList.nil (Then.go ?_)
    refine VCode.join (α := (Bool)) (fun (b : (Bool)) => (0, sl [(0, vS (L)), (1, vI .i64 (n)), (6, vB (b))], en [])) (fun (b : (Bool)) => b = decide (val (L.take (n / 32).toNat) ≠ 0)) ?_ ?_
    · skip
      refine VCode.seq ?_
      refine VCode.region ?_
      refine VList.go0 (n' := 9) rfl rfl (.assign _ _ rfl) rfl ?_
      refine VList.nil (Then.go ?_)
      refine VCode.block ?_
      refine VCode.loop (α := (Nat) × (Bool)) (fun (x_ : (Nat) × (Bool)) => match x_ with | (k, b) => (0, sl [(0, vS (L)), (1, vI .i64 (n)), (6, vB (b)), (7, vI .i64 ((k : Int)))], en [])) (fun (x_ : (Nat) × (Bool)) => match x_ with | (k, b) => k ≤ (n / 32).toNat ∧ b = decide (val (L.take k) ≠ 0)) (fun (x_ : (Nat) × (Bool)) => match x_ with | (k, b) => (n / 32).toNat - k) (0, false) ⟨by omega, by simp [val]⟩ (Weak.of (show 0 ≤ 0 by decide) ⟨⟨rfl, rfl⟩, ⟨⟨rfl, rfl⟩, ⟨⟨rfl, rfl⟩, ⟨⟨rfl, rfl⟩, trivial⟩⟩⟩⟩ trivial) ?_
      rintro ⟨k, b⟩ hok
      obtain ⟨hk, hb⟩ := hok
      show VCode Try.prog 0 _ 0 (sl [(0, vS (L)), (1, vI .i64 (n)), (6, vB (b)), (7, vI .i64 ((k : Int)))]) (en []) _
      refine VCode.seq ?_
      refine VCode.seq ?_
      refine VCode.region ?_
      refine VList.go0 (n' := 1) rfl rfl (.move _ _ rfl) rfl ?_
      refine VList.go0 (n' := 2) rfl rfl (.move _ _ rfl) rfl ?_
      refine VList.go0 (n' := 3) rfl rfl (.bin _ _ _ _ _ _ _ _ rfl rfl (bop_quo_i64 (by first | omega | (simp; done) | (simp; omega)) (by first | omega | (simp; done) | (simp; omega)) (by first | omega | (simp; done) | (simp; omega)))) rfl ?_
      refine VList.go0 (n' := 4) rfl rfl (.bin _ _ _ _ _ _ _ _ rfl rfl rfl) rfl ?_
      refine VList.nil (Then.go ?_)
      refine VCode.cond _ rfl (fun hc2 => ?_) (fun hc2 => ?_)
      · replace hc2 := of_decide_eq_true hc2
        refine VCode.skip (Then.go ?_)
        refine VCode.seq ?_
        refine VCode.block ?_
        refine VCode.region ?_
        refine VList.go0 (n' := 5) rfl rfl (.move _ _ rfl) rfl ?_
        refine VList.go0 (n' := 6) rfl rfl (.move _ _ rfl) rfl ?_
        refine VList.split (d := 27) _ rfl (fun hc3 => ?_) (fun hc3 => ?_)
        · replace hc3 := hc3
          refine VList.skip (n' := 7) rfl rfl rfl ?_
          refine VList.skip (n' := 8) rfl rfl rfl ?_
          refine VList.skip (n' := 9) rfl rfl rfl ?_
          refine VList.skip (n' := 10) rfl rfl rfl ?_
          refine VList.skip (n' := 11) rfl rfl rfl ?_
          refine VList.go0 (n' := 12) rfl rfl (.pick _ _ _ _ _ rfl rfl) rfl ?_
          refine VList.go0 (n' := 13) rfl rfl (.assign _ _ rfl) rfl ?_
          refine VList.nil (InBlock.go (Then.go ?_))
          refine VCode.region ?_
          refine VList.go0 (n' := 14) rfl rfl (.move _ _ rfl) rfl ?_
          refine VList.go0 (n' := 15) rfl rfl (.bin _ _ _ _ _ _ _ _ rfl rfl (bop_add_i64 (by first | omega | (simp; done) | (simp; omega)))) rfl ?_
          refine VList.go0 (n' := 16) rfl rfl (.assign _ _ rfl) rfl ?_
          exact VList.nil (Round.go (k + 1, true) ⟨by omega, by first | (exact lost_yes oL (by rw [← hb]; exact Eq.symm (by assumption))) | (exact lost_no oL (by rw [← hb]; exact Eq.symm (by assumption)))⟩ (by first | (dsimp only; omega) | omega) (Weak.of (show 0 ≤ 0 by decide) ⟨⟨rfl, rfl⟩, ⟨⟨rfl, rfl⟩, ⟨⟨rfl, rfl⟩, ⟨⟨rfl, rfl⟩, trivial⟩⟩⟩⟩ trivial))
        · replace hc3 := hc3
          refine VList.go0 (n' := 7) rfl rfl (.move _ _ rfl) rfl ?_
          refine VList.go0 (n' := 8) rfl rfl (.move _ _ rfl) rfl ?_
          refine VList.go0 (n' := 9) rfl rfl (Eff.indexRdN rfl rfl Try.underlying22 P_sz51 (by first | omega | (simp; done) | (simp; omega))) rfl ?_
          refine VList.go0 (n' := 10) rfl rfl (.loadRd1 _ _ _ _ rfl P_agg51 rfl) rfl ?_
          refine VList.go0 (n' := 11) rfl rfl (.bin _ _ _ _ _ _ _ _ rfl rfl rfl) rfl ?_
          refine VList.go0 (n' := 12) rfl rfl (.pick _ _ _ _ _ rfl rfl) rfl ?_
          refine VList.go0 (n' := 13) rfl rfl (.assign _ _ rfl) rfl ?_
          refine VList.nil (InBlock.go (Then.go ?_))
          refine VCode.region ?_
          refine VList.go0 (n' := 14) rfl rfl (.move _ _ rfl) rfl ?_
          refine VList.go0 (n' := 15) rfl rfl (.bin _ _ _ _ _ _ _ _ rfl rfl (bop_add_i64 (by first | omega | (simp; done) | (simp; omega)))) rfl ?_
          refine VList.go0 (n' := 16) rfl rfl (.assign _ _ rfl) rfl ?_
          exact VList.nil (Round.go (k + 1, ((L).getD (k) 0 != 0)) ⟨by omega, by first | (exact lost_yes oL (by rw [← hb]; exact Eq.symm (by assumption))) | (exact lost_no oL (by rw [← hb]; exact Eq.symm (by assumption)))⟩ (by first | (dsimp only; omega) | omega) (Weak.of (show 0 ≤ 0 by decide) ⟨⟨rfl, rfl⟩, ⟨⟨rfl, rfl⟩, ⟨⟨rfl, rfl⟩, ⟨⟨rfl, rfl⟩, trivial⟩⟩⟩⟩ trivial))
      · replace hc2 := of_decide_eq_false hc2
        exact VCode.exit (Then.exit (Round.exit (InBlock.here (Joins.go (b) (by rw [hb, show k = (n / 32).toNat by omega]) (Weak.of (show 0 ≤ 0 by decide) ⟨⟨rfl, rfl⟩, ⟨⟨rfl, rfl⟩, ⟨⟨rfl, rfl⟩, trivial⟩⟩⟩ trivial)))))
    · intro b hb
      show VCode Try.prog 0 _ 0 (sl [(0, vS (L)), (1, vI .i64 (n)), (6, vB (b))]) (en []) _
      refine VCode.seq ?_
      refine VCode.region ?_
      refine VList.go0 (n' := 1) rfl rfl (.move _ _ rfl) rfl ?_
      refine VList.go0 (n' := 2) rfl rfl (Eff.lenS rfl Try.underlying22) rfl ?_
      refine VList.go0 (n' := 3) rfl rfl (.move _ _ rfl) rfl ?_
      refine VList.go0 (n' := 4) rfl rfl (.bin _ _ _ _ _ _ _ _ rfl rfl (bop_quo_i64 (by first | omega | (simp; done) | (simp; omega)) (by first | omega | (simp; done) | (simp; omega)) (by first | omega | (simp; done) | (simp; omega)))) rfl ?_
      refine VList.go0 (n' := 5) rfl rfl (.bin _ _ _ _ _ _ _ _ rfl rfl (bop_sub_i64 (by first | omega | (simp; done) | (simp; omega)))) rfl ?_
      refine VList.go1 (n' := 6) rfl rfl (Eff.makeRow rfl Try.underlying22 P_zero51 P_sz51 P_bytes51 (by first | omega | (simp; done) | (simp; omega)) (by first | omega | (simp; done) | (simp; omega))) rfl ?_
      refine VList.go0 (n' := 7) rfl rfl (.assign _ _ rfl) rfl ?_
      refine VList.nil (Then.go ?_)
      refine VCode.seq ?_
      refine VCode.seq ?_
      refine VCode.region ?_
      refine VList.go0 (n' := 8) rfl rfl (.assign _ _ rfl) rfl ?_
      refine VList.nil (Then.go ?_)
      refine VCode.block ?_
      refine VCode.loop (α := (Nat) × (List Int)) (fun (x_ : (Nat) × (List Int)) => match x_ with | (k, O) => (6, sl [(0, vS (L)), (1, vI .i64 (n)), (6, vB (b)), (8, .own 5 (((((L).length : Int) - (n / 32))).toNat)), (9, vI .i64 ((k : Int)))], en [(5, row (O))])) (fun (x_ : (Nat) × (List Int)) => match x_ with | (k, O) => RightInv L O (n / 32).toNat (n % 32).toNat k) (fun (x_ : (Nat) × (List Int)) => match x_ with | (k, O) => L.length - (n / 32).toNat - k) (0, List.replicate (((L).length : Int) - (n / 32)).toNat 0) (RightInv.start (by omega) (by simp; omega)) (Weak.of (show 0 ≤ 6 by decide) ⟨⟨rfl, rfl⟩, ⟨⟨rfl, rfl⟩, ⟨⟨rfl, rfl⟩, ⟨⟨rfl, rfl⟩, ⟨⟨rfl, rfl⟩, trivial⟩⟩⟩⟩⟩ ⟨⟨rfl, (show 5 < 6 by decide), row_cells⟩, trivial⟩) ?_
      rintro ⟨k, O⟩ hok2
      show VCode Try.prog 0 _ 6 (sl [(0, vS (L)), (1, vI .i64 (n)), (6, vB (b)), (8, .own 5 (((((L).length : Int) - (n / 32))).toNat)), (9, vI .i64 ((k : Int)))]) (en [(5, row (O))]) _
      refine VCode.seq ?_
      refine VCode.seq ?_
      refine VCode.region ?_
      refine VList.go0 (n' := 7) rfl rfl (.move _ _ rfl) rfl ?_
      refine VList.go0 (n' := 8) rfl rfl (.move _ _ rfl) rfl ?_
      refine VList.go0 (n' := 9) rfl rfl (Eff.lenO rfl Try.underlying22) rfl ?_
      refine VList.go0 (n' := 10) rfl rfl (.bin _ _ _ _ _ _ _ _ rfl rfl rfl) rfl ?_
      refine VList.nil (Then.go ?_)
      refine VCode.cond _ rfl (fun hc4 => ?_) (fun hc4 => ?_)
      · replace hc4 := of_decide_eq_true hc4
        refine VCode.skip (Then.go ?_)
        refine VCode.seq ?_
        refine VCode.block ?_
        refine VCode.seq ?_
        have hO := hok2.len
        have hi : (((k : Int)) + (n / 32)).toNat = k + (n / 32).toNat := (by omega)
        have hi1 : ((((k : Int)) + (n / 32)) + 1).toNat = (((k : Int)) + (n / 32)).toNat + 1 := (by omega)
        have hx := ok32_getD oL ((((k : Int)) + (n / 32)).toNat)
        have hy := ok32_getD oL ((((k : Int)) + (n / 32)).toNat + 1)
        have hy1 := ok32_getD oL (((((k : Int)) + (n / 32)) + 1).toNat)
        refine VCode.region ?_
        refine VList.go0 (n' := 11) rfl rfl (.move _ _ rfl) rfl ?_
        refine VList.go0 (n' := 12) rfl rfl (.move _ _ rfl) rfl ?_
        refine VList.go0 (n' := 13) rfl rfl (.move _ _ rfl) rfl ?_
        refine VList.go0 (n' := 14) rfl rfl (.bin _ _ _ _ _ _ _ _ rfl rfl (bop_quo_i64 (by first | omega | (simp; done) | (simp; omega)) (by first | omega | (simp; done) | (simp; omega)) (by first | omega | (simp; done) | (simp; omega)))) rfl ?_
        refine VList.go0 (n' := 15) rfl rfl (.bin _ _ _ _ _ _ _ _ rfl rfl (bop_add_i64 (by first | omega | (simp; done) | (simp; omega)))) rfl ?_
        refine VList.go0 (n' := 16) rfl rfl (Eff.indexRd rfl rfl Try.underlying22 P_sz51 (by first | omega | (simp; done) | (simp; omega)) (by first | omega | (simp; done) | (simp; omega))) rfl ?_
        refine VList.go0 (n' := 17) rfl rfl (.loadRd1 _ _ _ _ rfl P_agg51 rfl) rfl ?_
        refine VList.go0 (n' := 18) rfl rfl (Eff.convN_u64 rfl Try.underlying51 Try.underlying62 (by first | omega | (simp; done) | (simp; omega))) rfl ?_
        refine VList.go0 (n' := 19) rfl rfl (.assign _ _ rfl) rfl ?_
        refine VList.nil (Then.go ?_)
        refine VCode.join (α := (Int)) (fun (t : (Int)) => (6, sl [(0, vS (L)), (1, vI .i64 (n)), (6, vB (b)), (8, .own 5 (((((L).length : Int) - (n / 32))).toNat)), (9, vI .i64 ((k : Int))), (10, vI .u64 (t))], en [(5, row (O))])) (fun (t : (Int)) => t = (L).getD ((((k : Int)) + (n / 32)).toNat) 0 + 4294967296 * (L).getD ((((k : Int)) + (n / 32)).toNat + 1) 0 ∧ 0 ≤ t ∧ t < 18446744073709551616) ?_ ?_
        · skip
          refine VCode.seq ?_
          refine VCode.region ?_
          refine VList.go0 (n' := 20) rfl rfl (.move _ _ rfl) rfl ?_
          refine VList.go0 (n' := 21) rfl rfl (.move _ _ rfl) rfl ?_
          refine VList.go0 (n' := 22) rfl rfl (.bin _ _ _ _ _ _ _ _ rfl rfl (bop_quo_i64 (by first | omega | (simp; done) | (simp; omega)) (by first | omega | (simp; done) | (simp; omega)) (by first | omega | (simp; done) | (simp; omega)))) rfl ?_
          refine VList.go0 (n' := 23) rfl rfl (.bin _ _ _ _ _ _ _ _ rfl rfl (bop_add_i64 (by first | omega | (simp; done) | (simp; omega)))) rfl ?_
          refine VList.go0 (n' := 24) rfl rfl (.bin _ _ _ _ _ _ _ _ rfl rfl (bop_add_i64 (by first | omega | (simp; done) | (simp; omega)))) rfl ?_
          refine VList.go0 (n' := 25) rfl rfl (.move _ _ rfl) rfl ?_
          refine VList.go0 (n' := 26) rfl rfl (Eff.lenS rfl Try.underlying22) rfl ?_
          refine VList.go0 (n' := 27) rfl rfl (.bin _ _ _ _ _ _ _ _ rfl rfl rfl) rfl ?_
          refine VList.nil (Then.go ?_)
          refine VCode.cond _ rfl (fun hc5 => ?_) (fun hc5 => ?_)
          · replace hc5 := of_decide_eq_true hc5
            refine VCode.region ?_
            refine VList.go0 (n' := 28) rfl rfl (.move _ _ rfl) rfl ?_
            refine VList.go0 (n' := 29) rfl rfl (.move _ _ rfl) rfl ?_
            refine VList.go0 (n' := 30) rfl rfl (.move _ _ rfl) rfl ?_
            refine VList.go0 (n' := 31) rfl rfl (.move _ _ rfl) rfl ?_
            refine VList.go0 (n' := 32) rfl rfl (.bin _ _ _ _ _ _ _ _ rfl rfl (bop_quo_i64 (by first | omega | (simp; done) | (simp; omega)) (by first | omega | (simp; done) | (simp; omega)) (by first | omega | (simp; done) | (simp; omega)))) rfl ?_
            refine VList.go0 (n' := 33) rfl rfl (.bin _ _ _ _ _ _ _ _ rfl rfl (bop_add_i64 (by first | omega | (simp; done) | (simp; omega)))) rfl ?_
            refine VList.go0 (n' := 34) rfl rfl (.bin _ _ _ _ _ _ _ _ rfl rfl (bop_add_i64 (by first | omega | (simp; done) | (simp; omega)))) rfl ?_
            refine VList.go0 (n' := 35) rfl rfl (Eff.indexRd rfl rfl Try.underlying22 P_sz51 (by first | omega | (simp; done) | (simp; omega)) (by first | omega | (simp; done) | (simp; omega))) rfl ?_
            refine VList.go0 (n' := 36) rfl rfl (.loadRd1 _ _ _ _ rfl P_agg51 rfl) rfl ?_
            refine VList.go0 (n' := 37) rfl rfl (Eff.convN_u64 rfl Try.underlying51 Try.underlying62 (by first | omega | (simp; done) | (simp; omega))) rfl ?_
            refine VList.go0 (n' := 38) rfl rfl (.bin _ _ _ _ _ _ _ _ rfl rfl (bop_mul_u64 (by first | omega | (simp; done) | (simp; omega)))) rfl ?_
            refine VList.go0 (n' := 39) rfl rfl (.bin _ _ _ _ _ _ _ _ rfl rfl (bop_add_u64 (by first | omega | (simp; done) | (simp; omega)))) rfl ?_
            refine VList.go0 (n' := 40) rfl rfl (.assign _ _ rfl) rfl ?_
            exact VList.nil (Joins.go (((L).getD (((k : Int) + (n / 32))).toNat 0 + ((L).getD ((((k : Int) + (n / 32)) + 1)).toNat 0 * 4294967296))) ⟨by rw [hi1]; omega, by omega, by omega⟩ (Weak.of (show 0 ≤ 6 by decide) ⟨⟨rfl, rfl⟩, ⟨⟨rfl, rfl⟩, ⟨⟨rfl, rfl⟩, ⟨⟨rfl, rfl⟩, ⟨⟨rfl, rfl⟩, ⟨⟨rfl, rfl⟩, trivial⟩⟩⟩⟩⟩⟩ ⟨⟨rfl, (show 5 < 6 by decide), row_cells⟩, trivial⟩))
          · replace hc5 := of_decide_eq_false hc5
            exact VCode.skip (Joins.go ((L).getD (((k : Int) + (n / 32))).toNat 0) ⟨by rw [getD_out (L := L) (i := (((k : Int)) + (n / 32)).toNat + 1) (by omega)]; omega, by omega, by omega⟩ (Weak.of (show 0 ≤ 6 by decide) ⟨⟨rfl, rfl⟩, ⟨⟨rfl, rfl⟩, ⟨⟨rfl, rfl⟩, ⟨⟨rfl, rfl⟩, ⟨⟨rfl, rfl⟩, ⟨⟨rfl, rfl⟩, trivial⟩⟩⟩⟩⟩⟩ ⟨⟨rfl, (show 5 < 6 by decide), row_cells⟩, trivial⟩))
        · intro t ht0
          obtain ⟨ht, ht1, ht2⟩ := ht0
          have ht3 := Int.ediv_nonneg ht1 (Int.le_of_lt (two_pow_pos (n % 32).toNat))
          show VCode Try.prog 0 _ 6 (sl [(0, vS (L)), (1, vI .i64 (n)), (6, vB (b)), (8, .own 5 (((((L).length : Int) - (n / 32))).toNat)), (9, vI .i64 ((k : Int))), (10, vI .u64 (t))]) (en [(5, row (O))]) _
          refine VCode.region ?_
          refine VList.go0 (n' := 7) rfl rfl (.move _ _ rfl) rfl ?_
          refine VList.go0 (n' := 8) rfl rfl (.move _ _ rfl) rfl ?_
          refine VList.go0 (n' := 9) rfl rfl (.move _ _ rfl) rfl ?_
          refine VList.go0 (n' := 10) rfl rfl (.move _ _ rfl) rfl ?_
          refine VList.go0 (n' := 11) rfl rfl (.bin _ _ _ _ _ _ _ _ rfl rfl (bop_rem_i64 (by first | omega | (simp; done) | (simp; omega)) (by first | omega | (simp; done) | (simp; omega)))) rfl ?_
          refine VList.go0 (n' := 12) rfl rfl (.bin _ _ _ _ _ _ _ _ rfl rfl (bop_shr_u64 (by first | omega | (simp; done) | (simp; omega)) (by first | omega | (simp; done) | (simp; omega)))) rfl ?_
          refine VList.go0 (n' := 13) rfl rfl (Eff.convM_u32 rfl Try.underlying62 Try.underlying51) rfl ?_
          refine VList.go0 (n' := 14) rfl rfl (Eff.indexRowN rfl rfl Try.underlying22 P_sz51 (by first | omega | (simp; done) | (simp; omega))) rfl ?_
          refine VList.goS (n' := 15) rfl rfl (Eff.store32 rfl rfl rfl P_sz51 (by first | omega | (simp; done) | (simp; omega))) rfl ?_
          refine VList.nil (InBlock.go (Then.go ?_))
          refine VCode.region ?_
          refine VList.go0 (n' := 16) rfl rfl (.move _ _ rfl) rfl ?_
          refine VList.go0 (n' := 17) rfl rfl (.bin _ _ _ _ _ _ _ _ rfl rfl (bop_add_i64 (by first | omega | (simp; done) | (simp; omega)))) rfl ?_
          refine VList.go0 (n' := 18) rfl rfl (.assign _ _ rfl) rfl ?_
          exact VList.nil (Round.go (k + 1, (O).set ((k)) ((((t / 2 ^ ((n % 32)).toNat)) % 4294967296))) (hok2.step oL hr (by omega) (by rw [← hi]; exact ht)) (by first | (dsimp only; omega) | omega) (Weak.of (show 0 ≤ 6 by decide) ⟨⟨rfl, rfl⟩, ⟨⟨rfl, rfl⟩, ⟨⟨rfl, rfl⟩, ⟨⟨rfl, rfl⟩, ⟨⟨rfl, rfl⟩, trivial⟩⟩⟩⟩⟩ ⟨⟨rfl, (show 5 < 6 by decide), row_cells⟩, trivial⟩))
      · replace hc4 := of_decide_eq_false hc4
        refine VCode.exit (Then.exit (Round.exit (InBlock.here (Then.go ?_))))
        refine VCode.seq ?_
        have hO := hok2.len
        have hle := hok2.le
        obtain ⟨e1, e2⟩ := hok2.fin oL (by omega) hm
        refine VCode.region ?_
        refine VList.go0 (n' := 11) rfl rfl (.move _ _ rfl) rfl ?_
        refine VList.go0 (n' := 12) rfl rfl (.bin _ _ _ _ _ _ _ _ rfl rfl (bop_rem_i64 (by first | omega | (simp; done) | (simp; omega)) (by first | omega | (simp; done) | (simp; omega)))) rfl ?_
        refine VList.go0 (n' := 13) rfl rfl (.bin _ _ _ _ _ _ _ (.int .u64 ((1 * 2 ^ ((n % 32)).toNat))) rfl rfl (bop_shl_u64 (by omega) (by omega) (by omega))) rfl ?_
        refine VList.go0 (n' := 14) rfl rfl (.bin _ _ _ _ _ _ _ _ rfl rfl (bop_sub_u64 (by first | omega | (simp; done) | (simp; omega)))) rfl ?_
        refine VList.go0 (n' := 15) rfl rfl (.assign _ _ rfl) rfl ?_
        refine VList.nil (Then.go ?_)
        refine VCode.seq ?_
        refine VCode.draw (by kernel_rfl) ?_
        refine VLog.go0 (n' := 16) rfl rfl (.move _ _ rfl) rfl ?_
        refine VLog.goN (n' := 17) rfl rfl (.callV _ _ _ _ _ _ rfl (ress_cons (res_row rfl (by first | omega | (simp; done) | (simp; omega) | (simp [*]; done) | (simp [*]; omega))) ress_nil) (f66 _ (by first | omega | assumption | (simp; done) | (simp; omega)) (e2))) rfl ?_
        refine VLog.go0 (n' := 18) rfl rfl (.move _ _ rfl) rfl ?_
        refine VLog.go0 (n' := 19) rfl rfl (.move _ _ rfl) rfl ?_
        refine VLog.split (d := 89) _ rfl (fun hc6 => ?_) (fun hc6 => ?_)
        · replace hc6 := hc6
          refine VLog.skip (n' := 20) rfl rfl rfl ?_
          refine VLog.skip (n' := 21) rfl rfl rfl ?_
          refine VLog.skip (n' := 22) rfl rfl rfl ?_
          refine VLog.skip (n' := 23) rfl rfl rfl ?_
          refine VLog.skip (n' := 24) rfl rfl rfl ?_
          refine VLog.skip (n' := 25) rfl rfl rfl ?_
          refine VLog.skip (n' := 26) rfl rfl rfl ?_
          refine VLog.skip (n' := 27) rfl rfl rfl ?_
          refine VLog.skip (n' := 28) rfl rfl rfl ?_
          refine VLog.go0 (n' := 29) rfl rfl (.pick _ _ _ _ _ rfl rfl) rfl ?_
          refine VLog.go0 (n' := 30) rfl rfl (.assign _ _ rfl) rfl ?_
          refine VLog.go0 (n' := 31) rfl rfl (.assign _ _ rfl) rfl ?_
          refine VLog.nil ⟨by kernel_rfl, Then.go ?_⟩
          exact VCode.ret (⟨trivial, [u32S (dg (val (O))), boolB (true)], (resVars_cons (resVar_tmp rfl rfl) (resVars_cons (resVar_tmp rfl rfl) resVars_nil)), (by rw [lost_a oL hr hm hq (by rw [← hb]; exact Eq.symm (by assumption)), e1]; rfl)⟩)
        · replace hc6 := hc6
          refine VLog.go0 (n' := 20) rfl rfl (.move _ _ rfl) rfl ?_
          refine VLog.go0 (n' := 21) rfl rfl (.move _ _ rfl) rfl ?_
          refine VLog.go0 (n' := 22) rfl rfl (.bin _ _ _ _ _ _ _ _ rfl rfl (bop_quo_i64 (by first | omega | (simp; done) | (simp; omega)) (by first | omega | (simp; done) | (simp; omega)) (by first | omega | (simp; done) | (simp; omega)))) rfl ?_
          refine VLog.go0 (n' := 23) rfl rfl (Eff.indexRd rfl rfl Try.underlying22 P_sz51 (by first | omega | (simp; done) | (simp; omega)) (by first | omega | (simp; done) | (simp; omega))) rfl ?_
          refine VLog.go0 (n' := 24) rfl rfl (.loadRd1 _ _ _ _ rfl P_agg51 rfl) rfl ?_
          refine VLog.go0 (n' := 25) rfl rfl (Eff.convN_u64 rfl Try.underlying51 Try.underlying62 (by first | omega | (simp; done) | (simp; omega))) rfl ?_
          refine VLog.go0 (n' := 26) rfl rfl (.move _ _ rfl) rfl ?_
          refine VLog.go0 (n' := 27) rfl rfl (.bin _ _ _ _ _ _ _ (.int .u64 (((L).getD ((n / 32)).toNat 0 % 2 ^ (n % 32).toNat))) rfl rfl (bop_mask_u64 (q := 2 ^ (n % 32).toNat) (n % 32).toNat rfl (by omega) (by omega) (by omega))) rfl ?_
          refine VLog.go0 (n' := 28) rfl rfl (.bin _ _ _ _ _ _ _ _ rfl rfl rfl) rfl ?_
          refine VLog.go0 (n' := 29) rfl rfl (.pick _ _ _ _ _ rfl rfl) rfl ?_
          refine VLog.go0 (n' := 30) rfl rfl (.assign _ _ rfl) rfl ?_
          refine VLog.go0 (n' := 31) rfl rfl (.assign _ _ rfl) rfl ?_
          refine VLog.nil ⟨by kernel_rfl, Then.go ?_⟩
          exact VCode.ret (⟨trivial, [u32S (dg (val (O))), boolB ((((L).getD ((n / 32)).toNat 0 % 2 ^ (n % 32).toNat) != 0))], (resVars_cons (resVar_tmp rfl rfl) (resVars_cons (resVar_tmp rfl rfl) resVars_nil)), (by rw [lost_b oL hr hm hq (by rw [← hb]; exact Eq.symm (by assumption)), e1]; rfl)⟩)
theorem f46 (n : Bool) (A : List Int) (k : Int) (hA : A.length ≤ 9223372036854775807) (oA : ok32 A) (k0 : -9223372036854775808 ≤ k) (k1 : k ≤ 9223372036854775807) : VF Try.prog 46 [.agg [boolB (n), u32S (A)], numB .i64 (k)] (gR (validB n A) (shZ (zOf n A) k)) := by
  refine VF_of P_mixed Try.func46 rfl rfl (by kernel_rfl) ?_
  refine VCode.seq ?_
  refine VCode.region ?_
  refine VList.go1 (n' := 1) rfl rfl (.box _ _ _ rfl (List.cons_ne_nil _ _) rfl) rfl ?_
  refine VList.go1 (n' := 2) rfl rfl (.alloc _ _ P_zero24 (List.cons_ne_nil _ _)) rfl ?_
  refine VList.go0 (n' := 3) rfl rfl (.assign _ _ rfl) rfl ?_
  refine VList.nil (Then.go ?_)
  refine VCode.seq ?_
  refine VCode.seq ?_
  refine VCode.region ?_
  refine VList.go0 (n' := 4) rfl rfl (.loadS _ _ _ _ _ _ rfl rfl P_agg24 P_sz24 (Nat.le_of_ble_eq_true rfl)) rfl ?_
  refine VList.go0 (n' := 5) rfl rfl (.callF _ _ _ _ _ _ rfl (ress_cons rfl ress_nil) (f26 _ _ (by first | omega | assumption | (simp; done) | (simp; omega))) rfl) rfl ?_
  refine VList.go0 (n' := 6) rfl rfl (.un _ _ _ _ _ rfl rfl) rfl ?_
  refine VList.nil (Then.go ?_)
  refine VCode.cond _ rfl (fun hc1 => ?_) (fun hc1 => ?_)
  · replace hc1 := (bnot_t hc1)
    refine VCode.seq ?_
    refine VCode.region ?_
    refine VList.go0 (n' := 7) rfl rfl Eff.int0 rfl ?_
    refine VList.goS (n' := 8) rfl rfl (.store _ _ _ _ _ _ _ rfl rfl rfl rfl P_sz24 (Nat.le_of_ble_eq_true rfl) rfl) rfl ?_
    refine VList.go0 (n' := 9) rfl rfl (.assign _ _ rfl) rfl ?_
    refine VList.nil (Then.go ?_)
    exact VCode.ret (Then.ret (⟨trivial, [.agg [boolB (false), u32S ([])], numB .i64 (1)], (resVars_cons (resVar_cell rfl rfl P_agg24 P_sz24 (Nat.le_of_ble_eq_true rfl) rfl) (resVars_cons (resVar_tmp rfl rfl) resVars_nil)), (by rw [gR_false hc1]; rfl)⟩))
  · replace hc1 := (bnot_f hc1)
    refine VCode.skip (Then.go ?_)
    refine VCode.seq ?_
    refine VCode.seq ?_
    obtain ⟨nA, lA, sA⟩ := valid_norm oA hc1
    refine VCode.region ?_
    refine VList.go0 (n' := 7) rfl rfl (.fieldAddr _ _ _ _ _ _ _ _ rfl P_fld24_1) rfl ?_
    refine VList.go0 (n' := 8) rfl rfl (.load1 _ _ _ _ _ _ rfl rfl P_agg22 rfl) rfl ?_
    refine VList.go0 (n' := 9) rfl rfl (Eff.lenS rfl Try.underlying22) rfl ?_
    refine VList.go0 (n' := 10) rfl rfl (.bin _ _ _ _ _ _ _ _ rfl rfl rfl) rfl ?_
    refine VList.nil (Then.go ?_)
    refine VCode.cond _ rfl (fun hc2 => ?_) (fun hc2 => ?_)
    · replace hc2 := eq_of_beq hc2
      refine VCode.seq ?_
      refine VCode.region ?_
      refine VList.go0 (n' := 11) rfl rfl Eff.int0 rfl ?_
      refine VList.goS (n' := 12) rfl rfl (.store _ _ _ _ _ _ _ rfl rfl rfl rfl P_sz24 (Nat.le_of_ble_eq_true rfl) rfl) rfl ?_
      refine VList.go0 (n' := 13) rfl rfl (.assign _ _ rfl) rfl ?_
      refine VList.nil (Then.go ?_)
      exact VCode.ret (Then.ret (⟨trivial, [.agg [boolB (false), u32S ([])], numB .i64 (0)], (resVars_cons (resVar_cell rfl rfl P_agg24 P_sz24 (Nat.le_of_ble_eq_true rfl) rfl) (resVars_cons (resVar_tmp rfl rfl) resVars_nil)), (by rw [gR_true hc1, zOf, norm_zero nA (by omega), show sg n 0 = 0 by cases n <;> rfl, shZ_zero, zR_zero]; rfl)⟩))
    · replace hc2 := ne_of_beq_false hc2
      refine VCode.skip (Then.go ?_)
      refine VCode.seq ?_
      refine VCode.seq ?_
      have vA := val_nonneg oA
      have bP := norm_pos nA (fun e => hc2 (by rw [e]; rfl))
      have vl := val_limit oA lA
      refine VCode.region ?_
      refine VList.go0 (n' := 11) rfl rfl (.move _ _ rfl) rfl ?_
      refine VList.go0 (n' := 12) rfl rfl (.bin _ _ _ _ _ _ _ _ rfl rfl rfl) rfl ?_
      refine VList.nil (Then.go ?_)
      refine VCode.cond _ rfl (fun hc3 => ?_) (fun hc3 => ?_)
      · replace hc3 := of_decide_eq_true hc3
        refine VCode.seq ?_
        refine VCode.seq ?_
        refine VCode.region ?_
        refine VList.go0 (n' := 13) rfl rfl (.move _ _ rfl) rfl ?_
        refine VList.go0 (n' := 14) rfl rfl (.bin _ _ _ _ _ _ _ _ rfl rfl rfl) rfl ?_
        refine VList.nil (Then.go ?_)
        refine VCode.cond _ rfl (fun hc4 => ?_) (fun hc4 => ?_)
        · replace hc4 := of_decide_eq_true hc4
          refine VCode.seq ?_
          refine VCode.region ?_
          refine VList.go0 (n' := 15) rfl rfl Eff.int0 rfl ?_
          refine VList.goS (n' := 16) rfl rfl (.store _ _ _ _ _ _ _ rfl rfl rfl rfl P_sz24 (Nat.le_of_ble_eq_true rfl) rfl) rfl ?_
          refine VList.go0 (n' := 17) rfl rfl (.assign _ _ rfl) rfl ?_
          refine VList.nil (Then.go ?_)
          exact VCode.ret (Then.ret (Then.ret (⟨trivial, [.agg [boolB (false), u32S ([])], numB .i64 (2)], (resVars_cons (resVar_cell rfl rfl P_agg24 P_sz24 (Nat.le_of_ble_eq_true rfl) rfl) (resVars_cons (resVar_tmp rfl rfl) resVars_nil)), (by rw [gR_true hc1, zR_big (shl_big bP hc4)]; rfl)⟩)))
        · replace hc4 := of_decide_eq_false hc4
          refine VCode.skip (Then.go ?_)
          refine VCode.seq ?_
          have hk2 : (dg (val A * 2 ^ k.toNat)).length ≤ 1000000000 := shl_len oA lA (by omega)
          refine VCode.draw (by kernel_rfl) ?_
          refine VLog.go0 (n' := 15) rfl rfl (.fieldAddr _ _ _ _ _ _ _ _ rfl P_fld24_0) rfl ?_
          refine VLog.go0 (n' := 16) rfl rfl (.load1 _ _ _ _ _ _ rfl rfl P_agg4 rfl) rfl ?_
          refine VLog.go0 (n' := 17) rfl rfl (.fieldAddr _ _ _ _ _ _ _ _ rfl P_fld24_1) rfl ?_
          refine VLog.go0 (n' := 18) rfl rfl (.load1 _ _ _ _ _ _ rfl rfl P_agg22 rfl) rfl ?_
          refine VLog.go0 (n' := 19) rfl rfl (.move _ _ rfl) rfl ?_
          refine VLog.go0 (n' := 20) rfl rfl (Eff.callV0 rfl (ress_cons rfl (ress_cons rfl ress_nil)) (f73 _ _ (by omega) (oA) (by omega) (by omega)) rfl) rfl ?_
          refine VLog.go0 (n' := 21) rfl rfl (Eff.callV0 rfl (ress_cons rfl (ress_cons rfl ress_nil)) (f58 _ _ (hk2) (ok32_dg _)) rfl) rfl ?_
          refine VLog.go0 (n' := 22) rfl rfl (.extract _ _ _ _ rfl rfl) rfl ?_
          refine VLog.go0 (n' := 23) rfl rfl (.extract _ _ _ _ rfl rfl) rfl ?_
          refine VLog.goS (n' := 24) rfl rfl (.store _ _ _ _ _ _ _ rfl rfl rfl rfl P_sz24 (Nat.le_of_ble_eq_true rfl) rfl) rfl ?_
          refine VLog.go0 (n' := 25) rfl rfl (.assign _ _ rfl) rfl ?_
          refine VLog.nil ⟨by kernel_rfl, Then.go ?_⟩
          exact VCode.ret (Then.ret (⟨trivial, [.agg [boolB (zN (sg (n) (val (dg (val (A) * 2 ^ (k).toNat))))), u32S (zL (sg (n) (val (dg (val (A) * 2 ^ (k).toNat)))))], numB .i64 (zE (sg (n) (val (dg (val (A) * 2 ^ (k).toNat)))))], (resVars_cons (resVar_cell rfl rfl P_agg24 P_sz24 (Nat.le_of_ble_eq_true rfl) rfl) (resVars_cons (resVar_tmp rfl rfl) resVars_nil)), (by rw [gR_true hc1, zOf, sg_shl hc3, val_dg (Int.mul_nonneg vA (Int.le_of_lt (two_pow_pos _)))]; rfl)⟩))
      · replace hc3 := of_decide_eq_false hc3
        refine VCode.skip (Then.go ?_)
        refine VCode.join (α := (Int)) (fun (k2 : (Int)) => (2, sl [(1, vI .i64 (k2)), (2, .ptr 0 (0)), (4, .ptr 1 (0))], en [(0, ⟨2, [vB (n), vS (A)], true⟩), (1, ⟨2, [vB (false), vS ([])], true⟩)])) (fun (k2 : (Int)) => k2 = (if -4096 > k then -4096 else k)) ?_ ?_
        · skip
          refine VCode.seq ?_
          refine VCode.region ?_
          refine VList.go0 (n' := 13) rfl rfl (.move _ _ rfl) rfl ?_
          refine VList.go0 (n' := 14) rfl rfl (.bin _ _ _ _ _ _ _ _ rfl rfl rfl) rfl ?_
          refine VList.nil (Then.go ?_)
          refine VCode.cond _ rfl (fun hc5 => ?_) (fun hc5 => ?_)
          · replace hc5 := of_decide_eq_true hc5
            refine VCode.region ?_
            refine VList.go0 (n' := 15) rfl rfl (.assign _ _ rfl) rfl ?_
            exact VList.nil (Joins.go ((-4096)) (by rw [if_pos (by omega)]) (Weak.of (show 0 ≤ 2 by decide) ⟨⟨rfl, rfl⟩, ⟨⟨rfl, rfl⟩, ⟨⟨rfl, rfl⟩, trivial⟩⟩⟩ ⟨⟨rfl, (show 0 < 2 by decide), (by intro v_ hv_; simp at hv_; rcases hv_ with rfl | rfl <;> rfl)⟩, ⟨⟨rfl, (show 1 < 2 by decide), (by intro v_ hv_; simp at hv_; rcases hv_ with rfl | rfl <;> rfl)⟩, trivial⟩⟩))
          · replace hc5 := of_decide_eq_false hc5
            exact VCode.skip (Joins.go (k) (by rw [if_neg (by omega)]) (Weak.of (show 0 ≤ 2 by decide) ⟨⟨rfl, rfl⟩, ⟨⟨rfl, rfl⟩, ⟨⟨rfl, rfl⟩, trivial⟩⟩⟩ ⟨⟨rfl, (show 0 < 2 by decide), (by intro v_ hv_; simp at hv_; rcases hv_ with rfl | rfl <;> rfl)⟩, ⟨⟨rfl, (show 1 < 2 by decide), (by intro v_ hv_; simp at hv_; rcases hv_ with rfl | rfl <;> rfl)⟩, trivial⟩⟩))
        · intro k2 hk2
          have hm0 : 0 ≤ -k2 ∧ -k2 ≤ 4096 := by rw [hk2]; split <;> omega
          have q0 : 0 ≤ val A / 2 ^ (-(k2)).toNat := Int.ediv_nonneg vA (Int.le_of_lt (two_pow_pos _))
          have hq1 : (dg (val A / 2 ^ (-(k2)).toNat)).length ≤ 128 := Nat.le_trans (len_le oA q0 (Int.ediv_le_self _ vA)) lA
          show VCode Try.prog 0 _ 2 (sl [(1, vI .i64 (k2)), (2, .ptr 0 (0)), (4, .ptr 1 (0))]) (en [(0, ⟨2, [vB (n), vS (A)], true⟩), (1, ⟨2, [vB (false), vS ([])], true⟩)]) _
          refine VCode.seq ?_
          refine VCode.region ?_
          refine VList.go0 (n' := 3) rfl rfl (.fieldAddr _ _ _ _ _ _ _ _ rfl P_fld24_1) rfl ?_
          refine VList.go0 (n' := 4) rfl rfl (.load1 _ _ _ _ _ _ rfl rfl P_agg22 rfl) rfl ?_
          refine VList.go0 (n' := 5) rfl rfl (.move _ _ rfl) rfl ?_
          refine VList.go0 (n' := 6) rfl rfl (.un _ _ _ _ _ rfl (uop_neg_i64 (by omega))) rfl ?_
          refine VList.go0 (n' := 7) rfl rfl (Eff.callV0 rfl (ress_cons rfl (ress_cons rfl ress_nil)) (f80 _ _ (by omega) (nA) (by omega) (by omega)) rfl) rfl ?_
          refine VList.go0 (n' := 8) rfl rfl (.move _ _ rfl) rfl ?_
          refine VList.go0 (n' := 9) rfl rfl (.extract _ _ _ _ rfl rfl) rfl ?_
          refine VList.go0 (n' := 10) rfl rfl (.extract _ _ _ _ rfl rfl) rfl ?_
          refine VList.go0 (n' := 11) rfl rfl (.assign _ _ rfl) rfl ?_
          refine VList.go0 (n' := 12) rfl rfl (.assign _ _ rfl) rfl ?_
          refine VList.nil (Then.go ?_)
          refine VCode.join (α := (List Int)) (fun (Q : (List Int)) => (2, sl [(2, .ptr 0 (0)), (4, .ptr 1 (0)), (6, vS (Q))], en [(0, ⟨2, [vB (n), vS (A)], true⟩), (1, ⟨2, [vB (false), vS ([])], true⟩)])) (fun (Q : (List Int)) => (norm Q ∧ Q.length ≤ 1000000000) ∧ sg n (val Q) = shZ (zOf n A) k) ?_ ?_
          · skip
            refine VCode.seq ?_
            refine VCode.region ?_
            refine VList.go0 (n' := 13) rfl rfl (.fieldAddr _ _ _ _ _ _ _ _ rfl P_fld24_0) rfl ?_
            refine VList.go0 (n' := 14) rfl rfl (.load1 _ _ _ _ _ _ rfl rfl P_agg4 rfl) rfl ?_
            refine VList.go0 (n' := 15) rfl rfl (.move _ _ rfl) rfl ?_
            refine VList.split (d := 43) _ rfl (fun hc6 => ?_) (fun hc6 => ?_)
            · (try simp at hc6)
              refine VList.go0 (n' := 16) rfl rfl (.move _ _ rfl) rfl ?_
              refine VList.go0 (n' := 17) rfl rfl (.pick _ _ _ _ _ rfl rfl) rfl ?_
              refine VList.nil (Then.go ?_)
              refine VCode.cond _ rfl (fun hc7 => ?_) (fun hc7 => ?_)
              · replace hc7 := of_decide_eq_true hc7
                refine VCode.region ?_
                refine VList.go0 (n' := 18) rfl rfl (.move _ _ rfl) rfl ?_
                refine VList.go1 (n' := 19) rfl rfl (Eff.lits1 rfl Try.underlying22 P_zero51 P_sz51) rfl ?_
                refine VList.goN (n' := 20) rfl rfl (.callV _ _ _ _ _ _ rfl (ress_cons rfl (ress_cons (res_row rfl (by first | omega | (simp; done) | (simp; omega) | (simp [*]; done) | (simp [*]; omega))) ress_nil)) (f56 _ _ (by first | omega | assumption | (simp; done) | (simp; omega)) (by first | omega | assumption | (simp; done) | (simp; omega)) (ok32_dg _) (ok32_cons.2 ⟨by omega, ok32_nil⟩))) rfl ?_
                refine VList.go0 (n' := 21) rfl rfl (.assign _ _ rfl) rfl ?_
                exact VList.nil (Joins.go (dg (val (dg (val A / 2 ^ (-(k2)).toNat)) + val ([1]))) ⟨⟨norm_dg _, add_len (ok32_dg _) (B := [1]) (ok32_cons.2 ⟨by omega, ok32_nil⟩) hq1 (by simp)⟩, shr_plus vA vl (by omega) (by rw [hk2]) (by assumption) (by assumption)⟩ (Weak.of (show 0 ≤ 2 by decide) ⟨⟨rfl, rfl⟩, ⟨⟨rfl, rfl⟩, ⟨⟨rfl, rfl⟩, trivial⟩⟩⟩ ⟨⟨rfl, (show 0 < 2 by decide), (by intro v_ hv_; simp at hv_; rcases hv_ with rfl | rfl <;> rfl)⟩, ⟨⟨rfl, (show 1 < 2 by decide), (by intro v_ hv_; simp at hv_; rcases hv_ with rfl | rfl <;> rfl)⟩, trivial⟩⟩))
              · replace hc7 := of_decide_eq_false hc7
                exact VCode.skip (Joins.go (dg (val A / 2 ^ (-(k2)).toNat)) ⟨⟨norm_dg _, (by omega)⟩, shr_same vA vl (by omega) (by rw [hk2]) (by first | exact fun h => absurd h.2 (by assumption) | exact fun h => Bool.noConfusion (h.1.symm.trans (show n = false by assumption)))⟩ (Weak.of (show 0 ≤ 2 by decide) ⟨⟨rfl, rfl⟩, ⟨⟨rfl, rfl⟩, ⟨⟨rfl, rfl⟩, trivial⟩⟩⟩ ⟨⟨rfl, (show 0 < 2 by decide), (by intro v_ hv_; simp at hv_; rcases hv_ with rfl | rfl <;> rfl)⟩, ⟨⟨rfl, (show 1 < 2 by decide), (by intro v_ hv_; simp at hv_; rcases hv_ with rfl | rfl <;> rfl)⟩, trivial⟩⟩))
            · (try simp at hc6)
              refine VList.skip (n' := 16) rfl rfl rfl ?_
              refine VList.go0 (n' := 17) rfl rfl (.pick _ _ _ _ _ rfl rfl) rfl ?_
              refine VList.nil (Then.go ?_)
              refine VCode.cond _ rfl (fun h_ => Bool.noConfusion h_) (fun _ => ?_)
              exact VCode.skip (Joins.go (dg (val A / 2 ^ (-(k2)).toNat)) ⟨⟨norm_dg _, (by omega)⟩, shr_same vA vl (by omega) (by rw [hk2]) (by first | exact fun h => absurd h.2 (by assumption) | exact fun h => Bool.noConfusion (h.1.symm.trans (show n = false by assumption)))⟩ (Weak.of (show 0 ≤ 2 by decide) ⟨⟨rfl, rfl⟩, ⟨⟨rfl, rfl⟩, ⟨⟨rfl, rfl⟩, trivial⟩⟩⟩ ⟨⟨rfl, (show 0 < 2 by decide), (by intro v_ hv_; simp at hv_; rcases hv_ with rfl | rfl <;> rfl)⟩, ⟨⟨rfl, (show 1 < 2 by decide), (by intro v_ hv_; simp at hv_; rcases hv_ with rfl | rfl <;> rfl)⟩, trivial⟩⟩))
          · intro Q hok
            obtain ⟨⟨nQ, lQ⟩, j3⟩ := hok
            show VCode Try.prog 0 _ 2 (sl [(2, .ptr 0 (0)), (4, .ptr 1 (0)), (6, vS (Q))]) (en [(0, ⟨2, [vB (n), vS (A)], true⟩), (1, ⟨2, [vB (false), vS ([])], true⟩)]) _
            refine VCode.seq ?_
            refine VCode.region ?_
            refine VList.go0 (n' := 3) rfl rfl (.fieldAddr _ _ _ _ _ _ _ _ rfl P_fld24_0) rfl ?_
            refine VList.go0 (n' := 4) rfl rfl (.load1 _ _ _ _ _ _ rfl rfl P_agg4 rfl) rfl ?_
            refine VList.go0 (n' := 5) rfl rfl (.move _ _ rfl) rfl ?_
            refine VList.go0 (n' := 6) rfl rfl (Eff.callV0 rfl (ress_cons rfl (ress_cons rfl ress_nil)) (f58 _ _ (lQ) (nQ.1)) rfl) rfl ?_
            refine VList.go0 (n' := 7) rfl rfl (.extract _ _ _ _ rfl rfl) rfl ?_
            refine VList.go0 (n' := 8) rfl rfl (.extract _ _ _ _ rfl rfl) rfl ?_
            refine VList.goS (n' := 9) rfl rfl (.store _ _ _ _ _ _ _ rfl rfl rfl rfl P_sz24 (Nat.le_of_ble_eq_true rfl) rfl) rfl ?_
            refine VList.go0 (n' := 10) rfl rfl (.assign _ _ rfl) rfl ?_
            refine VList.nil (Then.go ?_)
            exact VCode.ret (⟨trivial, [.agg [boolB (zN (sg (n) (val (Q)))), u32S (zL (sg (n) (val (Q))))], numB .i64 (zE (sg (n) (val (Q))))], (resVars_cons (resVar_cell rfl rfl P_agg24 P_sz24 (Nat.le_of_ble_eq_true rfl) rfl) (resVars_cons (resVar_tmp rfl rfl) resVars_nil)), (by rw [gR_true hc1, ← j3]; rfl)⟩)
end Go.VL

/- Walks over the Go functions, printed by a program of this session over the kit's print, and by hand. -/
set_option linter.unusedVariables false
set_option linter.unusedSimpArgs false
namespace Go.VL
open Go.Proofs
theorem f55 (A B : List Int) (hA : A.length ≤ 300000000) (hB : B.length ≤ 300000000) (nA : norm A) (nB : norm B) (h0 : 0 < val B) : VF Try.prog 55 [u32S (A), u32S (B)] (.tup [u32S (dg (val A / val B)), u32S (dg (val A % val B))]) := by
  refine VF_of P_mixed Try.func55 rfl rfl (by kernel_rfl) ?_
  refine VCode.seq ?_
  refine VCode.region ?_
  refine VList.go0 (n' := 1) rfl rfl (.assign _ _ rfl) rfl ?_
  refine VList.go0 (n' := 2) rfl rfl (.assign _ _ rfl) rfl ?_
  refine VList.nil (Then.go ?_)
  refine VCode.seq ?_
  refine VCode.seq ?_
  have vA := val_nonneg nA.1
  have hbw := blen_words nA.1
  refine VCode.region ?_
  refine VList.go0 (n' := 3) rfl rfl (.move _ _ rfl) rfl ?_
  refine VList.go0 (n' := 4) rfl rfl (Eff.lenS rfl Try.underlying22) rfl ?_
  refine VList.go0 (n' := 5) rfl rfl (.bin _ _ _ _ _ _ _ _ rfl rfl rfl) rfl ?_
  refine VList.nil (Then.go ?_)
  refine VCode.cond _ rfl (fun hc1 => ?_) (fun hc1 => ?_)
  · replace hc1 := eq_of_beq hc1
    refine VCode.seq ?_
    have h1w := one_word (B := B) (by omega)
    have hb0 := ok32_getD nB.1 0
    have hm0 := Int.emod_nonneg (val A) (show B.getD 0 0 ≠ 0 by omega)
    have hm1 := Int.emod_lt_of_pos (val A) (show 0 < B.getD 0 0 by omega)
    refine VCode.region ?_
    refine VList.go0 (n' := 6) rfl rfl (.move _ _ rfl) rfl ?_
    refine VList.go0 (n' := 7) rfl rfl (.move _ _ rfl) rfl ?_
    refine VList.go0 (n' := 8) rfl rfl (Eff.indexRdN (q := 0) rfl rfl Try.underlying22 P_sz51 (by first | omega | (simp; done) | (simp; omega))) rfl ?_
    refine VList.go0 (n' := 9) rfl rfl (.loadRd1 _ _ _ _ rfl P_agg51 rfl) rfl ?_
    refine VList.go0 (n' := 10) rfl rfl (Eff.callV0 rfl (ress_cons rfl (ress_cons rfl ress_nil)) (f61 _ _ (by first | omega | assumption | (simp; done) | (simp; omega)) (nA.1) (by omega) (by omega)) rfl) rfl ?_
    refine VList.go0 (n' := 11) rfl rfl (.move _ _ rfl) rfl ?_
    refine VList.go0 (n' := 12) rfl rfl (.extract _ _ _ _ rfl rfl) rfl ?_
    refine VList.go0 (n' := 13) rfl rfl (.extract _ _ _ _ rfl rfl) rfl ?_
    refine VList.go0 (n' := 14) rfl rfl (.assign _ _ rfl) rfl ?_
    refine VList.go0 (n' := 15) rfl rfl (.assign _ _ rfl) rfl ?_
    refine VList.nil (Then.go ?_)
    refine VCode.seq ?_
    refine VCode.region ?_
    refine VList.go0 (n' := 16) rfl rfl (.move _ _ rfl) rfl ?_
    refine VList.go0 (n' := 17) rfl rfl (.move _ _ rfl) rfl ?_
    refine VList.go1 (n' := 18) rfl rfl (Eff.lits1 rfl Try.underlying22 P_zero51 P_sz51) rfl ?_
    refine VList.goN (n' := 19) rfl rfl (.callV _ _ _ _ _ _ rfl (ress_cons (res_row rfl (by first | omega | (simp; done) | (simp; omega) | (simp [*]; done) | (simp [*]; omega))) ress_nil) (f66 _ (by simp) (ok32_cons.2 ⟨by omega, ok32_nil⟩))) rfl ?_
    refine VList.go0 (n' := 20) rfl rfl (.assign _ _ rfl) rfl ?_
    refine VList.go0 (n' := 21) rfl rfl (.assign _ _ rfl) rfl ?_
    refine VList.nil (Then.go ?_)
    exact VCode.ret (Then.ret (⟨trivial, [u32S (dg (val (A) / ((B).getD 0 0))), u32S (dg (val ([(val (A) % ((B).getD 0 0))])))], (resVars_cons (resVar_tmp rfl rfl) (resVars_cons (resVar_tmp rfl rfl) resVars_nil)), (by rw [h1w, show val [val A % B.getD 0 0] = val A % B.getD 0 0 by simp [val]]; rfl)⟩))
  · replace hc1 := ne_of_beq_false hc1
    refine VCode.skip (Then.go ?_)
    refine VCode.seq ?_
    refine VCode.region ?_
    refine VList.go0 (n' := 6) rfl rfl (.assign _ _ rfl) rfl ?_
    refine VList.nil (Then.go ?_)
    refine VCode.seq ?_
    refine VCode.region ?_
    refine VList.go0 (n' := 7) rfl rfl (.move _ _ rfl) rfl ?_
    refine VList.go0 (n' := 8) rfl rfl (Eff.lenS rfl Try.underlying22) rfl ?_
    refine VList.go1 (n' := 9) rfl rfl (Eff.makeRow rfl Try.underlying22 P_zero51 P_sz51 P_bytes51 (by first | omega | (simp; done) | (simp; omega)) (by first | omega | (simp; done) | (simp; omega))) rfl ?_
    refine VList.go0 (n' := 10) rfl rfl (.assign _ _ rfl) rfl ?_
    refine VList.nil (Then.go ?_)
    refine VCode.seq ?_
    refine VCode.seq ?_
    refine VCode.region ?_
    refine VList.go0 (n' := 11) rfl rfl (.move _ _ rfl) rfl ?_
    refine VList.go0 (n' := 12) rfl rfl (.callF _ _ _ _ _ _ rfl (ress_cons rfl ress_nil) (f78 _ (by first | omega | assumption | (simp; done) | (simp; omega)) (nA)) rfl) rfl ?_
    refine VList.go0 (n' := 13) rfl rfl (.bin _ _ _ _ _ _ _ _ rfl rfl (bop_sub_i64 (by first | omega | (simp; done) | (simp; omega)))) rfl ?_
    refine VList.go0 (n' := 14) rfl rfl (.assign _ _ rfl) rfl ?_
    refine VList.nil (Then.go ?_)
    refine VCode.block ?_
    refine VCode.loop (α := (Int) × (List Int) × (List Int)) (fun (x_ : (Int) × (List Int) × (List Int)) => match x_ with | (q, O, R) => (9, sl [(0, vS (A)), (1, vS (B)), (8, vS (R)), (9, .own 8 ((((A).length : Int)).toNat)), (10, vI .i64 (q))], en [(8, row (O))])) (fun (x_ : (Int) × (List Int) × (List Int)) => match x_ with | (q, O, R) => LongInv (val A) (val B) O R (q + 1).toNat ∧ O.length = A.length ∧ -1 ≤ q ∧ q + 1 ≤ 32 * (A.length : Int)) (fun (x_ : (Int) × (List Int) × (List Int)) => match x_ with | (q, O, R) => (q + 1).toNat) (((blen (val (A)).toNat : Nat) : Int) - 1, List.replicate (((A).length : Int)).toNat 0, []) ⟨LongInv.start vA (by rw [show (((blen (val (A)).toNat : Nat) : Int) - 1 + 1).toNat = blen (val A).toNat by omega]; exact blen_two vA) ⟨_, rfl⟩, by simp, by omega, by omega⟩ (Weak.of (show 0 ≤ 9 by decide) ⟨⟨rfl, rfl⟩, ⟨⟨rfl, rfl⟩, ⟨⟨rfl, rfl⟩, ⟨⟨rfl, rfl⟩, ⟨⟨rfl, rfl⟩, trivial⟩⟩⟩⟩⟩ ⟨⟨rfl, (show 8 < 9 by decide), row_cells⟩, trivial⟩) ?_
    rintro ⟨q, O, R⟩ hok0
    obtain ⟨hok, hO, hq1, hq2⟩ := hok0
    have lR := hok.len nB rfl h0
    have vR := val_nonneg hok.nR.1
    show VCode Try.prog 0 _ 9 (sl [(0, vS (A)), (1, vS (B)), (8, vS (R)), (9, .own 8 ((((A).length : Int)).toNat)), (10, vI .i64 (q))]) (en [(8, row (O))]) _
    refine VCode.seq ?_
    refine VCode.seq ?_
    refine VCode.region ?_
    refine VList.go0 (n' := 10) rfl rfl (.move _ _ rfl) rfl ?_
    refine VList.go0 (n' := 11) rfl rfl (.bin _ _ _ _ _ _ _ _ rfl rfl rfl) rfl ?_
    refine VList.nil (Then.go ?_)
    refine VCode.cond _ rfl (fun hc2 => ?_) (fun hc2 => ?_)
    · replace hc2 := of_decide_eq_true hc2
      refine VCode.skip (Then.go ?_)
      refine VCode.seq ?_
      refine VCode.block ?_
      refine VCode.seq ?_
      have hq3 : LongInv (val A) (val B) O R (q.toNat + 1) := by rw [show q.toNat + 1 = (q + 1).toNat by omega]; exact hok
      have hbit := Int.emod_nonneg (val A / 2 ^ q.toNat) (show (2 : Int) ≠ 0 by omega)
      have hbit1 := Int.emod_lt_of_pos (val A / 2 ^ q.toNat) (show (0 : Int) < 2 by omega)
      have hlen2 : (dg (2 * val R + (val (A) / 2 ^ (q).toNat % 2))).length ≤ 900000000 := dbl_len hok.nR.1 (by omega) (by omega) (by omega)
      refine VCode.region ?_
      refine VList.go0 (n' := 12) rfl rfl (.move _ _ rfl) rfl ?_
      refine VList.go0 (n' := 13) rfl rfl (.move _ _ rfl) rfl ?_
      refine VList.go0 (n' := 14) rfl rfl (.move _ _ rfl) rfl ?_
      refine VList.go0 (n' := 15) rfl rfl (.callF _ _ _ _ _ _ rfl (ress_cons rfl (ress_cons rfl ress_nil)) (f70 _ _ (by omega) (nA.1) (by omega) (by omega)) rfl) rfl ?_
      refine VList.go0 (n' := 16) rfl rfl (Eff.callV0 rfl (ress_cons rfl (ress_cons rfl ress_nil)) (f79 _ _ (by omega) (hok.nR.1) (by omega) (by omega)) rfl) rfl ?_
      refine VList.go0 (n' := 17) rfl rfl (.assign _ _ rfl) rfl ?_
      refine VList.nil (Then.go ?_)
      refine VCode.seq ?_
      refine VCode.region ?_
      refine VList.go0 (n' := 18) rfl rfl (.move _ _ rfl) rfl ?_
      refine VList.go0 (n' := 19) rfl rfl (.move _ _ rfl) rfl ?_
      refine VList.go0 (n' := 20) rfl rfl (.callF _ _ _ _ _ _ rfl (ress_cons rfl (ress_cons rfl ress_nil)) (f72 _ _ (hlen2) (by omega) (ok32_dg _) (nB.1) (fun h => cmp_len (norm_dg _) nB h)) rfl) rfl ?_
      refine VList.go0 (n' := 21) rfl rfl (.bin _ _ _ _ _ _ _ _ rfl rfl rfl) rfl ?_
      refine VList.nil (Then.go ?_)
      refine VCode.cond _ rfl (fun hc3 => ?_) (fun hc3 => ?_)
      · replace hc3 := of_decide_eq_true hc3
        refine VCode.seq ?_
        have hge := cmp3_ge (by assumption)
        refine VCode.region ?_
        refine VList.go0 (n' := 22) rfl rfl (.move _ _ rfl) rfl ?_
        refine VList.go0 (n' := 23) rfl rfl (.move _ _ rfl) rfl ?_
        refine VList.go0 (n' := 24) rfl rfl (Eff.callV0 rfl (ress_cons rfl (ress_cons rfl ress_nil)) (f57 _ _ (hlen2) (by first | omega | assumption | (simp; done) | (simp; omega)) (ok32_dg _) (nB.1) (norm_le_len nB (norm_dg _) hge) (hge)) rfl) rfl ?_
        refine VList.go0 (n' := 25) rfl rfl (.assign _ _ rfl) rfl ?_
        refine VList.nil (Then.go ?_)
        have hroom := word_room (k := (q / 32).toNat) (r := (q % 32).toNat) hq3.oO (by omega) (by omega) (by rw [show 32 * (q / 32).toNat + (q % 32).toNat + 1 = q.toNat + 1 by omega]; exact hq3.eO)
        have hwx := ok32_getD hq3.oO (q / 32).toNat
        have h2p := two_pow_pos (q % 32).toNat
        have h3p := two_pow_lt (r := (q % 32).toNat) (by omega)
        refine VCode.draw (by kernel_rfl) ?_
        refine VLog.go0 (n' := 26) rfl rfl (.move _ _ rfl) rfl ?_
        refine VLog.go0 (n' := 27) rfl rfl (.move _ _ rfl) rfl ?_
        refine VLog.go0 (n' := 28) rfl rfl (.bin _ _ _ _ _ _ _ _ rfl rfl (bop_quo_i64 (by first | omega | (simp; done) | (simp; omega)) (by first | omega | (simp; done) | (simp; omega)) (by first | omega | (simp; done) | (simp; omega)))) rfl ?_
        refine VLog.go0 (n' := 29) rfl rfl (.move _ _ rfl) rfl ?_
        refine VLog.go0 (n' := 30) rfl rfl (.move _ _ rfl) rfl ?_
        refine VLog.go0 (n' := 31) rfl rfl (.bin _ _ _ _ _ _ _ _ rfl rfl (bop_quo_i64 (by first | omega | (simp; done) | (simp; omega)) (by first | omega | (simp; done) | (simp; omega)) (by first | omega | (simp; done) | (simp; omega)))) rfl ?_
        refine VLog.go0 (n' := 32) rfl rfl (Eff.indexRow rfl rfl Try.underlying22 P_sz51 (by first | omega | (simp; done) | (simp; omega)) (by first | omega | (simp; done) | (simp; omega))) rfl ?_
        refine VLog.go0 (n' := 33) rfl rfl (Eff.load32 rfl rfl P_agg51 (by first | omega | (simp; done) | (simp; omega))) rfl ?_
        refine VLog.go0 (n' := 34) rfl rfl (.move _ _ rfl) rfl ?_
        refine VLog.go0 (n' := 35) rfl rfl (.bin _ _ _ _ _ _ _ _ rfl rfl (bop_rem_i64 (by first | omega | (simp; done) | (simp; omega)) (by first | omega | (simp; done) | (simp; omega)))) rfl ?_
        refine VLog.go0 (n' := 36) rfl rfl (.bin _ _ _ _ _ _ _ (.int .u32 ((1 * 2 ^ ((q % 32)).toNat))) rfl rfl (bop_shl_u32 (by omega) (by omega) (by omega))) rfl ?_
        refine VLog.go0 (n' := 37) rfl rfl (.bin _ _ _ _ _ _ _ _ rfl rfl (bop_add_u32 (by first | omega | (simp; done) | (simp; omega)))) rfl ?_
        refine VLog.go0 (n' := 38) rfl rfl (Eff.indexRow rfl rfl Try.underlying22 P_sz51 (by first | omega | (simp; done) | (simp; omega)) (by first | omega | (simp; done) | (simp; omega))) rfl ?_
        refine VLog.goS (n' := 39) rfl rfl (Eff.store32 rfl rfl rfl P_sz51 (by first | omega | (simp; done) | (simp; omega))) rfl ?_
        refine VLog.nil ⟨by kernel_rfl, InBlock.go (Then.go ?_)⟩
        refine VCode.region ?_
        refine VList.go0 (n' := 40) rfl rfl (.move _ _ rfl) rfl ?_
        refine VList.go0 (n' := 41) rfl rfl (.bin _ _ _ _ _ _ _ _ rfl rfl (bop_sub_i64 (by first | omega | (simp; done) | (simp; omega)))) rfl ?_
        refine VList.go0 (n' := 42) rfl rfl (.assign _ _ rfl) rfl ?_
        exact VList.nil (Round.go (q - 1, (O).set (((q / 32)).toNat) (((O).getD (((q / 32)).toNat) 0 + (1 * 2 ^ ((q % 32)).toNat))), dg (val (dg (2 * val (R) + (val (A) / 2 ^ (q).toNat % 2))) - val (B))) (by first | exact ⟨by rw [show (q - 1 + 1).toNat = q.toNat by omega]; exact LongInv.yes h0 hq3 (by omega) (by omega) (by omega) (norm_dg _) (by rw [val_dg (by omega), val_dg (by omega)]) (by rw [val_dg (by omega)] at hge; exact hge), by simp [hO], by omega, by omega⟩ | exact ⟨by rw [show (q - 1 + 1).toNat = q.toNat by omega]; exact LongInv.no h0 hq3 (norm_dg _) (by rw [val_dg (by omega)]) (by have h := cmp3_nge (by assumption); rwa [val_dg (by omega)] at h), hO, by omega, by omega⟩) (by first | (dsimp only; omega) | omega) (Weak.of (show 0 ≤ 9 by decide) ⟨⟨rfl, rfl⟩, ⟨⟨rfl, rfl⟩, ⟨⟨rfl, rfl⟩, ⟨⟨rfl, rfl⟩, ⟨⟨rfl, rfl⟩, trivial⟩⟩⟩⟩⟩ ⟨⟨rfl, (show 8 < 9 by decide), row_cells⟩, trivial⟩))
      · replace hc3 := of_decide_eq_false hc3
        refine VCode.skip (InBlock.go (Then.go ?_))
        refine VCode.region ?_
        refine VList.go0 (n' := 22) rfl rfl (.move _ _ rfl) rfl ?_
        refine VList.go0 (n' := 23) rfl rfl (.bin _ _ _ _ _ _ _ _ rfl rfl (bop_sub_i64 (by first | omega | (simp; done) | (simp; omega)))) rfl ?_
        refine VList.go0 (n' := 24) rfl rfl (.assign _ _ rfl) rfl ?_
        exact VList.nil (Round.go (q - 1, O, dg (2 * val (R) + (val (A) / 2 ^ (q).toNat % 2))) (by first | exact ⟨by rw [show (q - 1 + 1).toNat = q.toNat by omega]; exact LongInv.yes h0 hq3 (by omega) (by omega) (by omega) (norm_dg _) (by rw [val_dg (by omega), val_dg (by omega)]) (by rw [val_dg (by omega)] at hge; exact hge), by simp [hO], by omega, by omega⟩ | exact ⟨by rw [show (q - 1 + 1).toNat = q.toNat by omega]; exact LongInv.no h0 hq3 (norm_dg _) (by rw [val_dg (by omega)]) (by have h := cmp3_nge (by assumption); rwa [val_dg (by omega)] at h), hO, by omega, by omega⟩) (by first | (dsimp only; omega) | omega) (Weak.of (show 0 ≤ 9 by decide) ⟨⟨rfl, rfl⟩, ⟨⟨rfl, rfl⟩, ⟨⟨rfl, rfl⟩, ⟨⟨rfl, rfl⟩, ⟨⟨rfl, rfl⟩, trivial⟩⟩⟩⟩⟩ ⟨⟨rfl, (show 8 < 9 by decide), row_cells⟩, trivial⟩))
    · replace hc2 := of_decide_eq_false hc2
      refine VCode.exit (Then.exit (Round.exit (InBlock.here (Then.go ?_))))
      refine VCode.seq ?_
      have hfin : LongInv (val A) (val B) O R 0 := by rw [show (0 : Nat) = (q + 1).toNat by omega]; exact hok
      obtain ⟨f1, f2⟩ := hfin.fin
      refine VCode.region ?_
      refine VList.go0 (n' := 12) rfl rfl (.move _ _ rfl) rfl ?_
      refine VList.goN (n' := 13) rfl rfl (.callV _ _ _ _ _ _ rfl (ress_cons (res_row rfl (by first | omega | (simp; done) | (simp; omega) | (simp [*]; done) | (simp [*]; omega))) ress_nil) (f66 _ (by first | omega | assumption | (simp; done) | (simp; omega)) (hfin.oO))) rfl ?_
      refine VList.go0 (n' := 14) rfl rfl (.move _ _ rfl) rfl ?_
      refine VList.go0 (n' := 15) rfl rfl (.assign _ _ rfl) rfl ?_
      refine VList.go0 (n' := 16) rfl rfl (.assign _ _ rfl) rfl ?_
      refine VList.nil (Then.go ?_)
      exact VCode.ret (⟨trivial, [u32S (dg (val (O))), u32S (R)], (resVars_cons (resVar_tmp rfl rfl) (resVars_cons (resVar_tmp rfl rfl) resVars_nil)), (by rw [f2, f1]; rfl)⟩)
end Go.VL
