/- A small program logic over the translated Go code, plain laws, and walks over the functions: several texts in one. No condition. -/
import Derived.Lib.Bytealg
import Derived.Test.YtnabpemjcidhdaaGreatK2
/- Plain laws of rationals: what a chain of calls that keeps the first error yields. No program. -/
set_option linter.unusedVariables false
set_option linter.unusedSimpArgs false
namespace Go.VL
open Go.Proofs
def clip (z : Int) : Int := if inB z = true then z else 0
/-- A value, and the first error. -/
def mv (e z : Int) : Int := if e = 0 then clip z else 0
def me (e z : Int) : Int := if e = 0 then zE z else e
section
variable {e z x y : Int}
theorem iB_clip (z : Int) : iB (clip z) = iB z := by
  unfold clip
  split
  · rfl
  · rename_i h
    have h1 : zL z = [] := by unfold zL; rw [if_neg h]
    have h2 : zN z = false := by unfold zN; simp [Bool.eq_false_iff.2 h]
    rw [zB_zero, iB, h1, h2]
theorem in_clip (z : Int) : inB (clip z) = true := by
  unfold clip; split
  · assumption
  · exact in_zero
theorem clip_in (h : inB z = true) : clip z = z := by unfold clip; rw [if_pos h]
theorem in_mv (e z : Int) : inB (mv e z) = true := by
  unfold mv; split
  · exact in_clip z
  · exact in_zero
theorem mv_ne (h : e ≠ 0) (z : Int) : intB false [] = iB (mv e z) := by rw [mv, if_neg h, zB_zero]
theorem mv_eq (h : e = 0) (z : Int) : iB z = iB (mv e z) := by rw [mv, if_pos h, iB_clip]
theorem me_ne (h : e ≠ 0) (z : Int) : e = me e z := by rw [me, if_neg h]
theorem me_eq (h : e = 0) (z : Int) : zE z = me e z := by rw [me, if_pos h]
theorem zE_no (h : inB z = false) : zE z = 2 := by unfold zE; simp [h]
theorem me_in (h : inB z = true) : me 0 z = 0 := by rw [me, if_pos rfl]; exact zE_in.2 h
theorem me_no (h : inB z = false) : me 0 z = 2 := by rw [me, if_pos rfl]; exact zE_no h
theorem me_two (z : Int) : me 2 z = 2 := by rw [me, if_neg (by decide)]
theorem mv_in (h : inB z = true) : mv 0 z = z := by rw [mv, if_pos rfl, clip_in h]
end
/-- It is in range, as far as that is seen at once. -/
theorem inT {z : Int} (h : inB z = true := by first | with_reducible assumption | with_reducible exact in_mv _ _ | with_reducible exact (in_neg _).trans (in_mv _ _) | with_reducible exact in_zero | with_reducible exact in_one | with_reducible exact (in_neg _).trans (by with_reducible assumption) | with_reducible exact rdG_in (by with_reducible assumption) (by with_reducible assumption) | (first | decide | omega)) : inB z = true := h
def qF (ok : Bool) : Int := if ok then 0 else 2
def qN (ok : Bool) (n d : Int) : Int := if ok then rdN n d else 0
def qD (ok : Bool) (n d : Int) : Int := if ok then rdD n d else 0
/-- A result out of a numerator and a denominator that came with an error. -/
def opN (e n d : Int) : Int := if e = 0 then rdN n d else 0
def opD (e n d : Int) : Int := if e = 0 then rdD n d else 0
def addOk (p q r s : Int) : Bool := inB (p * s) && inB (r * q) && inB (p * s + r * q) && inB (q * s)
def subOk (p q r s : Int) : Bool := inB (p * s) && inB (r * q) && inB (p * s - r * q) && inB (q * s)
def mulOk (p q r s : Int) : Bool := inB (p * r) && inB (q * s)
def divOk (p q r s : Int) : Bool := inB (p * s) && inB (q * r)
def aX (p s : Int) : Int := mv 0 (p * s)
def aE1 (p s : Int) : Int := me 0 (p * s)
def aY (p q r s : Int) : Int := mv (aE1 p s) (r * q)
def aE2 (p q r s : Int) : Int := me (aE1 p s) (r * q)
def aN (p q r s : Int) : Int := mv (aE2 p q r s) (aX p s + aY p q r s)
def aE3 (p q r s : Int) : Int := me (aE2 p q r s) (aX p s + aY p q r s)
def aD (p q r s : Int) : Int := mv (aE3 p q r s) (q * s)
def aE (p q r s : Int) : Int := me (aE3 p q r s) (q * s)
def sN (p q r s : Int) : Int := mv (aE2 p q r s) (aX p s + -aY p q r s)
def sE3 (p q r s : Int) : Int := me (aE2 p q r s) (aX p s + -aY p q r s)
def sD (p q r s : Int) : Int := mv (sE3 p q r s) (q * s)
def sE (p q r s : Int) : Int := me (sE3 p q r s) (q * s)
def mN (p r : Int) : Int := mv 0 (p * r)
def mE1 (p r : Int) : Int := me 0 (p * r)
def mD (p q r s : Int) : Int := mv (mE1 p r) (q * s)
def mE (p q r s : Int) : Int := me (mE1 p r) (q * s)
section
variable {p q r s : Int}
theorem add_spec (p q r s : Int) : aE p q r s = qF (addOk p q r s) ∧ (addOk p q r s = true → aN p q r s = p * s + r * q ∧ aD p q r s = q * s) := by
  cases h1 : inB (p * s) with
  | false => simp [aE, aE3, aE2, aE1, addOk, h1, qF, me_no, me_two]
  | true =>
    cases h2 : inB (r * q) with
    | false => simp [aE, aE3, aE2, aE1, addOk, h1, h2, qF, me_in, me_no, me_two]
    | true =>
      cases h3 : inB (p * s + r * q) with
      | false => simp [aE, aE3, aE2, aE1, aX, aY, addOk, h1, h2, h3, qF, me_in, me_no, me_two, mv_in]
      | true =>
        cases h4 : inB (q * s) with
        | false => simp [aE, aE3, aE2, aE1, aX, aY, addOk, h1, h2, h3, h4, qF, me_in, me_no, me_two, mv_in]
        | true => simp [aE, aE3, aE2, aE1, aX, aY, aN, aD, addOk, h1, h2, h3, h4, qF, me_in, mv_in]
theorem sub_spec (p q r s : Int) : sE p q r s = qF (subOk p q r s) ∧ (subOk p q r s = true → sN p q r s = p * s - r * q ∧ sD p q r s = q * s) := by
  have e : p * s + -(r * q) = p * s - r * q := rfl
  cases h1 : inB (p * s) with
  | false => simp [sE, sE3, aE2, aE1, subOk, h1, qF, me_no, me_two]
  | true =>
    cases h2 : inB (r * q) with
    | false => simp [sE, sE3, aE2, aE1, subOk, h1, h2, qF, me_in, me_no, me_two]
    | true =>
      cases h3 : inB (p * s - r * q) with
      | false => simp [sE, sE3, aE2, aE1, aX, aY, subOk, h1, h2, h3, e, qF, me_in, me_no, me_two, mv_in]
      | true =>
        cases h4 : inB (q * s) with
        | false => simp [sE, sE3, aE2, aE1, aX, aY, subOk, h1, h2, h3, h4, e, qF, me_in, me_no, me_two, mv_in]
        | true => simp [sE, sE3, aE2, aE1, aX, aY, sN, sD, subOk, h1, h2, h3, h4, e, qF, me_in, mv_in]
theorem mul_spec (p q r s : Int) : mE p q r s = qF (mulOk p q r s) ∧ (mulOk p q r s = true → mN p r = p * r ∧ mD p q r s = q * s) := by
  cases h1 : inB (p * r) with
  | false => simp [mE, mE1, mulOk, h1, qF, me_no, me_two]
  | true =>
    cases h2 : inB (q * s) with
    | false => simp [mE, mE1, mulOk, h1, h2, qF, me_in, me_no, me_two]
    | true => simp [mE, mE1, mN, mD, mulOk, h1, h2, qF, me_in, mv_in]
/-- From the chain to the closed form. -/
theorem op_close {e n d n' d' : Int} {ok : Bool} (h : e = qF ok ∧ (ok = true → n = n' ∧ d = d')) : rR (opN e n d) (opD e n d) e = rR (qN ok n' d') (qD ok n' d') (qF ok) := by
  cases ok with
  | false => simp only [h.1, opN, opD, qN, qD, qF]; rfl
  | true =>
    obtain ⟨h1, h2⟩ := h.2 rfl
    simp only [h.1, opN, opD, qN, qD, qF, h1, h2]; rfl
end
theorem qF_zero {ok : Bool} (h : qF ok = 0) : ok = true := by cases ok <;> simp_all [qF]
theorem add_den {p q r s : Int} (ha : okR p q) (hb : okR r s) (h : aE p q r s = 0) : aD p q r s ≠ 0 := by
  have hs := add_spec p q r s
  rw [(hs.2 (qF_zero (hs.1 ▸ h))).2]
  exact Int.mul_ne_zero (by have := ha.1; omega) (by have := hb.1; omega)
theorem sub_den {p q r s : Int} (ha : okR p q) (hb : okR r s) (h : sE p q r s = 0) : sD p q r s ≠ 0 := by
  have hs := sub_spec p q r s
  rw [(hs.2 (qF_zero (hs.1 ▸ h))).2]
  exact Int.mul_ne_zero (by have := ha.1; omega) (by have := hb.1; omega)
theorem mul_den {p q r s : Int} (hq : q ≠ 0) (hs : s ≠ 0) (h : mE p q r s = 0) : mD p q r s ≠ 0 := by
  have h1 := mul_spec p q r s
  rw [(h1.2 (qF_zero (h1.1 ▸ h))).2]
  exact Int.mul_ne_zero hq hs
end Go.VL

/- Plain laws of rationals: comparing by integer parts. No program. -/
set_option linter.unusedVariables false
set_option linter.unusedSimpArgs false
namespace Go.VL
section
variable {n d m f a b : Int}
theorem cmp3_hi (h : b < a) : cmp3 a b = 1 := by unfold cmp3; split <;> (try split) <;> omega
theorem cmp3_lo (h : a < b) : cmp3 a b = -1 := by unfold cmp3; split <;> (try split) <;> omega
theorem cmp3_same (h : a = b) : cmp3 a b = 0 := by unfold cmp3; split <;> (try split) <;> omega
theorem cmp3_turn (a b : Int) : cmp3 b a = -cmp3 a b := by unfold cmp3; split <;> (try split) <;> (try split) <;> (try split) <;> omega
theorem cmp3_nil : cmp3 a b = 0 ↔ a = b := by unfold cmp3; split <;> (try split) <;> omega
theorem fm_range (h : 0 < d) : 0 ≤ n.fmod d ∧ n.fmod d < d := ⟨Int.fmod_nonneg_of_pos n h, Int.fmod_lt_of_pos n h⟩
theorem fm_eq (n d : Int) : n = d * n.fdiv d + n.fmod d := (Int.mul_fdiv_add_fmod n d).symm
/-- The difference of two fractions by their integer parts. -/
theorem fr_dif (n d m f : Int) : n * f - m * d = d * f * (n.fdiv d - m.fdiv f) + (n.fmod d * f - m.fmod f * d) := by
  have h1 := fm_eq n d
  have h2 := fm_eq m f
  generalize n.fdiv d = q at *
  generalize m.fdiv f = p at *
  generalize n.fmod d = r at *
  generalize m.fmod f = s at *
  subst h1; subst h2
  rw [Int.add_mul, Int.add_mul, Int.mul_sub]
  have e1 : d * q * f = d * f * q := by rw [Int.mul_assoc, Int.mul_comm q f, ← Int.mul_assoc]
  have e2 : f * p * d = d * f * p := by rw [Int.mul_comm (f * p) d, ← Int.mul_assoc]
  rw [e1, e2]; omega
theorem rem_rng (hd : 0 < d) (hf : 0 < f) : n.fmod d * f - m.fmod f * d < d * f ∧ -(d * f) < n.fmod d * f - m.fmod f * d := by
  obtain ⟨a1, a2⟩ := fm_range (n := n) hd
  obtain ⟨b1, b2⟩ := fm_range (n := m) hf
  have h1 : n.fmod d * f < d * f := Int.mul_lt_mul_of_pos_right a2 hf
  have h2 : m.fmod f * d < f * d := Int.mul_lt_mul_of_pos_right b2 hd
  have h3 : 0 ≤ n.fmod d * f := Int.mul_nonneg a1 (by omega)
  have h4 : 0 ≤ m.fmod f * d := Int.mul_nonneg b1 (by omega)
  rw [Int.mul_comm f d] at h2
  omega
theorem cmp_part (hd : 0 < d) (hf : 0 < f) (h : cmp3 (n.fdiv d) (m.fdiv f) ≠ 0) : cmp3 (n * f) (m * d) = cmp3 (n.fdiv d) (m.fdiv f) := by
  have h1 := fr_dif n d m f
  obtain ⟨h2, h3⟩ := rem_rng (n := n) (m := m) hd hf
  have hp : 0 < d * f := Int.mul_pos hd hf
  generalize n.fdiv d = q at *
  generalize m.fdiv f = p at *
  generalize hG : d * f = g at *
  have hne : q ≠ p := fun e => h (cmp3_nil.2 e)
  rcases Int.lt_or_gt_of_ne hne with hl | hl
  · have h4 : g * (q - p) ≤ g * (-1) := Int.mul_le_mul_of_nonneg_left (by omega) (by omega)
    rw [cmp3_lo hl, cmp3_lo (by omega)]
  · have h4 : g * 1 ≤ g * (q - p) := Int.mul_le_mul_of_nonneg_left (by omega) (by omega)
    rw [cmp3_hi hl, cmp3_hi (by omega)]
theorem cmp3_sub {a b c e : Int} (h : a - b = c - e) : cmp3 a b = cmp3 c e := by unfold cmp3; split <;> (try split) <;> (try split) <;> (try split) <;> omega
theorem cmp_rest (h : n.fdiv d = m.fdiv f) : cmp3 (n * f) (m * d) = cmp3 (n.fmod d * f) (m.fmod f * d) := by
  have h1 := fr_dif n d m f
  rw [h, Int.sub_self, Int.mul_zero, Int.zero_add] at h1
  exact cmp3_sub h1
/-- The invariant of the comparison by integer parts. -/
structure CmpI (C n d m f σ : Int) : Prop where
  pd : 0 < d
  pf : 0 < f
  g : σ = 1 ∨ σ = -1
  c : σ * cmp3 (n * f) (m * d) = C
  i : inB n = true ∧ inB d = true ∧ inB m = true ∧ inB f = true
theorem CmpI.part {C σ : Int} (h : CmpI C n d m f σ) (hc : cmp3 (n.fdiv d) (m.fdiv f) ≠ 0) : σ * cmp3 (n.fdiv d) (m.fdiv f) = C := by rw [← h.c, cmp_part h.pd h.pf hc]
theorem CmpI.eq {C σ : Int} (h : CmpI C n d m f σ) (hc : cmp3 (n.fdiv d) (m.fdiv f) = 0) : σ * cmp3 (n.fmod d * f) (m.fmod f * d) = C := by rw [← h.c, cmp_rest (cmp3_nil.1 hc)]
theorem CmpI.both {C σ : Int} (h : CmpI C n d m f σ) (hc : cmp3 (n.fdiv d) (m.fdiv f) = 0) (hr : n.fmod d = 0) (hs : m.fmod f = 0) : 0 = C := by
  rw [← h.eq hc, hr, hs, Int.zero_mul, Int.zero_mul, cmp3_same rfl, Int.mul_zero]
theorem CmpI.left {C σ : Int} (h : CmpI C n d m f σ) (hc : cmp3 (n.fdiv d) (m.fdiv f) = 0) (hr : n.fmod d = 0) (hs : ¬ m.fmod f = 0) : -σ = C := by
  have h1 := fm_range (n := m) h.pf
  have h2 : 0 < m.fmod f * d := Int.mul_pos (by omega) h.pd
  rw [← h.eq hc, hr, Int.zero_mul, cmp3_lo h2]; omega
theorem CmpI.right {C σ : Int} (h : CmpI C n d m f σ) (hc : cmp3 (n.fdiv d) (m.fdiv f) = 0) (hr : ¬ n.fmod d = 0) (hs : m.fmod f = 0) : σ = C := by
  have h1 := fm_range (n := n) h.pd
  have h2 : 0 < n.fmod d * f := Int.mul_pos (by omega) h.pf
  rw [← h.eq hc, hs, Int.zero_mul, cmp3_hi h2, Int.mul_one]
theorem CmpI.rng {C σ : Int} (h : CmpI C n d m f σ) (a b : Int) : -9223372036854775808 ≤ σ * cmp3 a b ∧ σ * cmp3 a b ≤ 9223372036854775807 := by
  have := cmp3_range a b
  rcases h.g with h | h <;> rw [h] <;> omega
theorem fmod_in' (hn : inB n = true) (hd : inB d = true) (h0 : 0 < d) : inB (n.fmod d) = true := by
  obtain ⟨a1, a2⟩ := fm_range (n := n) h0
  simp only [inB, decide_eq_true_eq] at hd ⊢
  omega
theorem CmpI.next {C σ : Int} (h : CmpI C n d m f σ) (hc : cmp3 (n.fdiv d) (m.fdiv f) = 0) (hr : ¬ n.fmod d = 0) (hs : ¬ m.fmod f = 0) : CmpI C d (n.fmod d) f (m.fmod f) (-σ) := by
  have h1 := fm_range (n := n) h.pd
  have h2 := fm_range (n := m) h.pf
  refine ⟨by omega, by omega, by rcases h.g with h | h <;> omega, ?_, h.i.2.1, fmod_in' h.i.1 h.i.2.1 h.pd, h.i.2.2.2, fmod_in' h.i.2.2.1 h.i.2.2.2 h.pf⟩
  have e := h.eq hc
  rw [cmp3_turn, Int.mul_comm d, Int.mul_comm f]
  rw [← e, Int.neg_mul_neg]
/-- The other way round. -/
theorem CmpI.swap {C : Int} (h : CmpI C n d m f 1) (hc : cmp3 (n.fdiv d) (m.fdiv f) = 0) (hr : ¬ n.fmod d = 0) (hs : ¬ m.fmod f = 0) : CmpI C f (m.fmod f) d (n.fmod d) 1 := by
  have h1 := h.next hc hr hs
  refine ⟨h1.pf, h1.pd, .inl rfl, ?_, h1.i.2.2.1, h1.i.2.2.2, h1.i.1, h1.i.2.1⟩
  have e := h1.c
  rw [cmp3_turn] at e
  rw [← e]; omega
theorem CmpI.start {C : Int} (hd : 0 < d) (hf : 0 < f) (h1 : inB n = true) (h2 : inB d = true) (h3 : inB m = true) (h4 : inB f = true) (hc : C = cmp3 (n * f) (m * d)) : CmpI C n d m f 1 := ⟨hd, hf, .inl rfl, by rw [hc]; omega, h1, h2, h3, h4⟩
end
/-- The sign. -/
theorem sgn_zero {p : Int} (h : p = 0) : numB .i64 (cmp3 p 0) = oneB [numB .i64 0] := by rw [cmp3_same h]; rfl
theorem sgn_neg {p : Int} (h : zN p = true) : numB .i64 (cmp3 p 0) = oneB [numB .i64 (-1)] := by rw [cmp3_lo (zN_lt h)]; rfl
theorem sgn_pos {p : Int} (hp : inB p = true) (h0 : ¬ p = 0) (h : zN p = false) : numB .i64 (cmp3 p 0) = oneB [numB .i64 1] := by rw [cmp3_hi (by have := zN_ge hp h; omega)]; rfl
/-- The integer part of a times a power of two. -/
def flZ (p q k : Int) : Int := if k ≤ 0 then shZ (p.fdiv q) k else if inB (shZ p k) = true then (shZ p k).fdiv q else shZ p k
theorem fl_low {p q k : Int} (h : k ≤ 0) : zR (flZ p q k) = oneB [iB (shZ (p.fdiv q) k), numB .i64 (zE (shZ (p.fdiv q) k))] := by rw [flZ, if_pos h]; rfl
theorem iB_out {z : Int} (h : zE z ≠ 0) : iB z = intB false [] := by
  have h1 : inB z = false := by rw [Bool.eq_false_iff]; exact fun hc => h (zE_in.2 hc)
  have h2 : zL z = [] := by unfold zL; rw [if_neg (by rw [h1]; decide)]
  have h3 : zN z = false := by unfold zN; rw [h1]; rfl
  rw [iB, h2, h3]
theorem fl_out {p q k : Int} (h : ¬ k ≤ 0) (hz : zE (shZ p k) ≠ 0) : zR (flZ p q k) = oneB [intB false [], numB .i64 (zE (shZ p k))] := by
  have h1 : ¬ inB (shZ p k) = true := fun hc => hz (zE_in.2 hc)
  rw [flZ, if_neg h, if_neg h1, ← iB_out hz]; rfl
theorem fl_in {p q k : Int} (h : ¬ k ≤ 0) (hz : zE (shZ p k) = 0) (hq : q ≠ 0) : zR (flZ p q k) = oneB [iB ((shZ p k).fdiv q), numB .i64 0] := by
  have h1 := zE_in.1 hz
  rw [flZ, if_neg h, if_pos h1, zR, zE_in.2 (fdiv_in h1 hq)]; rfl
/-- The square root. -/
def sqQo (p q : Int) : Bool := decide (0 ≤ p) && (decide (isq p * isq p = p) && decide (isq q * isq q = q))
def sqQn (p q : Int) : Int := if sqQo p q then isq p else 0
def sqQd (p q : Int) : Int := if sqQo p q then isq q else 0
def sqQe (p : Int) : Int := if 0 ≤ p then 0 else 5
abbrev sqRR (p q : Int) : B := .tup [qB (sqQn p q) (sqQd p q), boolB (sqQo p q), numB .i64 (sqQe p)]
theorem sq_neg {p q : Int} (h : ¬ 0 ≤ p) : sqRR p q = oneB [ratB false [] false [], boolB false, numB .i64 5] := by
  have h1 : sqQo p q = false := by simp [sqQo, h]
  rw [sqRR, sqQn, sqQd, h1, sqQe, if_neg h, ← qB_zero]; rfl
theorem sq_no {p q : Int} (h : 0 ≤ p) (h1 : ¬ (isq p * isq p = p ∧ isq q * isq q = q)) : sqRR p q = oneB [ratB false [] false [], boolB false, numB .i64 0] := by
  have h1 : sqQo p q = false := by simp only [sqQo, decide_eq_true h, Bool.true_and, ← Bool.decide_and]; exact decide_eq_false h1
  rw [sqRR, sqQn, sqQd, h1, sqQe, if_pos h, ← qB_zero]; rfl
theorem sq_yes {p q : Int} (h : 0 ≤ p) (h1 : isq p * isq p = p) (h2 : isq q * isq q = q) : sqRR p q = oneB [qB (isq p) (isq q), boolB true, numB .i64 0] := by
  have h1 : sqQo p q = true := by simp only [sqQo, decide_eq_true h, decide_eq_true h1, decide_eq_true h2]; rfl
  rw [sqRR, sqQn, sqQd, h1, sqQe, if_pos h]; rfl
/-- The text. -/
def txQ (p q : Int) : ByteArray := if q = 1 then txB p else txB p ++ (⟨#[47]⟩ : ByteArray) ++ txB q
theorem zero_le {p : Int} (hp : inB p = true) (h : zN p = false) : 0 ≤ p := by have := zN_ge hp h; omega
theorem in_i64 {k : Int} (h0 : -9223372036854775808 ≤ k) (h1 : k ≤ 9223372036854775807) : inB k = true := by
  have hl : (9223372036854775808 : Int) < limit := by decide +kernel
  simp only [inB, decide_eq_true_eq]; omega
end Go.VL

/- Plain laws of rationals: reading and writing texts. No program. -/
set_option linter.unusedVariables false
set_option linter.unusedSimpArgs false
namespace Go.VL
open Go.Proofs
abbrev slashB : ByteArray := ⟨#[47]⟩
abbrev noneB : ByteArray := ⟨#[]⟩
/-- The place of the first slash. -/
def ixB (s : ByteArray) : Int := Lib.indexByte s.data.toList (47 : Int).toNat.toUInt8
theorem indexByte_lt (c : UInt8) : ∀ l : List UInt8, Lib.indexByte l c < (l.length : Int) ∧ -1 ≤ Lib.indexByte l c
  | [] => by unfold Lib.indexByte; simp
  | b :: l => by
    have := indexByte_lt c l
    unfold Lib.indexByte
    simp only [List.length_cons]
    split
    · omega
    · split <;> rename_i h1 h2
      · omega
      · omega
theorem ixB_lt (s : ByteArray) : ixB s < (s.size : Int) ∧ -1 ≤ ixB s := by
  have := indexByte_lt (47 : Int).toNat.toUInt8 s.data.toList
  rwa [Array.length_toList] at this
def cuF (s : ByteArray) : Bool := decide (0 ≤ ixB s)
def cuA (s : ByteArray) : ByteArray := if 0 ≤ ixB s then s.extract 0 (ixB s).toNat else s
def cuB (s : ByteArray) : ByteArray := if 0 ≤ ixB s then s.extract (ixB s + 1).toNat s.size else noneB
abbrev cuR (s : ByteArray) : B := .tup [.lit (.string (cuA s)), .lit (.string (cuB s)), boolB (cuF s)]
theorem cu_yes {s : ByteArray} (h : ixB s ≥ 0) : cuR s = .tup [.lit (.string (s.extract 0 (ixB s).toNat)), .lit (.string (s.extract (ixB s + 1).toNat s.size)), boolB true] := by
  rw [cuR, cuA, cuB, cuF, if_pos h, if_pos h, decide_eq_true h]
theorem cu_no {s : ByteArray} (h : ¬ ixB s ≥ 0) : cuR s = .tup [.lit (.string s), .lit (.string noneB), boolB false] := by
  rw [cuR, cuA, cuB, cuF, if_neg h, if_neg h, decide_eq_false h]
theorem extract_size' (s : ByteArray) (a b : Nat) : (s.extract a b).size ≤ s.size := by
  rw [ByteArray.size_extract]; omega
theorem cu_size (s : ByteArray) : (cuA s).size ≤ s.size ∧ (cuB s).size ≤ s.size := by
  unfold cuA cuB
  split
  · exact ⟨extract_size' _ _ _, extract_size' _ _ _⟩
  · exact ⟨Nat.le_refl _, Nat.zero_le _⟩
/-- What reading an integer yields, and its error. -/
def pW (s : ByteArray) : Int := if okS s = true then clip (pZ s) else 0
def pX (s : ByteArray) : Int := prE (okS s) (pZ s)
theorem pW_in (s : ByteArray) : inB (pW s) = true := by
  unfold pW; split
  · exact in_clip _
  · exact in_zero
theorem prR_W (s : ByteArray) : prR s = .tup [iB (pW s), numB .i64 (pX s)] := by
  unfold pW pX
  cases h : okS s with
  | false => rw [pr_bad h, if_neg (by decide), zB_zero]; rfl
  | true => rw [pr_ok h, if_pos rfl, iB_clip, prE_true rfl]
def vQ (p q : Int) : Bool := decide (0 < q ∧ Int.gcd p q = 1)
def psE (s : ByteArray) : Int := if pX (cuA s) ≠ 0 then pX (cuA s) else if cuF s = false then 0 else if pX (cuB s) ≠ 0 then pX (cuB s) else if pW (cuB s) = 1 ∨ vQ (pW (cuA s)) (pW (cuB s)) = false then 3 else 0
def psP (s : ByteArray) : Int := if psE s = 0 then pW (cuA s) else 0
def psQ (s : ByteArray) : Int := if psE s = 0 then (if cuF s = true then pW (cuB s) else 1) else 0
abbrev psR (s : ByteArray) : B := rR (psP s) (psQ s) (psE s)
section
variable {s : ByteArray}
theorem ps_bad {e : Int} (h : psE s = e) (h0 : e ≠ 0) : psR s = oneB [ratB false [] false [], numB .i64 e] := by
  rw [psR, psP, psQ, h, if_neg h0, if_neg h0, ← qB_zero]; rfl
theorem ps1 (h : pX (cuA s) ≠ 0) : psE s = pX (cuA s) := by rw [psE, if_pos h]
theorem ps2 (h : pX (cuA s) = 0) (hf : cuF s = false) : psR s = oneB [qB (pW (cuA s)) 1, numB .i64 0] := by
  have h1 : psE s = 0 := by rw [psE, if_neg (by simp [h]), if_pos hf]
  rw [psR, psP, psQ, h1, if_pos rfl, if_pos rfl, if_neg (by simp [hf])]; rfl
theorem ps3 (h : pX (cuA s) = 0) (hf : cuF s = true) (h2 : pX (cuB s) ≠ 0) : psE s = pX (cuB s) := by rw [psE, if_neg (by simp [h]), if_neg (by simp [hf]), if_pos h2]
theorem ps4 (h : pX (cuA s) = 0) (hf : cuF s = true) (h2 : pX (cuB s) = 0) (h3 : pW (cuB s) = 1 ∨ vQ (pW (cuA s)) (pW (cuB s)) = false) : psE s = 3 := by
  rw [psE, if_neg (by simp [h]), if_neg (by simp [hf]), if_neg (by simp [h2]), if_pos h3]
theorem ps5 (h : pX (cuA s) = 0) (hf : cuF s = true) (h2 : pX (cuB s) = 0) (h3 : ¬ pW (cuB s) = 1) (h4 : vQ (pW (cuA s)) (pW (cuB s)) = true) : psR s = oneB [qB (pW (cuA s)) (pW (cuB s)), numB .i64 0] := by
  have h1 : psE s = 0 := by rw [psE, if_neg (by simp [h]), if_neg (by simp [hf]), if_neg (by simp [h2]), if_neg (by rintro (h | h); exact h3 h; rw [h4] at h; cases h)]
  rw [psR, psP, psQ, h1, if_pos rfl, if_pos rfl, if_pos hf]; rfl
end
theorem txQ_one {p q : Int} (h : q = 1) : B.tup [.lit (.string (txQ p q)), numB .i64 0] = oneB [.lit (.string (txB p)), numB .i64 0] := by rw [txQ, if_pos h]; rfl
theorem txQ_two {p q : Int} (h : ¬ q = 1) : B.tup [.lit (.string (txQ p q)), numB .i64 0] = oneB [.lit (.string (txB p ++ slashB ++ txB q)), numB .i64 0] := by rw [txQ, if_neg h]; rfl
theorem tx_add1 {p : Int} (hp : inB p = true) : (txB p).size + slashB.size ≤ 9223372036854775807 := by
  have := tx_size p hp
  have h1 : slashB.size = 1 := rfl
  omega
theorem tx_add2 {p q : Int} (hp : inB p = true) (hq : inB q = true) : (txB p ++ slashB).size + (txB q).size ≤ 9223372036854775807 := by
  have := tx_size p hp
  have := tx_size q hq
  have h1 : slashB.size = 1 := rfl
  rw [ByteArray.size_append]; omega
theorem bop_str_add {x y : ByteArray} (h : x.size + y.size ≤ 9223372036854775807) : bop .add (.string x) (.string y) = some (.string (x ++ y)) := by
  simp only [bop]; rw [if_pos h]
end Go.VL

/- A small program logic over the translated Go code, further part: calls that are lent entries, in a short form. -/
set_option linter.unusedVariables false
set_option linter.unusedSimpArgs false
namespace Go.VL
open Go.RowKit

section
variable {P : Program} {ops : Array Oper} {o : Oper} {r : List Oper} {n n' id : Nat} {s : Slots} {E E2 : Env} {Q : Nat → Slots → Env → Prop} {d i : Nat} {v w : V}
variable {fop : Operand} {args : Array Operand} {ts : Array TypeId} {f : FuncId} {caps vs xs : List V} {L0 : List Ent} {L1 : List (Option Ent)}
theorem upds_single (E : Env) (i : Nat) (e : Option Ent) : upds E [(i, e)] = setAt E i e := rfl
/-- A call that yields a value, and no new names. -/
theorem Gd (l nv : List Nat) {rr : B} {us : List (Nat × Option Ent)} (h : (runs ops s o.guard, o.dst, o.op, ev s fop, evs s args.toList) = (some true, some d, .call { callee := .value fop, args := args, argTypes := ts }, some (.fn f caps), some vs)) (hv : VG P f xs L0 (.b rr) L1)
    (hus : us = (List.range L0.length).map fun j => (rho l j, (tab L1 j).map (Ent.ren (nm (rho l) L0.length n))))
    (hx : Args E (rho l) L0.length nv (vs ++ caps) xs := by repeat' (first | exact Args.nil | refine Args.name _ _ _ _ rfl rfl ?_ | refine Args.val _ _ _ _ (by first | rfl | exact Rr rfl | exact Ra rfl) rfl ?_))
    (hl : Lent E (rho l) nv L0 := by refine Lent.of rfl (by decide) ?_; repeat' (first | exact trivial | refine ⟨⟨by first | exact rowK_ren' | rfl, rfl, by first | exact row_cellsK | exact cells_of rfl⟩, ?_⟩))
    (hsz : L1.length = L0.length := by rfl)
    (hlk : (List.range L0.length).all (fun j => (looks s (.call { callee := .value fop, args := args, argTypes := ts })).contains (rho l j)) = true := by rfl) (hnv : nv.all (fun i => (looks s (.call { callee := .value fop, args := args, argTypes := ts })).contains i) = true := by rfl) :
    Stp P ops o n s E (n + 1) (setAt s d (some (.b rr))) (upds E (nv.map (cool E) ++ us)) ((nv.map (cool E) ++ us).map (·.1)) := by
  simp only [Prod.mk.injEq] at h; obtain ⟨h1, h2, h3, h4, h5⟩ := h
  exact stN h1 h2 (h3 ▸ .callG _ _ _ _ _ _ _ _ _ _ _ _ _ h4 h5 hx hl hv hsz hus hlk hnv)
/-- A call that may yield names. -/
theorem Gn (q : Nat) (l nv : List Nat) {rr : V} (L2 : List (Nat × Ent)) (h : (n, runs ops s o.guard, o.dst, o.op, ev s fop, evs s args.toList) = (q, some true, some d, .call { callee := .value fop, args := args, argTypes := ts }, some (.fn f caps), some vs)) (hv : VG P f xs L0 rr L1) (hr : rr.ren (nm (rho l) L0.length q) = v)
    (h3 : VList P ops r (q + (L1.length - L0.length) + 1) (setAt s d (some v)) (en L2) Q)
    (hx : Args E (rho l) L0.length nv (vs ++ caps) xs := by repeat' (first | exact Args.nil | refine Args.name _ _ _ _ rfl rfl ?_ | refine Args.val _ _ _ _ (by first | rfl | exact Rr rfl | exact Ra rfl) rfl ?_))
    (hl : Lent E (rho l) nv L0 := by refine Lent.of rfl (by decide) ?_; repeat' (first | exact trivial | refine ⟨⟨by first | exact rowK_ren' | rfl, rfl, by first | exact row_cellsK | exact cells_of rfl⟩, ?_⟩))
    (ha : AllE (fun i e => (∃ j e0, L1[j]? = some (some e0) ∧ nm (rho l) L0.length q j = i ∧ e = e0.ren (nm (rho l) L0.length q)) ∨ (upds E (nv.map (cool E)) i = some e ∧ l.contains i = false)) L2 := by
      repeat' (first | exact trivial | refine ⟨.inr ⟨rfl, rfl⟩, ?_⟩ | refine ⟨.inl ⟨0, _, rfl, rfl, by first | exact rowK_ren.symm | rfl⟩, ?_⟩ | refine ⟨.inl ⟨1, _, rfl, rfl, by first | exact rowK_ren.symm | rfl⟩, ?_⟩ | refine ⟨.inl ⟨2, _, rfl, rfl, by first | exact rowK_ren.symm | rfl⟩, ?_⟩ | refine ⟨.inl ⟨3, _, rfl, rfl, by first | exact rowK_ren.symm | rfl⟩, ?_⟩ | refine ⟨.inl ⟨4, _, rfl, rfl, by first | exact rowK_ren.symm | rfl⟩, ?_⟩ | refine ⟨.inl ⟨5, _, rfl, rfl, by first | exact rowK_ren.symm | rfl⟩, ?_⟩ | refine ⟨.inl ⟨6, _, rfl, rfl, by first | exact rowK_ren.symm | rfl⟩, ?_⟩ | refine ⟨.inl ⟨7, _, rfl, rfl, by first | exact rowK_ren.symm | rfl⟩, ?_⟩))
    (hk : l.length = L0.length := by rfl) : VList P ops (o :: r) n s E Q := by
  simp only [Prod.mk.injEq] at h; obtain ⟨rfl, h1, h2, h4, h5, h6⟩ := h
  refine VList.goV h1 h2 (h4 ▸ .mk _ _ _ _ _ _ _ _ _ _ _ nv _ (en L2) h5 h6 hx hl hv (Nat.le_succ _) (After.of hk ha)) hr h3
/-- The end of a function that is lent entries. -/
theorem Gf {fn : Func} {k : Nat} {rv r' : V} {L1 L1' : List (Option Ent)} {A : Prop} {xs : List V} (l : List Nat) (hg : ResG P s E (rho l) L1' fn.results.toList xs) (ho : ResOf xs r') (hr : r' = rv) (hL : L1' = L1)
    (h : AllO (fun j e => E (rho l j) = some (e.ren (rho l)) ∧ ∀ v ∈ e.cells, v.all1.all (fun i => decide (i < L1'.length)) = true) 0 L1' := by repeat' (first | exact trivial | refine ⟨⟨by first | exact rowK_ren' | rfl, by first | exact row_cellsK | exact cells_of rfl⟩, ?_⟩))
    (hlen : L1'.length = l.length := by rfl) (hk : k ≤ L1'.length := by exact Nat.le_of_ble_eq_true rfl) (hlow : (List.range k).all (fun i => rho l i == i) = true := by rfl) (hn : l.Nodup := by decide) (he : A := by trivial) :
    A ∧ ∃ ρ, WeakR ρ k s E L1.length (fun _ => none) (tab L1) ∧ ∃ l, ResG P s E ρ L1 fn.results.toList l ∧ ResOf l rv := by
  subst hr; subst hL
  exact ⟨he, rho l, WeakR.fin l hlen hk hlow hn h, xs, hg, ho⟩
end
end Go.VL

/- A small program logic over the translated Go code, further part: rows and slices of structs, of any length. -/
set_option linter.unusedVariables false
set_option linter.unusedSimpArgs false
namespace Go.VL
open Go.RowKit

/-- The cells of a list of structs. -/
def cellsT {α : Type} (f : α → List B) (L : List α) : List B := L.flatMap f
def rowT {α : Type} (sz : Nat) (f : α → List B) (L : List α) : Ent := ⟨sz, (cellsT f L).map .b, true⟩
abbrev slT {α : Type} (sz : Nat) (f : α → List B) (L : List α) : B := .sl sz (cellsT f L)
section
variable {α : Type} {sz : Nat} {f : α → List B} {L D : List α}
theorem cellsT_len (hf : ∀ x, (f x).length = sz) : ∀ L : List α, (cellsT f L).length = L.length * sz
  | [] => by simp [cellsT]
  | x :: r => by
    have := cellsT_len hf r
    simp only [cellsT, List.flatMap_cons, List.length_append, List.length_cons, hf] at this ⊢
    rw [this, Nat.succ_mul]; omega
theorem cellsT_at (hf : ∀ x, (f x).length = sz) {x : α} : ∀ {L : List α} {j : Nat}, L[j]? = some x → ((cellsT f L).drop (j * sz)).take sz = f x
  | [], j, h => by simp at h
  | y :: r, 0, h => by
    simp at h; subst h
    simp only [cellsT, List.flatMap_cons, Nat.zero_mul, List.drop_zero]
    rw [List.take_append_of_le_length (by rw [hf]; exact Nat.le_refl _), List.take_of_length_le (by rw [hf]; exact Nat.le_refl _)]
  | y :: r, j + 1, h => by
    have := cellsT_at hf (L := r) (j := j) (by simpa using h)
    simp only [cellsT, List.flatMap_cons] at this ⊢
    have h1 : (f y ++ List.flatMap f r).drop ((j + 1) * sz) = (List.flatMap f r).drop (j * sz) := by
      rw [List.drop_append, List.drop_of_length_le (by rw [hf, Nat.succ_mul]; omega), List.nil_append, hf, Nat.succ_mul, Nat.add_sub_cancel]
    rw [h1]
    exact this
theorem cellsT_append : cellsT f (L ++ D) = cellsT f L ++ cellsT f D := by simp [cellsT]
theorem rowT_cells {n1 : Nat} : ∀ v ∈ (rowT sz f L).cells, v.all1.all (fun i => decide (i < n1)) = true := fun v hv => by
  simp only [rowT, List.mem_map] at hv
  obtain ⟨x, _, rfl⟩ := hv
  rfl
theorem rowT_ren {ρ : Nat → Nat} : (rowT sz f L).ren ρ = rowT sz f L := by
  simp only [rowT, Ent.ren, List.map_map]; rfl
theorem rowT_ren' {ρ : Nat → Nat} : some (rowT sz f L) = some ((rowT sz f L).ren ρ) := by rw [rowT_ren]
theorem bs_map : ∀ l : List B, bs (l.map .b) = some l
  | [] => rfl
  | x :: r => by simp [bs, bs_map r]
variable {P : Program} {ops : Array Oper} {o : Oper} {r : List Oper} {n n' id : Nat} {s s' : Slots} {E E' : Env} {Q : Nat → Slots → Env → Prop} {d i : Nat} {v w u : V} {ids : List Nat}
variable {x y z p ix : Operand} {T T' el m off k : Nat} {ik ik' : IntKind} {e : Ent} {l cs : List V} {j q : Int}
theorem res_rowT (hf : ∀ x, (f x).length = sz) (he : E i = some (rowT sz f L)) (hl : L.length = m) : res E (.own i m) = some (slT sz f L) := by
  have hb : bs (rowT sz f L).cells = some (cellsT f L) := bs_map _
  show resL E (.own i m) = _
  simp only [resL, he, hb]
  have h1 : (rowT sz f L).sz = sz := rfl
  have h2 := cellsT_len hf L
  rw [h1, ← hl, if_pos (by rw [h2]; exact Nat.le_refl _), List.take_of_length_le (by rw [h2]; exact Nat.le_refl _)]
/-- An element's address. -/
theorem IT (hu : P.underlying T = some (.slice el)) (hs : szOf P el = some sz) (h : (runs ops s o.guard, o.dst, o.op, ev s x, ev s y) = (some true, some d, .indexAddr T x y, some (.own i m), some (vI ik' j))) (h0 : 0 ≤ j := by first | omega | (simp; done) | (simp; omega)) (h1 : j < m := by first | omega | (simp; done) | (simp; omega)) :
    Stp P ops o n s E (n + 1) (setAt s d (some (.ptr i (j.toNat * sz)))) E [] := by
  simp only [Prod.mk.injEq] at h; obtain ⟨h1', h2, h3, h4, h5⟩ := h
  exact st0 h1' h2 (h3 ▸ .indexOwn _ _ _ _ _ _ _ _ _ h4 h5 hu hs h0 h1)
/-- An element is loaded. -/
theorem LT (hf : ∀ x, (f x).length = sz) (ha : aggOf P T = some true) (hs : szOf P T = some sz) {j : Nat} {x : α} (h : (runs ops s o.guard, o.dst, o.op, ev s p, E i) = (some true, some d, .load T p, some (.ptr i (j * sz)), some (rowT sz f L))) (hj : L[j]? = some x) (hl : (f x).map .b = l) :
    Stp P ops o n s E (n + 1) (setAt s d (some (.agg l))) E [] := by
  simp only [Prod.mk.injEq] at h; obtain ⟨h1, h2, h3, h4, h5⟩ := h
  subst hl
  have hlt := (List.getElem?_eq_some_iff.1 hj).1
  have hle : j * sz + sz ≤ (rowT sz f L).cells.length := by
    simp only [rowT, List.length_map, cellsT_len hf]
    rw [← Nat.succ_mul]; exact Nat.mul_le_mul_right _ hlt
  have := Eff.loadS (P := P) (id := n) T p i (j * sz) _ sz h4 h5 ha hs hle
  have e : ((rowT sz f L).cells.drop (j * sz)).take sz = (f x).map .b := by
    simp only [rowT, ← List.map_drop, ← List.map_take, cellsT_at hf hj]
  rw [e] at this
  exact st0 h1 h2 (h3 ▸ this)
theorem L1T (hf : ∀ x, (f x).length = 1) (ha : aggOf P T = some false) {j : Nat} {x : α} {b : B} (h : (runs ops s o.guard, o.dst, o.op, ev s p, E i) = (some true, some d, .load T p, some (.ptr i (j * 1)), some (rowT 1 f L))) (hj : L[j]? = some x) (hl : f x = [b]) :
    Stp P ops o n s E (n + 1) (setAt s d (some (.b b))) E [] := by
  simp only [Prod.mk.injEq] at h; obtain ⟨h1, h2, h3, h4, h5⟩ := h
  have e := cellsT_at hf hj
  rw [hl] at e
  have h0 : (rowT 1 f L).cells[j * 1]? = some (.b b) := by
    simp only [rowT, List.getElem?_map]
    have : ((cellsT f L).drop (j * 1))[0]? = some b := by
      have h2 : (((cellsT f L).drop (j * 1)).take 1)[0]? = some b := by rw [e]; rfl
      rwa [List.getElem?_take_of_lt (by decide)] at h2
    rw [List.getElem?_drop, Nat.add_zero] at this
    rw [this]; rfl
  exact st0 h1 h2 (h3 ▸ .load1 _ _ _ _ _ _ h4 h5 ha h0)
/-- A first element. -/
theorem An1 (q : Nat) {by' : Nat} {e2 : Ent} (hu : P.underlying T = some (.slice el)) (hs : szOf P el = some sz) (hb : (P.info? el).map (·.bytes) = some by') (hz : (zeroOf P el).map List.length = some sz) {x1 : α}
    (h : (runs ops s o.guard, o.dst, o.op, ev s x, ev s y, E i, e2.cells, e2.sz, n) = (some true, some d, .call { callee := .builtin .append, args := #[x, y], argTypes := #[T, T] }, some (.b .nil), some (.own i 1), some e2, (f x1).map .b, sz, q)) (hf : ∀ x, (f x).length = sz) (hm : by' ≤ 140737488355328 := by decide) :
    Stp P ops o n s E (q + 1) (setAt s d (some (.own q 1))) (setAt E q (some (rowT sz f [x1]))) [q] := by
  simp only [Prod.mk.injEq] at h; obtain ⟨h1, h2, h3, h4, h5, h6, h7, rfl, rfl⟩ := h
  have hl : e2.cells.length = e2.sz := by rw [h7, List.length_map, hf]
  have := Eff.appendNO (P := P) (id := n) (E := E) x y T el i 1 e2 by' h4 h5 h6 (by rw [hl, Nat.one_mul]; exact Nat.le_refl _) (by decide) hu hs hb hz (by rw [Nat.one_mul]; exact hm) (by decide)
  rw [Nat.one_mul, List.take_of_length_le (by rw [hl]; exact Nat.le_refl _), h7] at this
  have e : (⟨e2.sz, (f x1).map .b, true⟩ : Ent) = rowT e2.sz f [x1] := by simp [rowT, cellsT]
  rw [e] at this
  exact st1 h1 h2 (h3 ▸ this)
/-- A further element. -/
theorem Ao1 (q : Nat) {by' i2 : Nat} {e2 : Ent} (hu : P.underlying T = some (.slice el)) (hs : szOf P el = some sz) (hb : (P.info? el).map (·.bytes) = some by') (hz : (zeroOf P el).map List.length = some sz) {x1 : α}
    (h : (runs ops s o.guard, o.dst, o.op, ev s x, E i, ev s y, E i2, e2.cells, e2.sz, Nat.beq i2 i, n) = (some true, some d, .call { callee := .builtin .append, args := #[x, y], argTypes := #[T, T] }, some (.own i m), some (rowT sz f L), some (.own i2 1), some e2, (f x1).map .b, sz, false, q)) (hf : ∀ x, (f x).length = sz)
    (hl : L.length = m := by first | omega | (simp; done) | (simp; omega)) (hm : (m + 1) * by' ≤ 140737488355328 ∧ m + 1 ≤ maxLen := by first | (simp [maxLen]; done) | (simp [maxLen]; omega) | (simp only [maxLen]; omega)) :
    Stp P ops o n s E (q + 1) (setAt s d (some (.own q (m + 1)))) (setAt (setAt E i none) q (some (rowT sz f (L ++ [x1])))) [i, q] := by
  simp only [Prod.mk.injEq] at h; obtain ⟨h1, h2, h3, h4, h5, h6, h7, h8, h9, h10, rfl⟩ := h
  have hne : i2 ≠ i := fun e => by rw [e] at h10; simp at h10
  have hl2 : e2.cells.length = sz := by rw [h8, List.length_map, hf]
  have := Eff.appendOO (P := P) (id := n) x y T el i m (rowT sz f L) i2 1 e2 by' h4 h5 rfl (by simp only [rowT, List.length_map, cellsT_len hf, hl]) h6 h7 h9 (by show 1 * sz ≤ _; rw [Nat.one_mul, hl2]; exact Nat.le_refl _) hne (by decide) hu hs hb hz hm.1 hm.2
  have e : (⟨(rowT sz f L).sz, (rowT sz f L).cells ++ e2.cells.take (1 * (rowT sz f L).sz), true⟩ : Ent) = rowT sz f (L ++ [x1]) := by
    have h11 : e2.cells.take (1 * sz) = (f x1).map .b := by rw [Nat.one_mul, List.take_of_length_le (by rw [hl2]; exact Nat.le_refl _), h8]
    show (⟨sz, (cellsT f L).map .b ++ e2.cells.take (1 * sz), true⟩ : Ent) = _
    rw [h11, rowT, cellsT_append, List.map_append]
    simp [cellsT]
  rw [e] at this
  exact st2 h1 h2 (h3 ▸ this)
/-- Slices of structs by value. -/
theorem Lst (hf : ∀ x, (f x).length = sz) (hu : P.underlying T = some (.slice el)) (h : (runs ops s o.guard, o.dst, o.op, ev s x) = (some true, some d, .call { callee := .builtin .len, args := #[x], argTypes := #[T] }, some (.b (slT sz f L)))) (h0 : 0 < sz := by decide) : Stp P ops o n s E (n + 1) (setAt s d (some (vI .i64 L.length))) E [] := by
  simp only [Prod.mk.injEq] at h; exact st0 h.1 h.2.1 (h.2.2.1 ▸ .len _ _ _ _ _ h.2.2.2 hu (by simp only [V.len, cellsT_len hf, Nat.mul_div_cancel _ h0]))
theorem IxT (hf : ∀ x, (f x).length = sz) (hu : P.underlying T = some (.slice el)) (hs : szOf P el = some sz) {xx : α} {l : List B} (h : (runs ops s o.guard, o.dst, o.op, ev s x, ev s y) = (some true, some d, .indexAddr T x y, some (.b (slT sz f L)), some (vI ik' j))) (h0 : 0 ≤ j) (hj : L[j.toNat]? = some xx) (hl : f xx = l) :
    Stp P ops o n s E (n + 1) (setAt s d (some (.rd l))) E [] := by
  simp only [Prod.mk.injEq] at h; obtain ⟨h1, h2, h3, h4, h5⟩ := h
  subst hl
  have hlt := (List.getElem?_eq_some_iff.1 hj).1
  have := Eff.indexSl (P := P) (id := n) (E := E) T x y sz (cellsT f L) ik' j el h4 h5 hu hs h0 (by rw [cellsT_len hf]; exact Nat.mul_le_mul_right _ hlt)
  rw [cellsT_at hf hj] at this
  exact st0 h1 h2 (h3 ▸ this)
end
/-- Less is told, with rows of structs. -/
theorem Wt {k n1 : Nat} {s : Slots} {E : Env} {S1 : List (Nat × V)} {L1 : List (Nat × Ent)} (l : List (Nat × Nat))
    (hlow : (List.range k).all (fun i => rl l i == i) = true := by rfl) (hinj : (L1.map (·.1)).all (fun i => (L1.map (·.1)).all fun j => !(rl l i == rl l j) || i == j) = true := by rfl)
    (h1 : AllS (fun t x => s t = some (x.ren (rl l)) ∧ x.all.all (fun i => decide (i < n1)) = true) S1 := by repeat' (first | exact trivial | refine ⟨⟨rfl, rfl⟩, ?_⟩))
    (h2 : AllE (fun i e => E (rl l i) = some (e.ren (rl l)) ∧ i < n1 ∧ ∀ v ∈ e.cells, v.all1.all (fun i => decide (i < n1)) = true) L1 := by repeat' (first | exact trivial | refine ⟨⟨by first | exact rowK_ren' | exact rowT_ren' | rfl, Nat.le_of_ble_eq_true rfl, by first | exact row_cellsK | exact rowT_cells | exact cells_of rfl⟩, ?_⟩)) (hk : k ≤ n1 := by exact Nat.le_of_ble_eq_true rfl) : Weak k s E n1 (sl S1) (en L1) :=
  Weak.ofR (rl l) hk hlow hinj h1 h2
theorem gd {α : Type} {L : List α} {j : Nat} {d : α} (h : j < L.length) : L[j]? = some (L.getD j d) := by simp [List.getD_eq_getElem?_getD, h]
end Go.VL

/- Plain laws of rationals: the simplest fraction between two, by integer parts. No program. -/
set_option linter.unusedVariables false
set_option linter.unusedSimpArgs false
set_option exponentiation.threshold 5000
namespace Go.VL
/-- The cells of an integer. -/
def fZ (z : Int) : List B := [boolB (zN z), u32S (zL z)]
theorem fZ_len (z : Int) : (fZ z).length = 2 := rfl
/-- The integer parts; none: a number became too big. -/
def cfP : Nat → Int → Int → Int → Int → Option (List Int)
  | 0, _, _, _, _ => none
  | k + 1, n, d, m, f => if inB (n.fdiv d + 1) = false then none else if f = 0 ∨ (n.fdiv d + 1) * f < m then some [n.fdiv d + 1] else (cfP k f (m - n.fdiv d * f) d (n.fmod d)).map (n.fdiv d :: ·)
/-- Folding, from the last part on. -/
def cfF : Int → Int → List Int → Option (Int × Int)
  | a, b, [] => some (a, b)
  | a, b, x :: r => if inB (x * a) = false then none else if inB (x * a + b) = false then none else cfF (x * a + b) a r
def cfL (R : Option (List Int)) : Option (Int × Int) := R.bind fun L => cfF (L.getD (L.length - 1) 0) 1 (L.take (L.length - 1)).reverse
def cfQ (n d m f : Int) : Option (Int × Int) := cfL (cfP ((d + f).toNat + 1) n d m f)
def poN (R : Option (Int × Int)) : Int := match R with | some x => x.1 | none => 0
def poD (R : Option (Int × Int)) : Int := match R with | some x => x.2 | none => 0
def poE (R : Option (Int × Int)) : Int := match R with | some x => 0 | none => 2
abbrev poR (R : Option (Int × Int)) : B := rR (poN R) (poD R) (poE R)
structure PosI (R : Option (List Int)) (L : List Int) (n d m f : Int) : Prop where
  pn : 0 ≤ n
  pd : 0 < d
  pf : 0 ≤ f
  lt : n * f < m * d
  i : inB n = true ∧ inB d = true ∧ inB m = true ∧ inB f = true
  ins : ∀ z ∈ L, inB z = true
  run : ∃ k, (d + f).toNat < k ∧ R = (cfP k n d m f).map (L ++ ·)
  len : L.length ≤ 8193
  bd : ∃ a b : Nat, L.length ≤ a + b + 1 ∧ f * 2 ^ a < limit ∧ n * 2 ^ b < limit ∧ (L ≠ [] → d ≤ n)
theorem limit_pow : limit = 2 ^ 4096 := by decide +kernel
theorem inb_lt {z : Int} (h0 : 0 ≤ z) (h : inB z = true) : z < limit := by simp only [inB, decide_eq_true_eq] at h; omega
theorem inb_le {z y : Int} (h0 : 0 ≤ z) (h : z ≤ y) (hy : inB y = true) : inB z = true := by simp only [inB, decide_eq_true_eq] at hy ⊢; omega
theorem pow_bd' {x : Int} {a N : Nat} (hN : limit = 2 ^ N) (h0 : 1 ≤ x) (h : x * 2 ^ a < limit) : a < N := by
  apply Classical.byContradiction
  intro hc
  have h1 : (2 : Int) ^ N ≤ 2 ^ a := by
    have : (2 : Nat) ^ N ≤ 2 ^ a := Nat.pow_le_pow_right (by decide) (by omega)
    exact_mod_cast this
  have h2 : (2 : Int) ^ a ≤ x * 2 ^ a := by
    have h3 : (0 : Int) < 2 ^ a := Int.pow_pos (by decide)
    have := Int.mul_le_mul_of_nonneg_right h0 (Int.le_of_lt h3)
    rwa [Int.one_mul] at this
  rw [hN] at h
  omega
theorem pow_bd {x : Int} {a : Nat} (h0 : 1 ≤ x) (h : x * 2 ^ a < limit) : a < 4096 := pow_bd' limit_pow h0 h
section
variable {R : Option (List Int)} {L : List Int} {n d m f : Int}
theorem PosI.start (pn : 0 ≤ n) (pd : 0 < d) (pf : 0 ≤ f) (lt : n * f < m * d) (h1 : inB n = true) (h2 : inB d = true) (h3 : inB m = true) (h4 : inB f = true) : PosI (cfP ((d + f).toNat + 1) n d m f) [] n d m f := by
  refine ⟨pn, pd, pf, lt, ⟨h1, h2, h3, h4⟩, (fun z hz => by cases hz), ⟨(d + f).toNat + 1, Nat.lt_succ_self _, ?_⟩, Nat.zero_le _, 0, 0, Nat.zero_le _, by rw [Int.pow_zero, Int.mul_one]; exact inb_lt pf h4, by rw [Int.pow_zero, Int.mul_one]; exact inb_lt pn h1, fun h => absurd rfl h⟩
  generalize cfP ((d + f).toNat + 1) n d m f = X
  cases X <;> rfl
theorem PosI.q0 (h : PosI R L n d m f) : 0 ≤ n.fdiv d := Int.fdiv_nonneg h.pn (Int.le_of_lt h.pd)
theorem PosI.qf (h : PosI R L n d m f) : 0 ≤ n.fdiv d * f ∧ n.fdiv d * f < m := by
  refine ⟨Int.mul_nonneg h.q0 h.pf, ?_⟩
  have h1 := fm_eq n d
  have h2 := (fm_range (n := n) h.pd).1
  have h3 := h.lt
  generalize n.fdiv d = q at *
  generalize n.fmod d = r at *
  subst h1
  rw [Int.add_mul] at h3
  have h4 : 0 ≤ r * f := Int.mul_nonneg h2 h.pf
  have h5 : q * f * d < m * d := by
    have e : d * q * f = q * f * d := by rw [Int.mul_assoc, Int.mul_comm d]
    omega
  exact Int.lt_of_mul_lt_mul_right h5 (Int.le_of_lt h.pd)
theorem PosI.none' (h : PosI R L n d m f) (h1 : zE (n.fdiv d + 1) ≠ 0) : R = none := by
  obtain ⟨k, hk, rfl⟩ := h.run
  have : inB (n.fdiv d + 1) = false := by rw [Bool.eq_false_iff]; exact fun hc => h1 (zE_in.2 hc)
  cases k with
  | zero => omega
  | succ k => rw [cfP, if_pos this]; rfl
theorem PosI.done (h : PosI R L n d m f) (h1 : zE (n.fdiv d + 1) = 0) (h2 : f = 0 ∨ (n.fdiv d + 1) * f < m) : R = some (L ++ [n.fdiv d + 1]) := by
  obtain ⟨k, hk, rfl⟩ := h.run
  have : ¬ inB (n.fdiv d + 1) = false := by rw [zE_in.1 h1]; decide
  cases k with
  | zero => omega
  | succ k => rw [cfP, if_neg this, if_pos h2]; rfl
theorem PosI.short (h : PosI R L n d m f) (h2 : ¬ f = 0) : L.length ≤ 8192 := by
  obtain ⟨a, b, h3, h4, h5, h6⟩ := h.bd
  have := h.pf
  have ha := pow_bd (by omega) h4
  by_cases hL : L = []
  · subst hL; simp
  · have := h.pd
    have := h6 hL
    have hb := pow_bd (by omega) h5
    omega
theorem PosI.next (h : PosI R L n d m f) (h1 : zE (n.fdiv d + 1) = 0) (h2 : ¬ f = 0) (h3 : ¬ (n.fdiv d + 1) * f < m) : PosI R (L ++ [n.fdiv d]) f (m - n.fdiv d * f) d (n.fmod d) := by
  obtain ⟨q1, q2⟩ := h.qf
  have q0 := h.q0
  have hf := h.pf
  have hd := h.pd
  obtain ⟨r0, r1⟩ := fm_range (n := n) hd
  have hs : m - n.fdiv d * f ≤ f := by
    rw [Int.add_mul, Int.one_mul] at h3; omega
  have iq : inB (n.fdiv d) = true := fdiv_in h.i.1 (by omega)
  refine ⟨hf, by omega, r0, ?_, ⟨h.i.2.2.2, inb_le (by omega) hs h.i.2.2.2, h.i.2.1, inb_le r0 (Int.le_of_lt r1) h.i.2.1⟩, fun z hz => ?_, ?_, ?_, ?_⟩
  · have e1 := fm_eq n d
    have e2 := h.lt
    generalize n.fdiv d = q at *
    generalize n.fmod d = r at *
    subst e1
    rw [Int.mul_sub, Int.add_mul] at *
    have a1 : d * q * f = d * (q * f) := Int.mul_assoc _ _ _
    have a2 : f * r = r * f := Int.mul_comm _ _
    have a3 : m * d = d * m := Int.mul_comm _ _
    omega
  · rcases List.mem_append.1 hz with hz | hz
    · exact h.ins z hz
    · simp at hz; rw [hz]; exact iq
  · obtain ⟨k, hk, hR⟩ := h.run
    have hno : ¬ inB (n.fdiv d + 1) = false := by rw [zE_in.1 h1]; decide
    cases k with
    | zero => omega
    | succ k =>
      refine ⟨k, by omega, ?_⟩
      have hn2 : ¬ (f = 0 ∨ (n.fdiv d + 1) * f < m) := by rintro (h | h); exact h2 h; exact h3 h
      rw [hR, cfP, if_neg hno, if_neg hn2]
      generalize cfP k f (m - n.fdiv d * f) d (n.fmod d) = X
      cases X with
      | none => rfl
      | some x => simp
  · have := h.short h2
    rw [List.length_append, List.length_singleton]; omega
  · obtain ⟨a, b, b1, b2, b3, b4⟩ := h.bd
    by_cases hL : L = []
    · subst hL
      refine ⟨0, 0, Nat.le_refl _, ?_, ?_, fun _ => by omega⟩
      · rw [Int.pow_zero, Int.mul_one]; have := inb_lt (by omega) h.i.2.1; omega
      · rw [Int.pow_zero, Int.mul_one]; exact inb_lt hf h.i.2.2.2
    · have hdn := b4 hL
      refine ⟨b + 1, a, by rw [List.length_append, List.length_singleton]; omega, ?_, b2, fun _ => by omega⟩
      have hp : (0 : Int) < 2 ^ b := Int.pow_pos (by decide)
      have hn2 : n.fmod d * 2 ≤ n := by
        have e1 := fm_eq n d
        have hq : 1 ≤ n.fdiv d := by
          apply Classical.byContradiction
          intro hc
          have : n.fdiv d = 0 := by omega
          rw [this, Int.mul_zero] at e1; omega
        have h9 : d * 1 ≤ d * n.fdiv d := Int.mul_le_mul_of_nonneg_left hq (by omega)
        omega
      have h10 := Int.mul_le_mul_of_nonneg_right hn2 (Int.le_of_lt hp)
      rw [Int.pow_succ, Int.mul_comm (2 ^ b), ← Int.mul_assoc]
      omega
theorem PosI.mu (h : PosI R L n d m f) (h3 : ¬ (n.fdiv d + 1) * f < m) : (m - n.fdiv d * f + n.fmod d).toNat < (d + f).toNat := by
  obtain ⟨q1, q2⟩ := h.qf
  obtain ⟨r0, r1⟩ := fm_range (n := n) h.pd
  rw [Int.add_mul, Int.one_mul] at h3
  omega
theorem PosI.more (h : PosI R L n d m f) : inB (n.fdiv d * f) = true ∧ inB (m - n.fdiv d * f) = true := by
  obtain ⟨q1, q2⟩ := h.qf
  exact ⟨inb_le q1 (Int.le_of_lt q2) h.i.2.2.1, inb_le (by omega) (by omega) h.i.2.2.1⟩
/-- The fold. -/
structure FoldI (R : Option (Int × Int)) (L : List Int) (k : Nat) (a b : Int) : Prop where
  run : cfF a b (L.take k).reverse = R
  le : k ≤ L.length
  i : inB a = true ∧ inB b = true
theorem take_rev {L : List Int} {k : Nat} (h : k < L.length) : (L.take (k + 1)).reverse = L.getD k 0 :: (L.take k).reverse := by
  rw [List.take_succ_eq_append_getElem h, List.reverse_append]; simp [List.getD_eq_getElem?_getD, h]
end
section
variable {R : Option (Int × Int)} {L : List Int} {k : Nat} {a b : Int}
theorem FoldI.no1 (h : FoldI R L (k + 1) a b) (h1 : zE (L.getD k 0 * a) ≠ 0) : R = none := by
  rw [← h.run, take_rev h.le, cfF, if_pos (by rw [Bool.eq_false_iff]; exact fun hc => h1 (zE_in.2 hc))]
theorem FoldI.no2 (h : FoldI R L (k + 1) a b) (h1 : zE (L.getD k 0 * a) = 0) (h2 : zE (L.getD k 0 * a + b) ≠ 0) : R = none := by
  rw [← h.run, take_rev h.le, cfF, if_neg (by rw [zE_in.1 h1]; decide), if_pos (by rw [Bool.eq_false_iff]; exact fun hc => h2 (zE_in.2 hc))]
theorem FoldI.next (h : FoldI R L (k + 1) a b) (h1 : zE (L.getD k 0 * a) = 0) (h2 : zE (L.getD k 0 * a + b) = 0) : FoldI R L k (L.getD k 0 * a + b) a := by
  refine ⟨?_, Nat.le_of_succ_le h.le, zE_in.1 h2, h.i.1⟩
  rw [← h.run, take_rev h.le, cfF, if_neg (by rw [zE_in.1 h1]; decide), if_neg (by rw [zE_in.1 h2]; decide)]
theorem FoldI.fin (h : FoldI R L 0 a b) : R = some (a, b) := by rw [← h.run]; rfl
theorem FoldI.start {R' : Option (List Int)} (hR : R' = some L) (hL : 0 < L.length) (hi : ∀ z ∈ L, inB z = true) : FoldI (cfL R') L (L.length - 1) (L.getD (L.length - 1) 0) 1 := by
  refine ⟨by rw [hR]; rfl, by omega, hi _ ?_, in_one⟩
  rw [List.getD_eq_getElem?_getD, List.getElem?_eq_getElem (by omega)]
  exact List.getElem_mem _
end
theorem getD_in {L : List Int} (hi : ∀ z ∈ L, inB z = true) (k : Nat) : inB (L.getD k 0) = true := by
  rw [List.getD_eq_getElem?_getD]
  by_cases h : k < L.length
  · rw [List.getElem?_eq_getElem h]; exact hi _ (List.getElem_mem _)
  · rw [List.getElem?_eq_none (by omega)]; exact in_zero
theorem po_none {R : Option (Int × Int)} {e : Int} (h : R = none) (he : e ≠ 0) (h2 : e = 0 ∨ e = 2) : poR R = oneB [ratB false [] false [], numB .i64 e] := by
  have : e = 2 := by omega
  subst h; subst this
  rw [poR, poN, poD, poE, ← qB_zero]; rfl
theorem po_some {R : Option (Int × Int)} {a b : Int} (h : R = some (a, b)) : poR R = oneB [qB a b, numB .i64 0] := by
  subst h; rfl
theorem zE_or (z : Int) : zE z = 0 ∨ zE z = 2 := by unfold zE; split <;> simp
theorem one_in {z : Int} (h : inB z = true) : ∀ x ∈ [z], inB x = true := fun x hx => by simp at hx; rw [hx]; exact h
theorem app_in {L : List Int} {z : Int} (hL : ∀ x ∈ L, inB x = true) (h : inB z = true) : ∀ x ∈ L ++ [z], inB x = true := fun x hx => by
  rcases List.mem_append.1 hx with hx | hx
  · exact hL x hx
  · exact one_in h x hx
section
variable {R : Option (Int × Int)} {R' : Option (List Int)} {L : List Int} {i a b : Int} {mm : Nat}
theorem fold0 (hR : R' = some L) (hm : L.length = mm) (m0 : 0 < mm) (hi : ∀ z ∈ L, inB z = true) : FoldI (cfL R') L (((mm : Nat) : Int) - 2 + 1).toNat (L.getD (((mm : Nat) : Int) - 1).toNat 0) 1 := by
  have h := FoldI.start hR (by omega) hi
  rw [show (((mm : Nat) : Int) - 2 + 1).toNat = L.length - 1 by omega, show (((mm : Nat) : Int) - 1).toNat = L.length - 1 by omega]
  exact h
theorem foldi (h0 : 0 ≤ i) (h : FoldI R L (i + 1).toNat a b) : FoldI R L (i.toNat + 1) a b := by rwa [show (i + 1).toNat = i.toNat + 1 by omega] at h
theorem foldn (h : FoldI R L i.toNat a b) : FoldI R L (i - 1 + 1).toNat a b := by rwa [show i - 1 + 1 = i by omega]
theorem foldz (h0 : i + 1 ≤ 0) (h : FoldI R L (i + 1).toNat a b) : R = some (a, b) := by
  rw [show (i + 1).toNat = 0 by omega] at h; exact h.fin
end
/-- The simplest fraction between two. -/
def siQ (p q r s : Int) : Option (Int × Int) := if p < 0 ∧ 0 < r then some (0, 1) else if p < 0 then (cfQ (-r) s (-p) q).map fun x => (-x.1, x.2) else cfQ p q r s
def siR (p q r s : Int) : B := if p * s < r * q then poR (siQ p q r s) else rR 0 0 1
section
variable {p q r s : Int}
theorem cmp3_ge0 {a b : Int} : ¬ cmp3 a b < 0 ↔ b ≤ a := by rw [cmp3_lt]; omega
theorem si_no (h : cmp3 (p * s) (r * q) ≥ 0) : siR p q r s = oneB [ratB false [] false [], numB .i64 1] := by
  have h1 : ¬ p * s < r * q := by have := cmp3_le'.1 h; omega
  rw [siR, if_neg h1, rR, qB_zero]; rfl
theorem si_lt (h : ¬ cmp3 (p * s) (r * q) ≥ 0) : p * s < r * q := by have := mt cmp3_le'.2 h; omega
theorem si_mid (h : p * s < r * q) (h1 : cmp3 p 0 < 0) (h2 : cmp3 r 0 > 0) : siR p q r s = oneB [qB (mkN 0 1) (mkD 0 1), numB .i64 (mkE 1)] := by
  rw [siR, if_pos h, siQ, if_pos ⟨cmp3_lt.1 h1, cmp3_gt.1 h2⟩]
  have e1 : mkN 0 1 = 0 := by decide
  have e2 : mkD 0 1 = 1 := by decide
  rw [e1, e2]; rfl
theorem si_neg1 (h : p * s < r * q) (h1 : cmp3 p 0 < 0) (h2 : ¬ cmp3 r 0 > 0) (he : poE (cfQ (-r) s (-p) q) ≠ 0) : siR p q r s = oneB [ratB false [] false [], numB .i64 (poE (cfQ (-r) s (-p) q))] := by
  rw [siR, if_pos h, siQ, if_neg (fun hc => h2 (cmp3_gt.2 hc.2)), if_pos (cmp3_lt.1 h1)]
  revert he
  generalize cfQ (-r) s (-p) q = R
  intro he
  cases R with
  | none => rw [← qB_zero]; rfl
  | some x => exact absurd rfl he
theorem si_neg2 (h : p * s < r * q) (h1 : cmp3 p 0 < 0) (h2 : ¬ cmp3 r 0 > 0) (he : poE (cfQ (-r) s (-p) q) = 0) : siR p q r s = oneB [qB (-poN (cfQ (-r) s (-p) q)) (poD (cfQ (-r) s (-p) q)), numB .i64 0] := by
  rw [siR, if_pos h, siQ, if_neg (fun hc => h2 (cmp3_gt.2 hc.2)), if_pos (cmp3_lt.1 h1)]
  revert he
  generalize cfQ (-r) s (-p) q = R
  intro he
  cases R with
  | none => exact absurd he (by decide)
  | some x => rfl
theorem si_pos (h : p * s < r * q) (h1 : ¬ cmp3 p 0 < 0) : siR p q r s = oneB [qB (poN (cfQ p q r s)) (poD (cfQ p q r s)), numB .i64 (poE (cfQ p q r s))] := by
  have h2 : ¬ p < 0 := fun hc => h1 (cmp3_lt.2 hc)
  rw [siR, if_pos h, siQ, if_neg (fun hc => h2 hc.1), if_neg h2]; rfl
theorem turn_lt (h : p * s < r * q) : -r * q < -p * s := by rw [Int.neg_mul, Int.neg_mul]; omega
end
theorem and_yes {a b : Prop} [Decidable a] [Decidable b] [Decidable (a ∧ b)] (h : a) : boolB (decide (a ∧ b)) = oneB [boolB (decide b)] := by
  show _ = boolB (decide b)
  congr 3; apply propext; exact ⟨fun hc => hc.2, fun hc => ⟨h, hc⟩⟩
theorem and_no {a b : Prop} [Decidable (a ∧ b)] (h : ¬ a) : boolB (decide (a ∧ b)) = oneB [boolB false] := by
  rw [decide_eq_false (fun hc => h hc.1)]; rfl
end Go.VL

/- Plain laws of rationals: numerators and denominators as rational numbers. No program. -/
set_option linter.unusedVariables false
set_option linter.unusedSimpArgs false
set_option exponentiation.threshold 5000
namespace Go.VL
def nu (x : Rat) : Int := x.num
def de (x : Rat) : Int := (x.den : Int)
abbrev qR (x : Rat) : B := qB (nu x) (de x)
/-- Numerator and denominator have at most k bits. -/
def bdZ (k : Nat) (z : Int) : Prop := z.natAbs < 2 ^ k
def bdR (k : Nat) (x : Rat) : Prop := bdZ k (nu x) ∧ bdZ k (de x)
section
variable {x y : Rat} {p q r s z w a b : Int} {j k : Nat}
theorem de_pos (x : Rat) : 0 < de x := by have := x.den_nz; unfold de; omega
theorem nd_cop (x : Rat) : Int.gcd (nu x) (de x) = 1 := by
  have := x.reduced
  unfold nu de Int.gcd
  rw [Int.natAbs_natCast]
  exact this
theorem bdZ_in (h : bdZ k z) (hk : k ≤ 4096 := by decide) : inB z = true := by
  have h1 : (2 : Nat) ^ k ≤ 2 ^ 4096 := Nat.pow_le_pow_right (by decide) hk
  have h2 : limit = ((2 ^ 4096 : Nat) : Int) := by rw [limit_pow]; norm_cast
  unfold bdZ at h
  simp only [inB, decide_eq_true_eq, h2]
  omega
theorem bdZ_mono (h : bdZ j z) (hk : j ≤ k) : bdZ k z := Nat.lt_of_lt_of_le h (Nat.pow_le_pow_right (by decide) hk)
theorem bdZ_mul (h1 : bdZ j z) (h2 : bdZ k w) : bdZ (j + k) (z * w) := by
  unfold bdZ at *
  rw [Int.natAbs_mul, Nat.pow_add]
  exact Nat.mul_lt_mul'' h1 h2
theorem bdZ_add (h1 : bdZ k z) (h2 : bdZ k w) : bdZ (k + 1) (z + w) := by
  unfold bdZ at *
  rw [Nat.pow_succ]
  have := Int.natAbs_add_le z w
  omega
theorem bdZ_neg (h : bdZ k z) : bdZ k (-z) := by unfold bdZ at *; rwa [Int.natAbs_neg]
theorem bdZ_sub (h1 : bdZ k z) (h2 : bdZ k w) : bdZ (k + 1) (z - w) := by rw [Int.sub_eq_add_neg]; exact bdZ_add h1 (bdZ_neg h2)
theorem okR_x (h : bdR k x) (hk : k ≤ 4096 := by decide) : okR (nu x) (de x) := ⟨de_pos x, nd_cop x, bdZ_in h.1 hk, bdZ_in h.2 hk⟩
theorem okR_of (h1 : inB (nu x) = true) (h2 : inB (de x) = true) : okR (nu x) (de x) := ⟨de_pos x, nd_cop x, h1, h2⟩
/-- A valid number as a rational number. -/
theorem as_rat (h : okR p q) : ∃ x : Rat, p = nu x ∧ q = de x := by
  obtain ⟨h1, h2, _, _⟩ := h
  refine ⟨⟨p, q.toNat, by omega, ?_⟩, rfl, by unfold de; simp only; omega⟩
  unfold Int.gcd at h2
  have : q.natAbs = q.toNat := by omega
  rw [this] at h2
  exact h2
theorem rat_nd (x : Rat) : Rat.divInt (nu x) (de x) = x := Rat.num_divInt_den x
theorem nd_ext (h1 : nu x = nu y) (h2 : de x = de y) : x = y := Rat.ext h1 (by unfold de at h2; omega)
theorem same_x : decide (nu x = nu y ∧ de x = de y) = decide (x = y) := by
  congr 1; apply propext; exact ⟨fun h => nd_ext h.1 h.2, fun h => by subst h; exact ⟨rfl, rfl⟩⟩
/-- Reducing. -/
theorem rd_num (hb : b ≠ 0) : rdN a b = nu (Rat.divInt a b) := by
  unfold rdN rdS rdG nu
  rw [Rat.num_divInt, Int.gcd_comm b a]
  have hg : (0 : Int) ≤ ((Int.gcd a b : Nat) : Int) := by omega
  rw [Int.fdiv_eq_ediv_of_nonneg _ hg]
  split
  · rw [Int.sign_eq_neg_one_of_neg (by assumption), Int.neg_mul, Int.one_mul]
  · rw [Int.sign_eq_one_of_pos (by omega), Int.one_mul]
theorem rd_den (hb : b ≠ 0) : rdD a b = de (Rat.divInt a b) := by
  unfold rdD rdS rdG de
  rw [Rat.den_divInt, if_neg hb, Int.gcd_comm b a]
  have hg : (0 : Int) ≤ ((Int.gcd a b : Nat) : Int) := by omega
  rw [Int.fdiv_eq_ediv_of_nonneg _ hg, Int.natCast_ediv]
  congr 1
  split <;> omega
theorem rd_bd (h : bdZ k a) : bdZ k (rdN a b) := by
  unfold rdN
  have hg : (0 : Int) ≤ rdG a b := by unfold rdG; omega
  rw [Int.fdiv_eq_ediv_of_nonneg _ hg]
  have h1 : bdZ k (rdS a b) := by unfold rdS; split; exact bdZ_neg h; exact h
  unfold bdZ at *
  exact Nat.lt_of_le_of_lt (Int.natAbs_ediv_le_natAbs _ _) h1
theorem rdD_bd (h : bdZ k b) : bdZ k (rdD a b) := by
  unfold rdD
  have hg : (0 : Int) ≤ rdG a b := by unfold rdG; omega
  rw [Int.fdiv_eq_ediv_of_nonneg _ hg]
  have h1 : bdZ k (rdS b b) := by unfold rdS; split; exact bdZ_neg h; exact h
  unfold bdZ at *
  exact Nat.lt_of_le_of_lt (Int.natAbs_ediv_le_natAbs _ _) h1
theorem ds (x y : Rat) : de x * de y ≠ 0 := Int.mul_ne_zero (Int.ne_of_gt (de_pos x)) (Int.ne_of_gt (de_pos y))
theorem dz (x : Rat) : de x ≠ 0 := Int.ne_of_gt (de_pos x)
theorem add_rat (x y : Rat) : Rat.divInt (nu x * de y + nu y * de x) (de x * de y) = x + y := by
  rw [← Rat.divInt_add_divInt _ _ (dz x) (dz y), rat_nd, rat_nd]
theorem sub_rat (x y : Rat) : Rat.divInt (nu x * de y - nu y * de x) (de x * de y) = x - y := by
  rw [← Rat.divInt_sub_divInt _ _ (dz x) (dz y), rat_nd, rat_nd]
theorem mul_rat (x y : Rat) : Rat.divInt (nu x * nu y) (de x * de y) = x * y := by
  rw [← Rat.divInt_mul_divInt, rat_nd, rat_nd]
theorem div_rat (x y : Rat) : Rat.divInt (nu x * de y) (de x * nu y) = x / y := by
  rw [← Rat.divInt_mul_divInt, rat_nd, ← Rat.inv_divInt, rat_nd, Rat.div_def]
theorem bd_of (h1 : bdZ k p) (h2 : bdZ k q) (h0 : q ≠ 0) : bdR k (Rat.divInt p q) := ⟨by rw [← rd_num h0]; exact rd_bd h1, by rw [← rd_den h0]; exact rdD_bd h2⟩
theorem bdR_add (hx : bdR j x) (hy : bdR k y) : bdR (j + k + 1) (x + y) := by
  rw [← add_rat]
  refine bd_of (bdZ_add (bdZ_mul hx.1 hy.2) ?_) (bdZ_mono (bdZ_mul hx.2 hy.2) (by omega)) (ds x y)
  rw [Nat.add_comm]; exact bdZ_mul hy.1 hx.2
theorem bdR_sub (hx : bdR j x) (hy : bdR k y) : bdR (j + k + 1) (x - y) := by
  rw [← sub_rat]
  refine bd_of (bdZ_sub (bdZ_mul hx.1 hy.2) ?_) (bdZ_mono (bdZ_mul hx.2 hy.2) (by omega)) (ds x y)
  rw [Nat.add_comm]; exact bdZ_mul hy.1 hx.2
theorem bdR_mul (hx : bdR j x) (hy : bdR k y) : bdR (j + k) (x * y) := by
  rw [← mul_rat]
  exact bd_of (bdZ_mul hx.1 hy.1) (bdZ_mul hx.2 hy.2) (ds x y)
theorem nu_zero : nu x = 0 ↔ x = 0 := Rat.num_eq_zero
theorem bdR_div (hx : bdR j x) (hy : bdR k y) (h0 : y ≠ 0) : bdR (j + k) (x / y) := by
  rw [← div_rat]
  exact bd_of (bdZ_mul hx.1 hy.2) (bdZ_mul hx.2 hy.1) (Int.mul_ne_zero (dz x) (fun h => h0 (nu_zero.1 h)))
theorem addOk_bd (hx : bdR j x) (hy : bdR k y) (h : j + k + 1 ≤ 4096) : addOk (nu x) (de x) (nu y) (de y) = true := by
  have h1 := bdZ_mul hx.1 hy.2
  have h2 := bdZ_mul hy.1 hx.2
  rw [Nat.add_comm] at h2
  simp only [addOk, Bool.and_eq_true]
  exact ⟨⟨⟨bdZ_in h1 (by omega), bdZ_in h2 (by omega)⟩, bdZ_in (bdZ_add h1 h2) h⟩, bdZ_in (bdZ_mul hx.2 hy.2) (by omega)⟩
theorem subOk_bd (hx : bdR j x) (hy : bdR k y) (h : j + k + 1 ≤ 4096) : subOk (nu x) (de x) (nu y) (de y) = true := by
  have h1 := bdZ_mul hx.1 hy.2
  have h2 := bdZ_mul hy.1 hx.2
  rw [Nat.add_comm] at h2
  simp only [subOk, Bool.and_eq_true]
  exact ⟨⟨⟨bdZ_in h1 (by omega), bdZ_in h2 (by omega)⟩, bdZ_in (bdZ_sub h1 h2) h⟩, bdZ_in (bdZ_mul hx.2 hy.2) (by omega)⟩
theorem mulOk_bd (hx : bdR j x) (hy : bdR k y) (h : j + k ≤ 4096) : mulOk (nu x) (de x) (nu y) (de y) = true := by
  simp only [mulOk, Bool.and_eq_true]
  exact ⟨bdZ_in (bdZ_mul hx.1 hy.1) h, bdZ_in (bdZ_mul hx.2 hy.2) h⟩
theorem divOk_bd (hx : bdR j x) (hy : bdR k y) (h : j + k ≤ 4096) : mulOk (nu x) (de x) (de y) (nu y) = true := by
  simp only [mulOk, Bool.and_eq_true]
  exact ⟨bdZ_in (bdZ_mul hx.1 hy.2) h, bdZ_in (bdZ_mul hx.2 hy.1) h⟩
/-- The order. -/
def cmpR (x y : Rat) : Int := if x < y then -1 else if x = y then 0 else 1
theorem cmp_rat (x y : Rat) : cmp3 (nu x * de y) (nu y * de x) = cmpR x y := by
  unfold cmp3 cmpR
  have h1 : nu x * de y < nu y * de x ↔ x < y := (Rat.lt_iff x y).symm
  have h2 : nu x * de y = nu y * de x ↔ x = y := by
    rw [← Rat.divInt_eq_divInt_iff (dz x) (dz y), rat_nd, rat_nd]
  simp only [h1, h2]
theorem len_bd (k : Nat) (hi : inB z = true) (h : (zL z).length ≤ k) : bdZ (32 * k) z := by
  have h1 := zOf_z hi
  have h2 := val_lt (ok32_zL z)
  have h3 := val_nonneg (ok32_zL z)
  have h4 : val (zL z) = (z.natAbs : Int) := by
    unfold zL; rw [if_pos hi]; exact val_dg (by omega)
  have h5 : (4294967296 : Int) ^ (zL z).length ≤ 4294967296 ^ k := pow_mono h
  unfold bdZ
  have h6 : ((2 ^ (32 * k) : Nat) : Int) = 4294967296 ^ k := by
    rw [Nat.pow_mul, Int.natCast_pow, show ((2 ^ 32 : Nat) : Int) = 4294967296 from rfl]
  omega
end
/-- Three numbers are valid, and short. -/
def shQ (A D : List Int) (k : Int) : Bool := decide ((A.length : Int) ≤ k ∧ (D.length : Int) ≤ k)
def v3 (n : Bool) (A : List Int) (m : Bool) (D : List Int) (n2 : Bool) (A2 : List Int) (m2 : Bool) (D2 : List Int) (n3 : Bool) (A3 : List Int) (m3 : Bool) (D3 : List Int) (k : Int) : Bool :=
  shQ A D k && (shQ A2 D2 k && (shQ A3 D3 k && (vR n A m D && (vR n2 A2 m2 D2 && vR n3 A3 m3 D3))))
theorem v_rat {n : Bool} {A : List Int} {m : Bool} {D : List Int} (k : Nat) (oA : ok32 A) (oD : ok32 D) (h : vR n A m D = true) (hs : shQ A D k = true) : ∃ x : Rat, (n = zN (nu x) ∧ A = zL (nu x) ∧ m = zN (de x) ∧ D = zL (de x)) ∧ bdR (32 * k) x := by
  obtain ⟨p, q, e1, e2, e3, e4, ok⟩ := as_q oA oD h
  obtain ⟨x, rfl, rfl⟩ := as_rat ok
  simp only [shQ, decide_eq_true_eq] at hs
  refine ⟨x, ⟨e1, e2, e3, e4⟩, len_bd k ok.2.2.1 ?_, len_bd k ok.2.2.2 ?_⟩
  · rw [← e2]; omega
  · rw [← e4]; omega
theorem v3_get {n : Bool} {A : List Int} {m : Bool} {D : List Int} {n2 : Bool} {A2 : List Int} {m2 : Bool} {D2 : List Int} {n3 : Bool} {A3 : List Int} {m3 : Bool} {D3 : List Int} {k : Int} (h : v3 n A m D n2 A2 m2 D2 n3 A3 m3 D3 k = true) :
    (vR n A m D = true ∧ shQ A D k = true) ∧ (vR n2 A2 m2 D2 = true ∧ shQ A2 D2 k = true) ∧ vR n3 A3 m3 D3 = true ∧ shQ A3 D3 k = true := by
  simp only [v3, Bool.and_eq_true] at h
  exact ⟨⟨h.2.2.2.1, h.1⟩, ⟨h.2.2.2.2.1, h.2.1⟩, h.2.2.2.2.2, h.2.2.1⟩
section
variable {n : Bool} {A : List Int} {m : Bool} {D : List Int} {n2 : Bool} {A2 : List Int} {m2 : Bool} {D2 : List Int} {n3 : Bool} {A3 : List Int} {m3 : Bool} {D3 : List Int} {k : Int}
theorem v3_a (h : shQ A D k = false) : boolB (v3 n A m D n2 A2 m2 D2 n3 A3 m3 D3 k) = oneB [boolB false] := by rw [v3, h]; rfl
theorem v3_b (h : shQ A D k = true) (h2 : shQ A2 D2 k = false) : boolB (v3 n A m D n2 A2 m2 D2 n3 A3 m3 D3 k) = oneB [boolB false] := by rw [v3, h, h2]; rfl
theorem v3_c (h : shQ A D k = true) (h2 : shQ A2 D2 k = true) (h3 : shQ A3 D3 k = false) : boolB (v3 n A m D n2 A2 m2 D2 n3 A3 m3 D3 k) = oneB [boolB false] := by rw [v3, h, h2, h3]; rfl
theorem v3_d (h : shQ A D k = true) (h2 : shQ A2 D2 k = true) (h3 : shQ A3 D3 k = true) (h4 : vR n A m D = true) (h5 : vR n2 A2 m2 D2 = true) : boolB (v3 n A m D n2 A2 m2 D2 n3 A3 m3 D3 k) = oneB [boolB (vR n3 A3 m3 D3)] := by rw [v3, h, h2, h3, h4, h5]; rfl
theorem v3_e (h4 : vR n A m D = true) (h5 : vR n2 A2 m2 D2 = false) : boolB (v3 n A m D n2 A2 m2 D2 n3 A3 m3 D3 k) = oneB [boolB false] := by
  rw [v3, h4, h5]; simp [oneB]
theorem v3_f (h4 : vR n A m D = false) : boolB (v3 n A m D n2 A2 m2 D2 n3 A3 m3 D3 k) = oneB [boolB false] := by
  rw [v3, h4]; simp [oneB]
end
end Go.VL

/- Plain laws for the document's own functions: trimming, sum. No program here. -/
set_option linter.unusedVariables false
set_option linter.unusedSimpArgs false
namespace Go.VL

theorem val_trim {X : List Int} {q : Nat} (hq : q + 1 = X.length) (hz : X.getD q 0 = 0) : val (X.take q) = val X := by
  have h := val_take_step X q
  rw [hz, List.take_of_length_le (show X.length ≤ q + 1 by omega)] at h
  omega
theorem trim_done {L X : List Int} {q : Nat} (oX : ok32 X) (hv : val X = val L) (h : X.length = 0 ∨ (q + 1 = X.length ∧ X.getD q 0 ≠ 0)) : dg (val L) = X := by
  rw [← hv]
  refine dg_val ⟨oX, ?_⟩
  rcases h with h | ⟨h1, h2⟩
  · exact .inl h
  · refine .inr ?_
    rw [show X.length - 1 = q by omega]; exact h2
structure PlusInv (X Y O : List Int) (n : Nat) (c : Int) : Prop where
  le : n ≤ O.length
  lx : X.length < O.length
  ly : Y.length < O.length
  ok : ok32 (O.take n)
  c0 : 0 ≤ c
  c1 : c ≤ 1
  eq : val (O.take n) + 4294967296 ^ n * c = val (X.take n) + val (Y.take n)
theorem PlusInv.start {X Y O : List Int} (h1 : X.length < O.length) (h2 : Y.length < O.length) : PlusInv X Y O 0 0 := ⟨Nat.zero_le _, h1, h2, by simpa using ok32_nil, by omega, by omega, by simp [val]⟩
theorem PlusInv.step {X Y O : List Int} {n : Nat} {c t : Int} (hX : ok32 X) (hY : ok32 Y) (h : PlusInv X Y O n c) (hn : n < O.length) (ht : t = c + X.getD n 0 + Y.getD n 0) : PlusInv X Y (O.set n (t % 4294967296)) (n + 1) (t / 4294967296) := by
  have hx := ok32_getD hX n
  have hy := ok32_getD hY n
  have h0 := h.c0
  have h1 := h.c1
  refine ⟨by rw [List.length_set]; exact hn, by simpa using h.lx, by simpa using h.ly, ok32_take_set hn h.ok (by omega), by omega, by omega, ?_⟩
  rw [val_take_set _ _ _ hn, val_take_step X n, val_take_step Y n, Int.pow_succ]
  have e := h.eq
  generalize (4294967296 : Int) ^ n = p at e ⊢
  have e1 : p * t = p * (t % 4294967296) + p * 4294967296 * (t / 4294967296) := by
    rw [Int.mul_assoc, ← Int.mul_add]; congr 1; omega
  have e2 : p * t = p * c + p * X.getD n 0 + p * Y.getD n 0 := by rw [ht, Int.mul_add, Int.mul_add]
  omega
theorem PlusInv.fin {X Y O : List Int} {n : Nat} {c : Int} (hX : ok32 X) (hY : ok32 Y) (h : PlusInv X Y O n c) (hn : O.length ≤ n) : val O = val X + val Y ∧ ok32 O := by
  have h0 := h.c0
  have h1 := h.c1
  have e := h.eq
  have ok := h.ok
  have lx := h.lx
  have ly := h.ly
  have hn' : n = O.length := Nat.le_antisymm h.le hn
  subst hn'
  rw [List.take_of_length_le (Nat.le_refl _), List.take_of_length_le (by omega), List.take_of_length_le (by omega)] at e
  rw [List.take_of_length_le (Nat.le_refl _)] at ok
  have hv := val_nonneg ok
  have hx := val_lt hX
  have hy := val_lt hY
  obtain ⟨m, hm⟩ : ∃ m, O.length = m + 1 := ⟨O.length - 1, by omega⟩
  have hx2 := pow_mono (show X.length ≤ m by omega)
  have hy2 := pow_mono (show Y.length ≤ m by omega)
  rw [hm, Int.pow_succ] at e
  have hp := pow_pos m
  generalize (4294967296 : Int) ^ m = p at *
  have hc : c = 0 := by
    apply Classical.byContradiction
    intro hc
    have : c = 1 := by omega
    subst this
    omega
  subst hc
  exact ⟨by omega, ok⟩
theorem DiffInv.step2 {X Y O : List Int} {n : Nat} {w s x : Int} {b : Int} (hX : ok32 X) (hY : ok32 Y) (h : DiffInv X Y O n w) (hn : n < X.length) (hs : s = w + Y.getD n 0) (hx : X.getD n 0 < s ∧ x = (X.getD n 0 + 4294967296 - s) % 4294967296 ∧ b = 1 ∨ ¬ X.getD n 0 < s ∧ x = (X.getD n 0 - s) % 4294967296 ∧ b = 0) :
    DiffInv X Y (O.set n x) (n + 1) b := by
  have hx1 := ok32_getD hX n
  have hy := ok32_getD hY n
  have h0 := h.c0
  have h1 := h.c1
  have k := h.step hX hY hn (t := (X.getD n 0 - w - Y.getD n 0) % 18446744073709551616) rfl
  have e1 : (X.getD n 0 - w - Y.getD n 0) % 18446744073709551616 % 4294967296 = x := by rcases hx with ⟨a, e, _⟩ | ⟨a, e, _⟩ <;> omega
  have e2 : (X.getD n 0 - w - Y.getD n 0) % 18446744073709551616 / 9223372036854775808 = b := by rcases hx with ⟨a, _, e⟩ | ⟨a, _, e⟩ <;> omega
  rw [e1, e2] at k
  exact k
end Go.VL

/- Walks over the Go functions, printed by a program of this session over the kit's print, and by hand. -/
set_option linter.unusedVariables false
set_option linter.unusedSimpArgs false
namespace Go.VL
open Go.Proofs
theorem f66 (L : List Int) (hL : L.length ≤ 1000000000) (oL : ok32 L) : VF Tryz.prog 84 [u32S (L)] (u32S (dg (val L))) := by
  refine VF_of P_mixed Tryz.func84 rfl rfl (by kernel_rfl) <| Sq <| Rg <| Vs (As rfl) <| Nx <| Sq <| Bk <| VCode.loop (α := (List Int)) (fun X => (0, sl [(0, vS (X))], en [])) (fun X => (ok32 X ∧ X.length ≤ L.length) ∧ val X = val L) (fun X => X.length) (L) ⟨⟨oL, Nat.le_refl _⟩, rfl⟩ Wk ?_
  intro X hok
  obtain ⟨⟨oX, lX⟩, vX⟩ := hok
  change VCode _ _ _ 0 (sl _) (en _) _
  refine Sq <| Sq <| Rg <| Vs (Mv rfl) <| Vs (Ls TK22 rfl) <| Vs (Bi rfl) <| Vs (Mv rfl) <| Sp 6 rfl (fun hc1 => ?_) (fun hc1 => ?_)
  · replace hc1 := of_decide_eq_true hc1
    refine Vs (Mv rfl) <| Vs (Mv rfl) <| Vs (Ls TK22 rfl) <| Vs (Bo rfl suI) <| Vs (Ix TK22 rfl) <| Vs (Lq TA64 rfl) <| Vs (Bi rfl) <| Vs (Pk rfl) <| Nx <| Cd rfl (fun hc2 => ?_) (fun hc2 => ?_)
    · replace hc2 := eq_of_beq hc2
      exact Ks <| Tg <| Bk <| Rg <| Vs (Mv rfl) <| Vs (Mv rfl) <| Vs (Ls TK22 rfl) <| Vs (Bo rfl suI) <| Vs (Ct TK22 rfl) <| Vs (As rfl) <| VList.nil <| Ig <| Go ((X).take ((((X).length : Int) - 1)).toNat) ⟨⟨ok32_take oX _, by simp; omega⟩, (val_trim (q := (((X).length : Int) - 1).toNat) (by omega) (by omega)).trans vX⟩ Wk (by show (List.take _ X).length < X.length; rw [List.length_take]; omega)
    · replace hc2 := ne_of_beq_false hc2
      exact Ke <| Te <| Oe <| Ih <| Tg <| Sq <| Rg <| Vs (Mv rfl) <| Vs (As rfl) <| Nx <| Re <| Fi (l := [u32S (X)]) (Rc (resVar_tmp rfl rfl) Rn) (by rw [trim_done (q := (((X).length : Int) - 1).toNat) oX vX (by first | (left; omega) | (right; exact ⟨by omega, by omega⟩))]; rfl)
  · replace hc1 := of_decide_eq_false hc1
    exact Sk rfl <| Sk rfl <| Sk rfl <| Sk rfl <| Sk rfl <| Sk rfl <| Sk rfl <| Vs (Pk rfl) <| Nx <| Cz rfl <| Ke <| Te <| Oe <| Ih <| Tg <| Sq <| Rg <| Vs (Mv rfl) <| Vs (As rfl) <| Nx <| Re <| Fi (l := [u32S (X)]) (Rc (resVar_tmp rfl rfl) Rn) (by rw [trim_done (q := (((X).length : Int) - 1).toNat) oX vX (by first | (left; omega) | (right; exact ⟨by omega, by omega⟩))]; rfl)
theorem f58 (neg : Bool) (L : List Int) (hL : L.length ≤ 1000000000) (oL : ok32 L) : VF Tryz.prog 57 [boolB (neg), u32S (L)] (zR (sg neg (val L))) := by
  refine VF_of P_mixed Tryz.func57 rfl rfl (by kernel_rfl) <| Sq <| Rg <| Vs (Al 0 TZ24 rfl) <| Vs (As rfl) <| Nx <| Sq <| Rg <| Vs (Mv rfl) <| Vs (C0 rfl rfl (f66 _ (by first | omega | assumption | (simp; done) | (simp; omega)) (oL))) <| Vs (As rfl) <| Nx <| Sq <| Sq <| ?_
  have hv := val_nonneg oL
  refine Rg <| Vs (Mv rfl) <| Vs (Ls TK22 rfl) <| Vs (Bi rfl) <| Nx <| Cd rfl (fun hc1 => ?_) (fun hc1 => ?_)
  · replace hc1 := of_decide_eq_true hc1
    exact Sq <| Rg <| Vs (Bd TQ24 rfl) <| Vs (StS TS24 rfl) <| Vs (As rfl) <| Nx <| Re <| Tr <| Fi (l := [.agg [boolB (false), u32S ([])], numB .i64 (2)]) (Rc (resVar_cell rfl rfl TA24 TS24 (Nat.le_of_ble_eq_true rfl) rfl) (Rc (resVar_tmp rfl rfl) Rn)) (by obtain ⟨r1, r2, r3⟩ := res_big (neg := neg) hv hc1; rw [zR, r1, r2, r3]; rfl)
  · replace hc1 := of_decide_eq_false hc1
    refine Ks <| Tg <| Sq <| Rg <| Vs (Mv rfl) <| Vs (Mv rfl) <| Sp 13 rfl (fun hc2 => ?_) (fun hc2 => ?_)
    · (try simp at hc2)
      exact Vs (Mv rfl) <| Vs (Ls TK22 rfl) <| Vs (Bi rfl) <| Vs (Pk rfl) <| Vs (L0s 14 TK22 rfl) <| Vs (Mv rfl) <| Vs (Ap0 16 TK22 rfl rfl) <| Vs (Bd TQ24 rfl) <| Vs (StS TS24 rfl) <| Vs (As rfl) <| Nx <| Re <| Fi (l := [.agg [boolB (decide (((dg (val (L))).length : Int) > 0)), u32S (dg (val (L)))], numB .i64 (0)]) (Rc (resVar_cell rfl rfl TA24 TS24 (Nat.le_of_ble_eq_true rfl) (Ra rfl (hl := (by simp)))) (Rc (resVar_tmp rfl rfl) Rn)) (by obtain ⟨r1, r2, r3⟩ := res_small (neg := neg) hv hc1; rw [zR, r1, r2, r3, hc2, Bool.true_and]; rfl)
    · (try simp at hc2)
      exact Sk rfl <| Sk rfl <| Sk rfl <| Vs (Pk rfl) <| Vs (L0s 14 TK22 rfl) <| Vs (Mv rfl) <| Vs (Ap0 16 TK22 rfl rfl) <| Vs (Bd TQ24 rfl) <| Vs (StS TS24 rfl) <| Vs (As rfl) <| Nx <| Re <| Fi (l := [.agg [boolB (false), u32S (dg (val (L)))], numB .i64 (0)]) (Rc (resVar_cell rfl rfl TA24 TS24 (Nat.le_of_ble_eq_true rfl) (Ra rfl (hl := (by simp)))) (Rc (resVar_tmp rfl rfl) Rn)) (by obtain ⟨r1, r2, r3⟩ := res_small (neg := neg) hv hc1; rw [zR, r1, r2, r3, hc2, Bool.false_and]; rfl)
theorem f72 (A B : List Int) (hA : A.length ≤ 900000000) (hB : B.length ≤ 900000000) (oA : ok32 A) (oB : ok32 B) (hn : A.length ≠ B.length → cmp3 (val A) (val B) = if A.length < B.length then -1 else 1) : VF Tryz.prog 81 [u32S (A), u32S (B)] (numB .i64 (cmp3 (val A) (val B))) := by
  refine VF_of P_mixed Tryz.func81 rfl rfl (by kernel_rfl) <| Sq <| Rg <| Vs (As rfl) <| Nx <| Sq <| Sq <| Rg <| Vs (Mv rfl) <| Vs (Ls TK22 rfl) <| Vs (Mv rfl) <| Vs (Ls TK22 rfl) <| Vs (Bi rfl) <| Nx <| Cd rfl (fun hc1 => ?_) (fun hc1 => ?_)
  · replace hc1 := bne_iff_ne.1 hc1
    refine Sq <| Sq <| Rg <| Vs (Mv rfl) <| Vs (Ls TK22 rfl) <| Vs (Mv rfl) <| Vs (Ls TK22 rfl) <| Vs (Bi rfl) <| Nx <| Cd rfl (fun hc2 => ?_) (fun hc2 => ?_)
    · replace hc2 := of_decide_eq_true hc2
      exact Sq <| Rg <| Vs (As rfl) <| Nx <| Re <| Tr <| Tr <| Fi (l := [numB .i64 ((-1))]) (Rc (resVar_tmp rfl rfl) Rn) (by rw [hn (by omega), if_pos (by omega)]; rfl)
    · replace hc2 := of_decide_eq_false hc2
      exact Ks <| Tg <| Sq <| Rg <| Vs (As rfl) <| Nx <| Re <| Tr <| Fi (l := [numB .i64 (1)]) (Rc (resVar_tmp rfl rfl) Rn) (by rw [hn (by omega), if_neg (by omega)]; rfl)
  · replace hc1 := bne_eq_false_iff_eq.1 hc1
    refine Ks <| Tg <| Sq <| Sq <| Rg <| Vs (Mv rfl) <| Vs (Ls TK22 rfl) <| Vs (Bo rfl suI) <| Vs (As rfl) <| Nx <| Bk <| VCode.loop (α := (Int)) (fun q => (0, sl [(0, vS (A)), (1, vS (B)), (5, vI .i64 (q))], en [])) (fun q => CmpInv A B ((A.length : Int) - 1 - q).toNat ∧ -1 ≤ q ∧ q < A.length) (fun q => (q + 1).toNat) (((A).length : Int) - 1) ⟨by rw [show ((A.length : Int) - 1 - (((A).length : Int) - 1)).toNat = 0 by omega]; exact CmpInv.start (by omega), by omega, by omega⟩ Wk ?_
    intro q hok
    obtain ⟨hC, hq1, hq2⟩ := hok
    have hlen := hC.len
    change VCode _ _ _ 0 (sl _) (en _) _
    refine Sq <| Sq <| Rg <| Vs (Mv rfl) <| Vs (Bi rfl) <| Nx <| Cd rfl (fun hc3 => ?_) (fun hc3 => ?_)
    · replace hc3 := of_decide_eq_true hc3
      refine Ks <| Tg <| Sq <| Bk <| Sq <| Sq <| Rd (by kernel_rfl) <| Vl (Mv rfl) <| Vl (Mv rfl) <| Vl (Ix TK22 rfl) <| Vl (Lq TA64 rfl) <| Vl (Mv rfl) <| Vl (Mv rfl) <| Vl (Ix TK22 rfl) <| Vl (Lq TA64 rfl) <| Vl (Bi rfl) <| ?_
      refine VLog.nil ⟨by kernel_rfl, ?_⟩
      refine Tg <| Cd rfl (fun hc4 => ?_) (fun hc4 => ?_)
      · replace hc4 := of_decide_eq_true hc4
        exact Sq <| Rg <| Vs (As rfl) <| Nx <| Re <| Tr <| Iq <| Tr <| Or <| Iq <| Tr <| Fi (l := [numB .i64 ((-1))]) (Rc (resVar_tmp rfl rfl) Rn) (by rw [hC.diff (q := q.toNat) oA oB (by omega) (by omega), if_pos (by omega)]; rfl)
      · replace hc4 := of_decide_eq_false hc4
        refine Ks <| Tg <| Sq <| Rd (by kernel_rfl) <| Vl (Mv rfl) <| Vl (Mv rfl) <| Vl (Ix TK22 rfl) <| Vl (Lq TA64 rfl) <| Vl (Mv rfl) <| Vl (Mv rfl) <| Vl (Ix TK22 rfl) <| Vl (Lq TA64 rfl) <| Vl (Bi rfl) <| ?_
        refine VLog.nil ⟨by kernel_rfl, ?_⟩
        refine Tg <| Cd rfl (fun hc5 => ?_) (fun hc5 => ?_)
        · replace hc5 := of_decide_eq_true hc5
          exact Sq <| Rg <| Vs (As rfl) <| Nx <| Re <| Iq <| Tr <| Or <| Iq <| Tr <| Fi (l := [numB .i64 (1)]) (Rc (resVar_tmp rfl rfl) Rn) (by rw [hC.diff (q := q.toNat) oA oB (by omega) (by omega), if_neg (by omega)]; rfl)
        · replace hc5 := of_decide_eq_false hc5
          exact Ks <| Ig <| Tg <| Rg <| Vs (Mv rfl) <| Vs (Bo rfl suI) <| Vs (As rfl) <| VList.nil <| Go (q - 1) ⟨by rw [show ((A.length : Int) - 1 - (q - 1)).toNat = ((A.length : Int) - 1 - q).toNat + 1 by omega]; exact hC.step (q := q.toNat) (by omega) (by omega), by omega, by omega⟩ Wk
    · replace hc3 := of_decide_eq_false hc3
      exact Ke <| Te <| Oe <| Ih <| Tg <| Sq <| Rg <| Vs (As rfl) <| Nx <| Re <| Fi (l := [numB .i64 (0)]) (Rc (resVar_tmp rfl rfl) Rn) (by rw [hC.fin (by omega)]; rfl)
theorem f56 (A B : List Int) (hA : A.length ≤ 900000000) (hB : B.length ≤ 900000000) (oA : ok32 A) (oB : ok32 B) : VF Tryz.prog 80 [u32S (A), u32S (B)] (u32S (dg (val A + val B))) := by
  refine VF_of P_mixed Tryz.func80 rfl rfl (by kernel_rfl) <| Sq <| Rg <| Vs (As rfl) <| Nx <| Sq <| ?_
  have hM : ((A).length : Int) ≤ (if ((B).length : Int) > ((A).length : Int) then ((B).length : Int) else ((A).length : Int)) ∧ ((B).length : Int) ≤ (if ((B).length : Int) > ((A).length : Int) then ((B).length : Int) else ((A).length : Int)) ∧ (if ((B).length : Int) > ((A).length : Int) then ((B).length : Int) else ((A).length : Int)) ≤ 900000000 := by split <;> omega
  refine Rg <| Vs (Mv rfl) <| Vs (Ls TK22 rfl) <| Vs (Mv rfl) <| Vs (Ls TK22 rfl) <| Vs (Mx rfl) <| Vs (Bo rfl adI) <| Vs (Mk 7 TK22 rfl) <| Vs (As rfl) <| Nx <| Sq <| Rg <| Vs (As rfl) <| Nx <| Sq <| Sq <| Rg <| Vs (As rfl) <| Nx <| Bk <| VCode.loop (α := (Nat) × (Int) × (List Int) × (Nat)) (fun x_ => match x_ with | (n, c, O, m) => (91, sl [(0, vS (A)), (1, vS (B)), (5, .own 90 (m)), (6, vI .u64 (c)), (7, vI .i64 ((n : Int)))], en [(90, rowK .u32 (O))])) (fun x_ => match x_ with | (n, c, O, m) => PlusInv A B O n c ∧ O.length = m ∧ m ≤ 900000001) (fun x_ => match x_ with | (n, c, O, m) => m - n) (0, 0, List.replicate ((if ((B).length : Int) > ((A).length : Int) then ((B).length : Int) else ((A).length : Int)) + 1).toNat 0, ((if ((B).length : Int) > ((A).length : Int) then ((B).length : Int) else ((A).length : Int)) + 1).toNat) ⟨PlusInv.start (by simp; omega) (by simp; omega), by simp, by omega⟩ (Wr [(90, 7)]) ?_
  rintro ⟨n, c, O, m⟩ hok0
  obtain ⟨hok, hm, hm9⟩ := hok0
  change VCode _ _ _ 91 (sl _) (en _) _
  refine Sq <| Sq <| Rg <| Vs (Mv rfl) <| Vs (Mv rfl) <| Vs (Lo TU22 rfl) <| Vs (Bi rfl) <| Nx <| Cd rfl (fun hc1 => ?_) (fun hc1 => ?_)
  · replace hc1 := of_decide_eq_true hc1
    refine Ks <| Tg <| Sq <| Bk <| Sq <| ?_
    have hx := ok32_getD oA n
    have hy := ok32_getD oB n
    have h0 := hok.c0
    have h1 := hok.c1
    refine Rg <| Vs (Mv rfl) <| Vs (As rfl) <| Nx <| VCode.join (α := (Int)) (fun s => (91, sl [(0, vS (A)), (1, vS (B)), (5, .own 90 (m)), (7, vI .i64 ((n : Int))), (8, vI .u64 (s))], en [(90, rowK .u32 (O))])) (fun s => s = c + A.getD n 0) ?_ ?_
    · skip
      refine Sq <| Rg <| Vs (Mv rfl) <| Vs (Mv rfl) <| Vs (Ls TK22 rfl) <| Vs (Bi rfl) <| Nx <| Cd rfl (fun hc2 => ?_) (fun hc2 => ?_)
      · replace hc2 := of_decide_eq_true hc2
        exact Rg <| Vs (Mv rfl) <| Vs (Mv rfl) <| Vs (Mv rfl) <| Vs (IxN TK22 rfl) <| Vs (Lq TA64 rfl) <| Vs (Cv TU64 TU65 rfl wrW) <| Vs (Bo rfl adW) <| Vs (As rfl) <| VList.nil <| Jg ((c + (A).getD (n) 0)) rfl Wk
      · replace hc2 := of_decide_eq_false hc2
        exact Ks <| Jg (c) (by rw [getD_out (L := A) (by omega)]; omega) Wk
    · intro s hs
      change VCode _ _ _ 91 (sl _) (en _) _
      refine VCode.join (α := (Int)) (fun t => (91, sl [(0, vS (A)), (1, vS (B)), (5, .own 90 (m)), (7, vI .i64 ((n : Int))), (8, vI .u64 (t))], en [(90, rowK .u32 (O))])) (fun t => t = c + A.getD n 0 + B.getD n 0) ?_ ?_
      · skip
        refine Sq <| Rg <| Vs (Mv rfl) <| Vs (Mv rfl) <| Vs (Ls TK22 rfl) <| Vs (Bi rfl) <| Nx <| Cd rfl (fun hc3 => ?_) (fun hc3 => ?_)
        · replace hc3 := of_decide_eq_true hc3
          exact Rg <| Vs (Mv rfl) <| Vs (Mv rfl) <| Vs (Mv rfl) <| Vs (IxN TK22 rfl) <| Vs (Lq TA64 rfl) <| Vs (Cv TU64 TU65 rfl wrW) <| Vs (Bo rfl adW) <| Vs (As rfl) <| VList.nil <| Jg ((s + (B).getD (n) 0)) (by omega) Wk
        · replace hc3 := of_decide_eq_false hc3
          exact Ks <| Jg (s) (by rw [getD_out (L := B) (by omega)]; omega) Wk
      · intro t ht
        change VCode _ _ _ 91 (sl _) (en _) _
        exact Sq <| Rg <| Vs (Mv rfl) <| Vs (Mv rfl) <| Vs (Mv rfl) <| Vs (Cv TU65 TU64 rfl (wrapM_u32 _)) <| Vs (IrN TK22 rfl) <| Vs (SrK TS64 rfl) <| Nx <| Rg <| Vs (Mv rfl) <| Vs (Bo rfl quW) <| Vs (As rfl) <| VList.nil <| Ig <| Tg <| Rg <| Vs (Mv rfl) <| Vs (Bo rfl adI) <| Vs (As rfl) <| VList.nil <| Go (n + 1, t / 4294967296, (O).set ((n)) (((t) % 4294967296)), m) ⟨hok.step oA oB (by omega) (by omega), by simp [hm], hm9⟩ Wk
  · replace hc1 := of_decide_eq_false hc1
    refine Ke <| Te <| Oe <| Ih <| Tg <| Sq <| ?_
    obtain ⟨e1, e2⟩ := hok.fin oA oB (by omega)
    have hle := hok.le
    exact Rg <| Vs (Mv rfl) <| Vs (Cc rfl (Rk (Rr rfl) Rz) (f66 _ (by first | omega | assumption | (simp; done) | (simp; omega)) (e2))) <| Vs (As rfl) <| Nx <| Re <| Fi (l := [u32S (dg (val (O)))]) (Rc (resVar_tmp rfl rfl) Rn) (by rw [e1]; rfl)
theorem f57 (A B : List Int) (hA : A.length ≤ 900000000) (hB : B.length ≤ 900000000) (oA : ok32 A) (oB : ok32 B) (hl : B.length ≤ A.length) (hv : val B ≤ val A) : VF Tryz.prog 82 [u32S (A), u32S (B)] (u32S (dg (val A - val B))) := by
  refine VF_of P_mixed Tryz.func82 rfl rfl (by kernel_rfl) <| Sq <| Rg <| Vs (As rfl) <| Nx <| Sq <| Rg <| Vs (Mv rfl) <| Vs (Ls TK22 rfl) <| Vs (Mk 3 TK22 rfl) <| Vs (As rfl) <| Nx <| Sq <| Rg <| Vs (As rfl) <| Nx <| Sq <| Sq <| Rg <| Vs (As rfl) <| Nx <| Bk <| VCode.loop (α := (Nat) × (Int) × (List Int)) (fun x_ => match x_ with | (n, c, O) => (4, sl [(0, vS (A)), (1, vS (B)), (5, .own 3 ((((A).length : Int)).toNat)), (6, vI .u64 (c)), (7, vI .i64 ((n : Int)))], en [(3, rowK .u32 (O))])) (fun x_ => match x_ with | (n, c, O) => DiffInv A B O n c) (fun x_ => match x_ with | (n, c, O) => A.length - n) (0, 0, List.replicate (((A).length : Int)).toNat 0) (DiffInv.start (by simp)) Wk ?_
  rintro ⟨n, c, O⟩ hok
  change VCode _ _ _ 4 (sl _) (en _) _
  refine Sq <| Sq <| Rg <| Vs (Mv rfl) <| Vs (Mv rfl) <| Vs (Ls TK22 rfl) <| Vs (Bi rfl) <| Nx <| Cd rfl (fun hc1 => ?_) (fun hc1 => ?_)
  · replace hc1 := of_decide_eq_true hc1
    refine Ks <| Tg <| Sq <| Bk <| Sq <| ?_
    have hx := ok32_getD oA n
    have hy := ok32_getD oB n
    have h0 := hok.c0
    have h1 := hok.c1
    have hO := hok.len
    refine Rg <| Vs (Mv rfl) <| Vs (As rfl) <| Nx <| VCode.join (α := (Int)) (fun s => (4, sl [(0, vS (A)), (1, vS (B)), (5, .own 3 ((((A).length : Int)).toNat)), (7, vI .i64 ((n : Int))), (8, vI .u64 (s))], en [(3, rowK .u32 (O))])) (fun s => s = c + B.getD n 0) ?_ ?_
    · skip
      refine Sq <| Rg <| Vs (Mv rfl) <| Vs (Mv rfl) <| Vs (Ls TK22 rfl) <| Vs (Bi rfl) <| Nx <| Cd rfl (fun hc2 => ?_) (fun hc2 => ?_)
      · replace hc2 := of_decide_eq_true hc2
        exact Rg <| Vs (Mv rfl) <| Vs (Mv rfl) <| Vs (Mv rfl) <| Vs (IxN TK22 rfl) <| Vs (Lq TA64 rfl) <| Vs (Cv TU64 TU65 rfl wrW) <| Vs (Bo rfl adW) <| Vs (As rfl) <| VList.nil <| Jg ((c + (B).getD (n) 0)) rfl Wk
      · replace hc2 := of_decide_eq_false hc2
        exact Ks <| Jg (c) (by rw [getD_out (L := B) (by omega)]; omega) Wk
    · intro s hs
      change VCode _ _ _ 4 (sl _) (en _) _
      refine Sq <| Rg <| Vs (Mv rfl) <| Vs (Mv rfl) <| Vs (IxN TK22 rfl) <| Vs (Lq TA64 rfl) <| Vs (Cv TU64 TU65 rfl wrW) <| Vs (Mv rfl) <| Vs (Bi rfl) <| Nx <| Cd rfl (fun hc3 => ?_) (fun hc3 => ?_)
      · replace hc3 := of_decide_eq_true hc3
        exact Sq <| Rg <| Vs (Mv rfl) <| Vs (Mv rfl) <| Vs (Mv rfl) <| Vs (Mv rfl) <| Vs (IxN TK22 rfl) <| Vs (Lq TA64 rfl) <| Vs (Cv TU64 TU65 rfl wrW) <| Vs (Bo rfl adW) <| Vs (Mv rfl) <| Vs (Bo rfl suW) <| Vs (Cv TU65 TU64 rfl (wrapM_u32 _)) <| Vs (IrN TK22 rfl) <| Vs (SrK TS64 rfl) <| Nx <| Rg <| Vs (As rfl) <| VList.nil <| Ig <| Tg <| Rg <| Vs (Mv rfl) <| Vs (Bo rfl adI) <| Vs (As rfl) <| VList.nil <| Go (n + 1, 1, (O).set ((n)) ((((((A).getD (n) 0 + 4294967296) - s)) % 4294967296))) (hok.step2 oA oB (by omega) hs (by first | (left; exact ⟨by omega, rfl, rfl⟩) | (right; exact ⟨by omega, rfl, rfl⟩))) Wk
      · replace hc3 := of_decide_eq_false hc3
        exact Sq <| Rg <| Vs (Mv rfl) <| Vs (Mv rfl) <| Vs (Mv rfl) <| Vs (Mv rfl) <| Vs (IxN TK22 rfl) <| Vs (Lq TA64 rfl) <| Vs (Cv TU64 TU65 rfl wrW) <| Vs (Mv rfl) <| Vs (Bo rfl suW) <| Vs (Cv TU65 TU64 rfl (wrapM_u32 _)) <| Vs (IrN TK22 rfl) <| Vs (SrK TS64 rfl) <| Nx <| Rg <| Vs (As rfl) <| VList.nil <| Ig <| Tg <| Rg <| Vs (Mv rfl) <| Vs (Bo rfl adI) <| Vs (As rfl) <| VList.nil <| Go (n + 1, 0, (O).set ((n)) (((((A).getD (n) 0 - s)) % 4294967296))) (hok.step2 oA oB (by omega) hs (by first | (left; exact ⟨by omega, rfl, rfl⟩) | (right; exact ⟨by omega, rfl, rfl⟩))) Wk
  · replace hc1 := of_decide_eq_false hc1
    refine Ke <| Te <| Oe <| Ih <| Tg <| Sq <| ?_
    have hn := hok.le
    have hO := hok.len
    obtain ⟨e1, e2⟩ := hok.fin oB (by omega) hl hv
    exact Rg <| Vs (Mv rfl) <| Vs (Cc rfl (Rk (Rr rfl) Rz) (f66 _ (by first | omega | assumption | (simp; done) | (simp; omega)) (e2))) <| Vs (As rfl) <| Nx <| Re <| Fi (l := [u32S (dg (val (O)))]) (Rc (resVar_tmp rfl rfl) Rn) (by rw [e1]; rfl)
theorem f65 (A B : List Int) (hA : A.length ≤ 400000000) (hB : B.length ≤ 400000000) (oA : ok32 A) (oB : ok32 B) : VF Tryz.prog 58 [u32S (A), u32S (B)] (u32S (dg (val A * val B))) := by
  refine VF_of P_mixed Tryz.func58 rfl rfl (by kernel_rfl) <| Sq <| Rg <| Vs (As rfl) <| Nx <| Sq <| Rg <| Vs (Mv rfl) <| Vs (Ls TK22 rfl) <| Vs (Mv rfl) <| Vs (Ls TK22 rfl) <| Vs (Bo rfl adI) <| Vs (Mk 6 TK22 rfl) <| Vs (As rfl) <| Nx <| Sq <| Sq <| Rg <| Vs (As rfl) <| Nx <| Bk <| VCode.loop (α := (Nat) × (List Int)) (fun x_ => match x_ with | (n, O) => (7, sl [(0, vS (A)), (1, vS (B)), (5, .own 6 (((((A).length : Int) + ((B).length : Int))).toNat)), (6, vI .i64 ((n : Int)))], en [(6, rowK .u32 (O))])) (fun x_ => match x_ with | (n, O) => ProdInv A B O n) (fun x_ => match x_ with | (n, O) => A.length - n) (0, List.replicate (((A).length : Int) + ((B).length : Int)).toNat 0) (ProdInv.start (by first | rfl | (congr 1; omega))) Wk ?_
  rintro ⟨n, O⟩ hok
  change VCode _ _ _ 7 (sl _) (en _) _
  refine Sq <| Sq <| Rg <| Vs (Mv rfl) <| Vs (Mv rfl) <| Vs (Ls TK22 rfl) <| Vs (Bi rfl) <| Nx <| Cd rfl (fun hc1 => ?_) (fun hc1 => ?_)
  · replace hc1 := of_decide_eq_true hc1
    refine Ks <| Tg <| Sq <| Bk <| Sq <| Rg <| Vs (As rfl) <| Nx <| Sq <| Sq <| Rg <| Vs (As rfl) <| Nx <| Bk <| VCode.loop (α := (Nat) × (Int) × (List Int)) (fun x_ => match x_ with | (k, c, O) => (7, sl [(0, vS (A)), (1, vS (B)), (5, .own 6 (((((A).length : Int) + ((B).length : Int))).toNat)), (6, vI .i64 ((n : Int))), (7, vI .u64 (c)), (8, vI .i64 ((k : Int)))], en [(6, rowK .u32 (O))])) (fun x_ => match x_ with | (k, c, O) => ProdIn A B O n k c) (fun x_ => match x_ with | (k, c, O) => B.length - k) (0, 0, O) (hok.enter (by omega)) Wk ?_
    rintro ⟨k, c, O⟩ hok2
    change VCode _ _ _ 7 (sl _) (en _) _
    refine Sq <| Sq <| Rg <| Vs (Mv rfl) <| Vs (Mv rfl) <| Vs (Ls TK22 rfl) <| Vs (Bi rfl) <| Nx <| Cd rfl (fun hc2 => ?_) (fun hc2 => ?_)
    · replace hc2 := of_decide_eq_true hc2
      refine Ks <| Tg <| Sq <| Bk <| Sq <| ?_
      have hi : (((n : Int)) + ((k : Int))).toNat = n + k := (by omega)
      have hx := ok32_getD oA n
      have hy := ok32_getD oB k
      have hxy := mul_small hx hy
      have hz := ok32_getD hok2.ok (((n : Int)) + ((k : Int))).toNat
      have h0 := hok2.c0
      have h1 := hok2.c1
      have hO := hok2.len
      have hkl := hok2.le
      refine Rd (by kernel_rfl) <| Vl (Mv rfl) <| Vl (Mv rfl) <| Vl (IxN TK22 rfl) <| Vl (Lq TA64 rfl) <| Vl (Cv TU64 TU65 rfl wrW) <| Vl (Mv rfl) <| Vl (Mv rfl) <| Vl (IxN TK22 rfl) <| Vl (Lq TA64 rfl) <| Vl (Cv TU64 TU65 rfl wrW) <| Vl (Bo rfl muW) <| Vl (Mv rfl) <| Vl (Mv rfl) <| Vl (Mv rfl) <| Vl (Bo rfl adI) <| Vl (Ir TK22 rfl) <| Vl (LrK TA64 rfl) <| Vl (Cv TU64 TU65 rfl wrW) <| Vl (Bo rfl adW) <| Vl (Mv rfl) <| Vl (Bo rfl adW) <| Vl (As rfl) <| ?_
      refine VLog.nil ⟨by kernel_rfl, ?_⟩
      exact Tg <| Sq <| Rg <| Vs (Mv rfl) <| Vs (Mv rfl) <| Vs (Mv rfl) <| Vs (Bo rfl adI) <| Vs (Mv rfl) <| Vs (Cv TU65 TU64 rfl (wrapM_u32 _)) <| Vs (Ir TK22 rfl) <| Vs (SrK TS64 rfl) <| Nx <| Rg <| Vs (Mv rfl) <| Vs (Bo rfl quW) <| Vs (As rfl) <| VList.nil <| Ig <| Tg <| Rg <| Vs (Mv rfl) <| Vs (Bo rfl adI) <| Vs (As rfl) <| VList.nil <| Go (k + 1, (A.getD n 0 * B.getD k 0 + O.getD (((n : Int)) + ((k : Int))).toNat 0 + c) / 4294967296, O.set (((n : Int)) + ((k : Int))).toNat ((A.getD n 0 * B.getD k 0 + O.getD (((n : Int)) + ((k : Int))).toNat 0 + c) % 4294967296)) (by rw [hi]; exact hok2.step oA oB (by omega) rfl) Wk
    · replace hc2 := of_decide_eq_false hc2
      refine Ke <| Te <| Oe <| Ih <| Tg <| ?_
      have hO := hok2.len
      have hkl := hok2.le
      have h0 := hok2.c0
      have h1 := hok2.c1
      exact Rg <| Vs (Mv rfl) <| Vs (Mv rfl) <| Vs (Mv rfl) <| Vs (Ls TK22 rfl) <| Vs (Bo rfl adI) <| Vs (Mv rfl) <| Vs (Cv TU65 TU64 rfl (wrapM_u32 _)) <| Vs (Ir TK22 rfl) <| Vs (SrK TS64 rfl) <| VList.nil <| Ig <| Tg <| Rg <| Vs (Mv rfl) <| Vs (Bo rfl adI) <| Vs (As rfl) <| VList.nil <| Go (n + 1, O.set (((n : Int)) + ((B).length : Int)).toNat (c % 4294967296)) (by have hi : (((n : Int)) + ((B).length : Int)).toNat = n + B.length := (by omega); rw [hi]; exact hok2.leave (by omega)) Wk
  · replace hc1 := of_decide_eq_false hc1
    refine Ke <| Te <| Oe <| Ih <| Tg <| Sq <| ?_
    have hn := hok.le
    have hO := hok.len
    have e1 := hok.fin (by omega)
    exact Rg <| Vs (Mv rfl) <| Vs (Cc rfl (Rk (Rr rfl) Rz) (f66 _ (by first | omega | assumption | (simp; done) | (simp; omega)) (hok.ok))) <| Vs (As rfl) <| Nx <| Re <| Fi (l := [u32S (dg (val (O)))]) (Rc (resVar_tmp rfl rfl) Rn) (by rw [e1]; rfl)
end Go.VL

/- Plain laws for the document's own functions: negation. No program here. -/
set_option linter.unusedVariables false
set_option linter.unusedSimpArgs false
namespace Go.VL

def ngB (m : Bool) (B : List Int) : Bool := !m && decide ((B.length : Int) > 0)
theorem ng_valid {m : Bool} {B : List Int} (v : validB m B = true) : validB (ngB m B) B = true := by
  by_cases h : B.length = 0
  · rw [validB_nil h]; unfold ngB; simp [h]
  · unfold validB at *; rw [if_neg h] at *; exact v
theorem ng_z {m : Bool} {B : List Int} (oB : ok32 B) (v : validB m B = true) : zOf (ngB m B) B = -zOf m B := by
  by_cases h : B.length = 0
  · rw [zOf_len (by omega), zOf_len (by omega)]; rfl
  · unfold ngB; rw [decide_eq_true (by omega), Bool.and_true]
    cases m <;> simp [sg]
theorem ng_sub {n m : Bool} {A B : List Int} (oB : ok32 B) (vb : validB m B = true) : gR (validB n A && validB (ngB m B) B) (zOf n A + zOf (ngB m B) B) = gR (validB n A && validB m B) (zOf n A - zOf m B) := by
  rw [ng_valid vb, ng_z oB vb, vb, ← Int.sub_eq_add_neg]
theorem len_w {x y : Int} (hx : 0 ≤ x ∧ x < 4294967296) (hy : 0 ≤ y ∧ y < 4294967296) : 0 + (dg (val [x, y])).length ≤ 1000000000000 := by
  have h := word_lt (ok32_two hx hy) (by simp)
  have h2 := (len_dg h.1 2).2 (by have e : (4294967296 : Int) ^ 2 = 18446744073709551616 := rfl
                                  omega)
  omega
theorem sm_of {j : Int} (h0 : -9223372036854775808 ≤ j) (h1 : j ≤ 9223372036854775807) : smB (zN j) (zL j) = true := by
  refine sm_val (valid_zz j) ?_
  rw [zOf_z (small_in h0 h1), eq_comm, decide_eq_true_iff]
  exact ⟨h0, h1⟩
theorem sm_back {j : Int} (h0 : -9223372036854775808 ≤ j) (h1 : j ≤ 9223372036854775807) : smI (zN j) (zL j) = j := by rw [sm_ok (sm_of h0 h1), zOf_z (small_in h0 h1)]
end Go.VL

/- Walks over the Go functions, printed by a program of this session over the kit's print, and by hand. -/
set_option linter.unusedVariables false
set_option linter.unusedSimpArgs false
namespace Go.VL
open Go.Proofs
theorem f39 (n : Bool) (A : List Int) (m : Bool) (B : List Int) (hA : A.length ≤ 9223372036854775807) (hB : B.length ≤ 9223372036854775807) (oA : ok32 A) (oB : ok32 B) : VF Tryz.prog 54 [.agg [boolB (n), u32S (A)], .agg [boolB (m), u32S (B)]] (gR (validB n A && validB m B) (zOf n A + zOf m B)) := by
  refine VF_of P_mixed Tryz.func54 rfl rfl (by kernel_rfl) <| Sq <| Rg <| Vs (Bx 0 rfl) <| Vs (Bx 1 rfl) <| Vs (Al 2 TZ24 rfl) <| Vs (As rfl) <| Nx <| Sq <| Sq <| Rg <| Vs (LdS TA24 TS24 rfl) <| Vs (Cf rfl rfl (f26 _ _ (by first | omega | assumption | (simp; done) | (simp; omega))) rfl) <| Vs (Un rfl) <| Vs (Mv rfl) <| Sp 9 rfl (fun hc1 => ?_) (fun hc1 => ?_)
  · replace hc1 := (bnot_t hc1)
    exact Sk rfl <| Sk rfl <| Sk rfl <| Vs (Pk rfl) <| Nx <| Cy rfl <| Sq <| Rg <| Vs (Bd TQ24 rfl) <| Vs (StS TS24 rfl) <| Vs (As rfl) <| Nx <| Re <| Tr <| Fi (l := [.agg [boolB (false), u32S ([])], numB .i64 (1)]) (Rc (resVar_cell rfl rfl TA24 TS24 (Nat.le_of_ble_eq_true rfl) rfl) (Rc (resVar_tmp rfl rfl) Rn)) (by rw [gR_false (by simp [*])]; rfl)
  · replace hc1 := (bnot_f hc1)
    refine Vs (LdS TA24 TS24 rfl) <| Vs (Cf rfl rfl (f26 _ _ (by first | omega | assumption | (simp; done) | (simp; omega))) rfl) <| Vs (Un rfl) <| Vs (Pk rfl) <| Nx <| Cd rfl (fun hc2 => ?_) (fun hc2 => ?_)
    · replace hc2 := (bnot_t hc2)
      exact Sq <| Rg <| Vs (Bd TQ24 rfl) <| Vs (StS TS24 rfl) <| Vs (As rfl) <| Nx <| Re <| Tr <| Fi (l := [.agg [boolB (false), u32S ([])], numB .i64 (1)]) (Rc (resVar_cell rfl rfl TA24 TS24 (Nat.le_of_ble_eq_true rfl) rfl) (Rc (resVar_tmp rfl rfl) Rn)) (by rw [gR_false (by simp [*])]; rfl)
    · replace hc2 := (bnot_f hc2)
      refine Ks <| Tg <| Sq <| Sq <| ?_
      have va : validB n A = true := by assumption
      have vb : validB m B = true := by assumption
      have hv := vv va vb
      obtain ⟨nA, lA, sA⟩ := valid_norm oA va
      obtain ⟨nB, lB, sB⟩ := valid_norm oB vb
      have vA := val_nonneg oA
      have vB_ := val_nonneg oB
      refine Rg <| Vs (Fa TF24_0 rfl) <| Vs (Ld TA4 rfl) <| Vs (Fa TF24_0 rfl) <| Vs (Ld TA4 rfl) <| Vs (Bb TU4 rfl) <| Nx <| Cd rfl (fun hc3 => ?_) (fun hc3 => ?_)
      · replace hc3 := eq_of_beq hc3
        refine Sq <| Rd (by kernel_rfl) <| Vl (Fa TF24_0 rfl) <| Vl (Ld TA4 rfl) <| Vl (Fa TF24_1 rfl) <| Vl (Ld TA22 rfl) <| Vl (Fa TF24_1 rfl) <| Vl (Ld TA22 rfl) <| Vl (C0 rfl rfl (f56 _ _ (by first | omega | assumption | (simp; done) | (simp; omega)) (by first | omega | assumption | (simp; done) | (simp; omega)) (by first | omega | assumption | (simp; done) | (simp; omega)) (by first | omega | assumption | (simp; done) | (simp; omega)))) <| Vl (C0 rfl rfl (f58 _ _ (add_len oA oB lA lB) (ok32_dg _))) <| Vl (Xt rfl) <| Vl (Xt rfl) <| Vl (StS TS24 rfl) <| Vl (As rfl) <| ?_
        refine VLog.nil ⟨by kernel_rfl, ?_⟩
        exact Tg <| Re <| Tr <| Fi (l := [.agg [boolB (zN (sg (n) (val (dg (val (A) + val (B)))))), u32S (zL (sg (n) (val (dg (val (A) + val (B))))))], numB .i64 (zE (sg (n) (val (dg (val (A) + val (B))))))]) (Rc (resVar_cell rfl rfl TA24 TS24 (Nat.le_of_ble_eq_true rfl) rfl) (Rc (resVar_tmp rfl rfl) Rn)) (by rw [gR_true hv]; show zR (sg n (val A) + sg m (val B)) = _; rw [val_dg (by omega), sg_add, ← hc3]; rfl)
      · replace hc3 := ne_of_beq_false hc3
        refine Ks <| Tg <| Sq <| Sq <| Rg <| Vs (Fa TF24_1 rfl) <| Vs (Ld TA22 rfl) <| Vs (Fa TF24_1 rfl) <| Vs (Ld TA22 rfl) <| Vs (Cf rfl rfl (f72 _ _ (by first | omega | assumption | (simp; done) | (simp; omega)) (by first | omega | assumption | (simp; done) | (simp; omega)) (by first | omega | assumption | (simp; done) | (simp; omega)) (by first | omega | assumption | (simp; done) | (simp; omega)) (fun h => cmp_len nA nB h)) rfl) <| Vs (Bi rfl) <| Nx <| Cd rfl (fun hc4 => ?_) (fun hc4 => ?_)
        · replace hc4 := of_decide_eq_true hc4
          refine Sq <| Rd (by kernel_rfl) <| Vl (Fa TF24_0 rfl) <| Vl (Ld TA4 rfl) <| Vl (Fa TF24_1 rfl) <| Vl (Ld TA22 rfl) <| Vl (Fa TF24_1 rfl) <| Vl (Ld TA22 rfl) <| Vl (C0 rfl rfl (f57 _ _ (by first | omega | assumption | (simp; done) | (simp; omega)) (by first | omega | assumption | (simp; done) | (simp; omega)) (by first | omega | assumption | (simp; done) | (simp; omega)) (by first | omega | assumption | (simp; done) | (simp; omega)) (norm_le_len nB nA (cmp3_ge (by assumption))) (cmp3_ge (by assumption)))) <| Vl (C0 rfl rfl (f58 _ _ (sub_len oA oB lA) (ok32_dg _))) <| Vl (Xt rfl) <| Vl (Xt rfl) <| Vl (StS TS24 rfl) <| Vl (As rfl) <| ?_
          refine VLog.nil ⟨by kernel_rfl, ?_⟩
          exact Tg <| Re <| Tr <| Fi (l := [.agg [boolB (zN (sg (n) (val (dg (val (A) - val (B)))))), u32S (zL (sg (n) (val (dg (val (A) - val (B))))))], numB .i64 (zE (sg (n) (val (dg (val (A) - val (B))))))]) (Rc (resVar_cell rfl rfl TA24 TS24 (Nat.le_of_ble_eq_true rfl) rfl) (Rc (resVar_tmp rfl rfl) Rn)) (by have h2 := cmp3_ge hc4; rw [gR_true hv]; show zR (sg n (val A) + sg m (val B)) = _; rw [val_dg (by omega), sg_mix' hc3]; rfl)
        · replace hc4 := of_decide_eq_false hc4
          refine Ks <| Tg <| Sq <| Rd (by kernel_rfl) <| Vl (Fa TF24_0 rfl) <| Vl (Ld TA4 rfl) <| Vl (Fa TF24_1 rfl) <| Vl (Ld TA22 rfl) <| Vl (Fa TF24_1 rfl) <| Vl (Ld TA22 rfl) <| Vl (C0 rfl rfl (f57 _ _ (by first | omega | assumption | (simp; done) | (simp; omega)) (by first | omega | assumption | (simp; done) | (simp; omega)) (by first | omega | assumption | (simp; done) | (simp; omega)) (by first | omega | assumption | (simp; done) | (simp; omega)) (norm_le_len nA nB (Int.le_of_lt (cmp3_nge (by assumption)))) (Int.le_of_lt (cmp3_nge (by assumption))))) <| Vl (C0 rfl rfl (f58 _ _ (sub_len oB oA lB) (ok32_dg _))) <| Vl (Xt rfl) <| Vl (Xt rfl) <| Vl (StS TS24 rfl) <| Vl (As rfl) <| ?_
          refine VLog.nil ⟨by kernel_rfl, ?_⟩
          exact Tg <| Re <| Fi (l := [.agg [boolB (zN (sg (m) (val (dg (val (B) - val (A)))))), u32S (zL (sg (m) (val (dg (val (B) - val (A))))))], numB .i64 (zE (sg (m) (val (dg (val (B) - val (A))))))]) (Rc (resVar_cell rfl rfl TA24 TS24 (Nat.le_of_ble_eq_true rfl) rfl) (Rc (resVar_tmp rfl rfl) Rn)) (by have h2 := cmp3_nge hc4; rw [gR_true hv]; show zR (sg n (val A) + sg m (val B)) = _; rw [val_dg (by omega), sg_mix hc3]; rfl)
theorem f30 (n : Bool) (A : List Int) (m : Bool) (B : List Int) (hA : A.length ≤ 9223372036854775807) (hB : B.length ≤ 9223372036854775807) (oA : ok32 A) (oB : ok32 B) : VF Tryz.prog 29 [.agg [boolB (n), u32S (A)], .agg [boolB (m), u32S (B)]] (gR (validB n A && validB m B) (zOf n A * zOf m B)) := by
  refine VF_of P_mixed Tryz.func29 rfl rfl (by kernel_rfl) <| Sq <| Rg <| Vs (Bx 0 rfl) <| Vs (Bx 1 rfl) <| Vs (Al 2 TZ24 rfl) <| Vs (As rfl) <| Nx <| Sq <| Sq <| Rg <| Vs (LdS TA24 TS24 rfl) <| Vs (Cf rfl rfl (f26 _ _ (by first | omega | assumption | (simp; done) | (simp; omega))) rfl) <| Vs (Un rfl) <| Vs (Mv rfl) <| Sp 9 rfl (fun hc1 => ?_) (fun hc1 => ?_)
  · replace hc1 := (bnot_t hc1)
    exact Sk rfl <| Sk rfl <| Sk rfl <| Vs (Pk rfl) <| Nx <| Cy rfl <| Sq <| Rg <| Vs (Bd TQ24 rfl) <| Vs (StS TS24 rfl) <| Vs (As rfl) <| Nx <| Re <| Tr <| Fi (l := [.agg [boolB (false), u32S ([])], numB .i64 (1)]) (Rc (resVar_cell rfl rfl TA24 TS24 (Nat.le_of_ble_eq_true rfl) rfl) (Rc (resVar_tmp rfl rfl) Rn)) (by rw [gR_false (by simp [*])]; rfl)
  · replace hc1 := (bnot_f hc1)
    refine Vs (LdS TA24 TS24 rfl) <| Vs (Cf rfl rfl (f26 _ _ (by first | omega | assumption | (simp; done) | (simp; omega))) rfl) <| Vs (Un rfl) <| Vs (Pk rfl) <| Nx <| Cd rfl (fun hc2 => ?_) (fun hc2 => ?_)
    · replace hc2 := (bnot_t hc2)
      exact Sq <| Rg <| Vs (Bd TQ24 rfl) <| Vs (StS TS24 rfl) <| Vs (As rfl) <| Nx <| Re <| Tr <| Fi (l := [.agg [boolB (false), u32S ([])], numB .i64 (1)]) (Rc (resVar_cell rfl rfl TA24 TS24 (Nat.le_of_ble_eq_true rfl) rfl) (Rc (resVar_tmp rfl rfl) Rn)) (by rw [gR_false (by simp [*])]; rfl)
    · replace hc2 := (bnot_f hc2)
      refine Ks <| Tg <| Sq <| ?_
      have va : validB n A = true := by assumption
      have vb : validB m B = true := by assumption
      have hv := vv va vb
      obtain ⟨nA, lA, sA⟩ := valid_norm oA va
      obtain ⟨nB, lB, sB⟩ := valid_norm oB vb
      have vA := val_nonneg oA
      have vB_ := val_nonneg oB
      have m0 := Int.mul_nonneg (val_nonneg oA) (val_nonneg oB)
      refine Rd (by kernel_rfl) <| Vl (Fa TF24_0 rfl) <| Vl (Ld TA4 rfl) <| Vl (Fa TF24_0 rfl) <| Vl (Ld TA4 rfl) <| Vl (Bb TU4 rfl) <| Vl (Fa TF24_1 rfl) <| Vl (Ld TA22 rfl) <| Vl (Fa TF24_1 rfl) <| Vl (Ld TA22 rfl) <| Vl (C0 rfl rfl (f65 _ _ (by first | omega | assumption | (simp; done) | (simp; omega)) (by first | omega | assumption | (simp; done) | (simp; omega)) (by first | omega | assumption | (simp; done) | (simp; omega)) (by first | omega | assumption | (simp; done) | (simp; omega)))) <| Vl (C0 rfl rfl (f58 _ _ (mul_len oA oB lA lB) (ok32_dg _))) <| Vl (Xt rfl) <| Vl (Xt rfl) <| Vl (StS TS24 rfl) <| Vl (As rfl) <| ?_
      refine VLog.nil ⟨by kernel_rfl, ?_⟩
      exact Tg <| Re <| Fi (l := [.agg [boolB (zN (sg ((!(n == m))) (val (dg (val (A) * val (B)))))), u32S (zL (sg ((!(n == m))) (val (dg (val (A) * val (B))))))], numB .i64 (zE (sg ((!(n == m))) (val (dg (val (A) * val (B))))))]) (Rc (resVar_cell rfl rfl TA24 TS24 (Nat.le_of_ble_eq_true rfl) rfl) (Rc (resVar_tmp rfl rfl) Rn)) (by rw [gR_true hv, show zOf n A * zOf m B = sg (!(n == m)) (val A * val B) from sg_mul, val_dg m0]; rfl)
end Go.VL

/- Plain laws for the document's own functions: binary digits, doubling. No program here. -/
set_option linter.unusedVariables false
set_option linter.unusedSimpArgs false
namespace Go.VL

theorem bit_out {L : List Int} {i : Nat} (h : ok32 L) (hi : 32 * L.length ≤ i) : val L / 2 ^ i % 2 = 0 := by
  have h1 := val_lt h
  rw [← pow_two_words] at h1
  have h2 := two_mono hi
  rw [Int.ediv_eq_zero_of_lt (val_nonneg h) (by omega)]; rfl
theorem bit_in {L : List Int} {q r m : Nat} (h : ok32 L) (hr : r < 32) (hq : q < L.length) (hm : m = 32 * q + r) : val L / 2 ^ m % 2 = L.getD q 0 / 2 ^ r % 2 := by
  subst hm
  rw [words_two, ← Int.ediv_ediv_of_nonneg (Int.le_of_lt (pow_pos q)), (val_div_words h (Nat.le_of_lt hq)).1, val_drop_step L q hq]
  have hp := two_pow_pos r
  have e : (4294967296 : Int) = 2 * 2 ^ (31 - r) * 2 ^ r := by
    have h1 := pow_split hr
    have h2 : (2 : Int) ^ (32 - r) = 2 * 2 ^ (31 - r) := by rw [show 32 - r = (31 - r) + 1 by omega, Int.pow_succ, Int.mul_comm]
    rw [← h2]; exact h1
  have e2 : 4294967296 * val (L.drop (q + 1)) = 2 * (2 ^ (31 - r) * val (L.drop (q + 1))) * 2 ^ r := by
    rw [e]
    simp only [Int.mul_assoc, Int.mul_left_comm, Int.mul_comm]
  rw [e2, Int.add_mul_ediv_right _ _ (by omega)]
  omega
structure DblInv (L O : List Int) (b : Int) (n : Nat) (w : Int) : Prop where
  le : n ≤ L.length
  len : O.length = L.length + 1
  ok : ok32 (O.take n)
  w0 : 0 ≤ w
  w1 : w ≤ 1
  eq : val (O.take n) + 4294967296 ^ n * w = 2 * val (L.take n) + b
theorem DblInv.start {L O : List Int} {b : Int} (h : O.length = L.length + 1) (h0 : 0 ≤ b) (h1 : b ≤ 1) : DblInv L O b 0 b := ⟨Nat.zero_le _, h, by simpa using ok32_nil, h0, h1, by simp [val]⟩
theorem DblInv.step {L O : List Int} {b w : Int} {n : Nat} (hL : ok32 L) (h : DblInv L O b n w) (hn : n < L.length) : DblInv L (O.set n ((L.getD n 0 * 2) % 4294967296 + w)) b (n + 1) (L.getD n 0 / 2147483648) := by
  have hx := ok32_getD hL n
  have h0 := h.w0
  have h1 := h.w1
  refine ⟨hn, by simpa using h.len, ok32_take_set (by rw [h.len]; omega) h.ok (by omega), by omega, by omega, ?_⟩
  rw [val_take_set _ _ _ (by rw [h.len]; omega), val_take_step L n, Int.pow_succ]
  have e := h.eq
  generalize (4294967296 : Int) ^ n = p at e ⊢
  have e0 : (L.getD n 0 * 2) % 4294967296 + w + 4294967296 * (L.getD n 0 / 2147483648) = 2 * L.getD n 0 + w := by omega
  have e1 : p * ((L.getD n 0 * 2) % 4294967296 + w) + p * 4294967296 * (L.getD n 0 / 2147483648) = 2 * (p * L.getD n 0) + p * w := by
    rw [Int.mul_assoc, ← Int.mul_add, e0, Int.mul_add, Int.mul_left_comm]
  omega
theorem DblInv.fin {L O : List Int} {b w : Int} {n : Nat} (h : DblInv L O b n w) (hn : n = L.length) : val (O.set L.length w) = 2 * val L + b ∧ ok32 (O.set L.length w) := by
  subst hn
  have e := h.eq
  rw [List.take_of_length_le (Nat.le_refl L.length)] at e
  have hw : (O.set L.length w).take (L.length + 1) = O.set L.length w := List.take_of_length_le (by simp [h.len])
  have a := val_take_set O L.length w (by rw [h.len]; omega)
  have b := ok32_take_set (x := w) (by rw [h.len]; omega) h.ok (by have := h.w0; have := h.w1; omega)
  rw [hw] at a b
  exact ⟨by rw [a, e], b⟩
theorem drop_word {L : List Int} {q : Nat} (h : q < L.length) : val (L.drop (q + 1)) * 4294967296 + L.getD q 0 = val (L.drop q) := by rw [val_drop_step L q h]; omega
theorem drop_small {L : List Int} {q : Nat} (o : ok32 L) (h : L.length ≤ q + 2) : 0 ≤ val (L.drop (q + 1)) ∧ val (L.drop (q + 1)) < 4294967296 := by
  have o2 := ok32_drop o (q + 1)
  have h1 := val_lt o2
  have h2 := pow_mono (show (L.drop (q + 1)).length ≤ 1 by simp; omega)
  have e : (4294967296 : Int) ^ 1 = 4294967296 := rfl
  rw [e] at h2
  exact ⟨val_nonneg o2, by omega⟩
theorem sg_t {n : Bool} {A : List Int} (h : n = true) : zOf n A = -val A := by subst h; rfl
theorem sg_f {n : Bool} {A : List Int} (h : n = false) : zOf n A = val A := by subst h; rfl
theorem smB_of {n b : Bool} {A : List Int} {z : Int} (v : validB n A = true) (e : zOf n A = z) (hb : b = decide (-9223372036854775808 ≤ z ∧ z ≤ 9223372036854775807)) : smB n A = b := sm_val v (by rw [e]; exact hb)
end Go.VL

/- Walks over the Go functions, printed by a program of this session over the kit's print, and by hand. -/
set_option linter.unusedVariables false
set_option linter.unusedSimpArgs false
namespace Go.VL
open Go.Proofs
theorem f70 (L : List Int) (i : Int) (hL : L.length ≤ 1000000000) (oL : ok32 L) (i0 : 0 ≤ i) (i1 : i ≤ 100000000000) : VF Tryz.prog 85 [u32S (L), numB .i64 (i)] (numB .u32 (val L / 2 ^ i.toNat % 2)) := by
  refine VF_of P_mixed Tryz.func85 rfl rfl (by kernel_rfl) <| Sq <| Rg <| Vs (As rfl) <| Nx <| Sq <| Sq <| Rg <| Vs (Mv rfl) <| Vs (Bo rfl quI) <| Vs (Mv rfl) <| Vs (Ls TK22 rfl) <| Vs (Bi rfl) <| Nx <| Cd rfl (fun hc1 => ?_) (fun hc1 => ?_)
  · replace hc1 := of_decide_eq_true hc1
    exact Sq <| Rg <| Vs (As rfl) <| Nx <| Re <| Tr <| Fi (l := [numB .u32 (0)]) (Rc (resVar_tmp rfl rfl) Rn) (by rw [bit_out oL (by omega)]; rfl)
  · replace hc1 := of_decide_eq_false hc1
    refine Ks <| Tg <| Sq <| ?_
    have hx := ok32_getD oL (i / 32).toNat
    have hs0 := Int.ediv_nonneg hx.1 (Int.le_of_lt (two_pow_pos (i % 32).toNat))
    have hs1 := Int.ediv_le_self (2 ^ (i % 32).toNat) hx.1
    exact Rg <| Vs (Mv rfl) <| Vs (Mv rfl) <| Vs (Bo rfl quI) <| Vs (Ix TK22 rfl) <| Vs (Lq TA64 rfl) <| Vs (Mv rfl) <| Vs (Bo rfl reI) <| Vs (Bo (c := .int .u32 (((L).getD ((i / 32)).toNat 0 / 2 ^ ((i % 32)).toNat))) rfl (bop_shr_u32 (by omega) (by omega))) <| Vs (Bo (c := .int .u32 ((((L).getD ((i / 32)).toNat 0 / 2 ^ ((i % 32)).toNat) % 2))) rfl (bop_mask_u32 (q := 2) 1 (by decide) (by decide) (by decide) (by omega))) <| Vs (As rfl) <| Nx <| Re <| Fi (l := [numB .u32 ((((L).getD ((i / 32)).toNat 0 / 2 ^ ((i % 32)).toNat) % 2))]) (Rc (resVar_tmp rfl rfl) Rn) (by rw [bit_in (q := (i / 32).toNat) (r := (i % 32).toNat) oL (by omega) (by omega) (by omega)]; rfl)
theorem f78 (L : List Int) (hL : L.length ≤ 1000000000) (nL : norm L) : VF Tryz.prog 98 [u32S (L)] (numB .i64 ((blen (val L).toNat : Nat) : Int)) := by
  refine VF_of P_mixed Tryz.func98 rfl rfl (by kernel_rfl) <| Sq <| Rg <| Vs (As rfl) <| Nx <| Sq <| Sq <| Rg <| Vs (Mv rfl) <| Vs (Ls TK22 rfl) <| Vs (Bi rfl) <| Nx <| Cd rfl (fun hc1 => ?_) (fun hc1 => ?_)
  · replace hc1 := eq_of_beq hc1
    exact Sq <| Rg <| Vs (As rfl) <| Nx <| Re <| Tr <| Fi (l := [numB .i64 (0)]) (Rc (resVar_tmp rfl rfl) Rn) (by rw [norm_zero nL (by omega)]; exact congrArg (numB .i64) (by simp [blen_zero]))
  · replace hc1 := ne_of_beq_false hc1
    refine Ks <| Tg <| Sq <| ?_
    have hx := ok32_getD nL.1 ((((L).length : Int) - 1)).toNat
    have e0 := blen_val (q := ((((L).length : Int) - 1)).toNat) nL (by omega) (by omega)
    have e1 := (blen_lt 32 ((L).getD ((((L).length : Int) - 1)).toNat 0).toNat).2 (by omega)
    refine Rg <| Vs (Mv rfl) <| Vs (Ls TK22 rfl) <| Vs (Bo rfl suI) <| Vs (Bo rfl muI) <| Vs (As rfl) <| Nx <| Sq <| Sq <| Rg <| Vs (Mv rfl) <| Vs (Mv rfl) <| Vs (Ls TK22 rfl) <| Vs (Bo rfl suI) <| Vs (Ix TK22 rfl) <| Vs (Lq TA64 rfl) <| Vs (As rfl) <| Nx <| Bk <| VCode.loop (α := (Int) × (Int)) (fun x_ => match x_ with | (s, t) => (0, sl [(3, vI .i64 (s)), (4, vI .u32 (t))], en [])) (fun x_ => match x_ with | (s, t) => s + ((blen t.toNat : Nat) : Int) = ((blen (val L).toNat : Nat) : Int) ∧ 0 ≤ t ∧ t < 4294967296 ∧ 0 ≤ s ∧ s ≤ 100000000000) (fun x_ => match x_ with | (s, t) => t.toNat) ((32 * (((L).length : Int) - 1)), (L).getD ((((L).length : Int) - 1)).toNat 0) ⟨by omega, hx.1, hx.2, by omega, by omega⟩ Wk ?_
    rintro ⟨s, t⟩ hok
    obtain ⟨h1, h2, h3, h4, h5⟩ := hok
    change VCode _ _ _ 0 (sl _) (en _) _
    refine Sq <| Sq <| Rg <| Vs (Mv rfl) <| Vs (Bi rfl) <| Nx <| Cd rfl (fun hc2 => ?_) (fun hc2 => ?_)
    · replace hc2 := of_decide_eq_true hc2
      refine Ks <| Tg <| Sq <| Bk <| ?_
      have hb := blen_pos (n := t.toNat) (by omega)
      have e : (t / 2).toNat = t.toNat / 2 := by omega
      exact Rg <| Vs (Mv rfl) <| Vs (Bo rfl adI) <| Vs (As rfl) <| VList.nil <| Ig <| Tg <| Rg <| Vs (Mv rfl) <| Vs (Bo rfl quD) <| Vs (As rfl) <| VList.nil <| Go (s + 1, t / 2) ⟨by rw [e]; omega, by omega, by omega, by omega, by omega⟩ Wk
    · replace hc2 := of_decide_eq_false hc2
      exact Ke <| Te <| Oe <| Ih <| Tg <| Sq <| Rg <| Vs (Mv rfl) <| Vs (As rfl) <| Nx <| Re <| Fi (l := [numB .i64 (s)]) (Rc (resVar_tmp rfl rfl) Rn) (by have ht : t.toNat = 0 := (by omega); rw [ht, blen_zero] at h1; exact congrArg (numB .i64) (by omega))
theorem f79 (L : List Int) (b : Int) (hL : L.length ≤ 900000000) (oL : ok32 L) (b0 : 0 ≤ b) (b1 : b ≤ 1) : VF Tryz.prog 99 [u32S (L), numB .u32 (b)] (u32S (dg (2 * val L + b))) := by
  refine VF_of P_mixed Tryz.func99 rfl rfl (by kernel_rfl) <| Sq <| Rg <| Vs (As rfl) <| Nx <| Sq <| Rg <| Vs (Mv rfl) <| Vs (Ls TK22 rfl) <| Vs (Bo rfl adI) <| Vs (Mk 4 TK22 rfl) <| Vs (As rfl) <| Nx <| Sq <| Sq <| Rg <| Vs (As rfl) <| Nx <| Bk <| VCode.loop (α := (Nat) × (Int) × (List Int)) (fun x_ => match x_ with | (n, w, O) => (5, sl [(0, vS (L)), (1, vI .u32 (w)), (5, .own 4 (((((L).length : Int) + 1)).toNat)), (6, vI .i64 ((n : Int)))], en [(4, rowK .u32 (O))])) (fun x_ => match x_ with | (n, w, O) => DblInv L O b n w) (fun x_ => match x_ with | (n, w, O) => L.length - n) (0, b, List.replicate (((L).length : Int) + 1).toNat 0) (DblInv.start (by first | (simp; done) | (simp; omega)) b0 b1) Wk ?_
  rintro ⟨n, w, O⟩ hok
  change VCode _ _ _ 5 (sl _) (en _) _
  refine Sq <| Sq <| Rg <| Vs (Mv rfl) <| Vs (Mv rfl) <| Vs (Ls TK22 rfl) <| Vs (Bi rfl) <| Nx <| Cd rfl (fun hc1 => ?_) (fun hc1 => ?_)
  · replace hc1 := of_decide_eq_true hc1
    refine Ks <| Tg <| Sq <| Bk <| Sq <| ?_
    have hx := ok32_getD oL n
    have h0 := hok.w0
    have h1 := hok.w1
    have hO := hok.len
    exact Rg <| Vs (Mv rfl) <| Vs (Mv rfl) <| Vs (Mv rfl) <| Vs (Mv rfl) <| Vs (IxN TK22 rfl) <| Vs (Lq TA64 rfl) <| Vs (Bo (c := .int .u32 ((((L).getD (n) 0 * 2) % 4294967296))) rfl (bopM_mul_u32 _ _)) <| Vs (Mv rfl) <| Vs (Bo rfl adD) <| Vs (IrN TK22 rfl) <| Vs (SrK TS64 rfl) <| Nx <| Rg <| Vs (Mv rfl) <| Vs (Mv rfl) <| Vs (IxN TK22 rfl) <| Vs (Lq TA64 rfl) <| Vs (Bo rfl (srD 2147483648)) <| Vs (As rfl) <| VList.nil <| Ig <| Tg <| Rg <| Vs (Mv rfl) <| Vs (Bo rfl adI) <| Vs (As rfl) <| VList.nil <| Go (n + 1, ((L).getD (n) 0 / 2147483648), (O).set ((n)) (((((L).getD (n) 0 * 2) % 4294967296) + w))) (hok.step oL (by omega)) Wk
  · replace hc1 := of_decide_eq_false hc1
    refine Ke <| Te <| Oe <| Ih <| Tg <| Sq <| ?_
    have hO := hok.len
    have hle := hok.le
    refine Rg <| Vs (Mv rfl) <| Vs (Mv rfl) <| Vs (Ls TK22 rfl) <| Vs (Mv rfl) <| Vs (IrN TK22 rfl) <| Vs (SrK TS64 rfl) <| Nx <| Sq <| ?_
    obtain ⟨e1, e2⟩ := hok.fin (by omega)
    exact Rg <| Vs (Mv rfl) <| Vs (Cc rfl (Rk (Rr rfl) Rz) (f66 _ (by first | omega | assumption | (simp; done) | (simp; omega)) (e2))) <| Vs (As rfl) <| Nx <| Re <| Fi (l := [u32S (dg (val ((O).set (((L).length)) (w))))]) (Rc (resVar_tmp rfl rfl) Rn) (by rw [e1]; rfl)
theorem f61 (A : List Int) (d : Int) (hA : A.length ≤ 900000000) (oA : ok32 A) (hd : 0 < d) (hd1 : d < 4294967296) : VF Tryz.prog 97 [u32S (A), numB .u32 (d)] (.tup [u32S (dg (val A / d)), numB .u32 (val A % d)]) := by
  refine VF_of P_mixed Tryz.func97 rfl rfl (by kernel_rfl) <| Sq <| Rg <| Vs (As rfl) <| Vs (As rfl) <| Nx <| Sq <| Rg <| Vs (Mv rfl) <| Vs (Ls TK22 rfl) <| Vs (Mk 4 TK22 rfl) <| Vs (As rfl) <| Nx <| Sq <| Rg <| Vs (As rfl) <| Nx <| Sq <| Sq <| Rg <| Vs (Mv rfl) <| Vs (Ls TK22 rfl) <| Vs (Bo rfl suI) <| Vs (As rfl) <| Nx <| Bk <| VCode.loop (α := (Int) × (Int) × (List Int)) (fun x_ => match x_ with | (q, r, O) => (5, sl [(0, vS (A)), (1, vI .u32 (d)), (6, .own 4 ((((A).length : Int)).toNat)), (7, vI .u64 (r)), (8, vI .i64 (q))], en [(4, rowK .u32 (O))])) (fun x_ => match x_ with | (q, r, O) => SmallInv A O d ((A.length : Int) - 1 - q).toNat r ∧ -1 ≤ q ∧ q < A.length) (fun x_ => match x_ with | (q, r, O) => (q + 1).toNat) (((A).length : Int) - 1, 0, List.replicate (((A).length : Int)).toNat 0) ⟨by rw [show ((A.length : Int) - 1 - (((A).length : Int) - 1)).toNat = 0 by omega]; exact SmallInv.start (by simp) hd, by omega, by omega⟩ Wk ?_
  rintro ⟨q, r, O⟩ hok0
  obtain ⟨hok, hq1, hq2⟩ := hok0
  change VCode _ _ _ 5 (sl _) (en _) _
  refine Sq <| Sq <| Rg <| Vs (Mv rfl) <| Vs (Bi rfl) <| Nx <| Cd rfl (fun hc1 => ?_) (fun hc1 => ?_)
  · replace hc1 := of_decide_eq_true hc1
    refine Ks <| Tg <| Sq <| Bk <| Sq <| ?_
    have hx := ok32_getD oA (q).toNat
    have h0 := hok.r0
    have h1 := hok.r1
    have hO := hok.len
    have hw := div_word ⟨h0, h1⟩ hd1 hx rfl
    exact Rg <| Vs (Mv rfl) <| Vs (Bo rfl muW) <| Vs (Mv rfl) <| Vs (Mv rfl) <| Vs (Ix TK22 rfl) <| Vs (Lq TA64 rfl) <| Vs (Cv TU64 TU65 rfl wrW) <| Vs (Bo rfl adW) <| Vs (As rfl) <| Nx <| Sq <| Rg <| Vs (Mv rfl) <| Vs (Mv rfl) <| Vs (Mv rfl) <| Vs (Mv rfl) <| Vs (Cv TU64 TU65 rfl wrW) <| Vs (Bo rfl quW) <| Vs (Cv TU65 TU64 rfl (wrapM_u32 _)) <| Vs (Ir TK22 rfl) <| Vs (SrK TS64 rfl) <| Nx <| Rg <| Vs (Mv rfl) <| Vs (Mv rfl) <| Vs (Cv TU64 TU65 rfl wrW) <| Vs (Bo rfl reW) <| Vs (As rfl) <| VList.nil <| Ig <| Tg <| Rg <| Vs (Mv rfl) <| Vs (Bo rfl suI) <| Vs (As rfl) <| VList.nil <| Go (q - 1, (((r * 4294967296) + (A).getD (q).toNat 0) % d), (O).set ((q).toNat) ((((((r * 4294967296) + (A).getD (q).toNat 0) / d)) % 4294967296))) ⟨by rw [show ((A.length : Int) - 1 - (q - 1)).toNat = ((A.length : Int) - 1 - q).toNat + 1 by omega]; exact hok.step (q := q.toNat) oA hd1 (by omega) rfl, by omega, by omega⟩ Wk
  · replace hc1 := of_decide_eq_false hc1
    refine Ke <| Te <| Oe <| Ih <| Tg <| Sq <| ?_
    have hO := hok.len
    have h0 := hok.r0
    have h1 := hok.r1
    obtain ⟨e1, e2, e3⟩ := hok.fin (by omega) oA
    exact Rg <| Vs (Mv rfl) <| Vs (Cc rfl (Rk (Rr rfl) Rz) (f66 _ (by first | omega | assumption | (simp; done) | (simp; omega)) (e1))) <| Vs (Mv rfl) <| Vs (Cv TU65 TU64 rfl (wrapM_u32 _)) <| Vs (As rfl) <| Vs (As rfl) <| Nx <| Re <| Fi (l := [u32S (dg (val (O))), numB .u32 (((r) % 4294967296))]) (Rc (resVar_tmp rfl rfl) (Rc (resVar_tmp rfl rfl) Rn)) (by rw [e2, e3, show val A % d % 4294967296 = val A % d by omega]; rfl)
end Go.VL

/- Plain laws for the document's own functions: shifting right. No program here. -/
set_option linter.unusedVariables false
set_option linter.unusedSimpArgs false
namespace Go.VL

theorem lost_yes {L : List Int} {k : Nat} (h : ok32 L) (hb : true = decide (val (L.take k) ≠ 0)) : true = decide (val (L.take (k + 1)) ≠ 0) := by
  rw [eq_comm, decide_eq_true_iff] at *
  rw [val_take_step]
  have h1 := val_nonneg (ok32_take h k)
  have h2 := Int.mul_nonneg (Int.le_of_lt (pow_pos k)) (ok32_getD h k).1
  omega
theorem lost_no {L : List Int} {k : Nat} (h : ok32 L) (hb : false = decide (val (L.take k) ≠ 0)) : (L.getD k 0 != 0) = decide (val (L.take (k + 1)) ≠ 0) := by
  rw [eq_comm, decide_eq_false_iff_not] at hb
  have h0 : val (L.take k) = 0 := Classical.byContradiction hb
  rw [val_take_step, h0, Bool.eq_iff_iff, bne_iff_ne, decide_eq_true_iff, Int.zero_add]
  have hp := pow_pos k
  constructor
  · intro hx hc
    rcases Int.mul_eq_zero.1 hc with h1 | h1 <;> omega
  · intro hx hc
    exact hx (by rw [hc, Int.mul_zero])
theorem lost_end {L : List Int} {q r m : Nat} (h : ok32 L) (hr : r < 32) (hm : m = 32 * q + r) (hq : q < L.length) : (val L % 2 ^ m ≠ 0) ↔ (val (L.take q) ≠ 0 ∨ L.getD q 0 % 2 ^ r ≠ 0) := by
  rw [right_lost h hr hm hq]
  have hn := dg_nil (val_nonneg (ok32_take h q))
  constructor
  · rintro (h1 | h1)
    · exact .inl (fun hc => by rw [hc] at hn; have := hn.2 rfl; rw [hc] at h1; omega)
    · exact .inr h1
  · rintro (h1 | h1)
    · exact .inl (by have := mt hn.1 h1; omega)
    · exact .inr h1
theorem lost_a {L : List Int} {q r m : Nat} (h : ok32 L) (hr : r < 32) (hm : m = 32 * q + r) (hq : q < L.length) (hb : true = decide (val (L.take q) ≠ 0)) : decide (val L % 2 ^ m ≠ 0) = true := by
  rw [eq_comm, decide_eq_true_iff] at hb
  rw [decide_eq_true_iff, lost_end h hr hm hq]; exact .inl hb
theorem lost_b {L : List Int} {q r m : Nat} (h : ok32 L) (hr : r < 32) (hm : m = 32 * q + r) (hq : q < L.length) (hb : false = decide (val (L.take q) ≠ 0)) : decide (val L % 2 ^ m ≠ 0) = (L.getD q 0 % 2 ^ r != 0) := by
  rw [eq_comm, decide_eq_false_iff_not] at hb
  rw [Bool.eq_iff_iff, decide_eq_true_iff, lost_end h hr hm hq, bne_iff_ne]
  exact ⟨fun h => h.resolve_left hb, fun h => .inr h⟩
end Go.VL

/- Walks over the Go functions, printed by a program of this session over the kit's print, and by hand. -/
set_option linter.unusedVariables false
set_option linter.unusedSimpArgs false
namespace Go.VL
open Go.Proofs
theorem f73 (L : List Int) (n : Int) (hL : L.length ≤ 400000000) (oL : ok32 L) (h0 : 0 ≤ n) (h1 : n ≤ 1000000000) : VF Tryz.prog 87 [u32S (L), numB .i64 (n)] (u32S (dg (val L * 2 ^ n.toNat))) := by
  refine VF_of P_mixed Tryz.func87 rfl rfl (by kernel_rfl) <| Sq <| Rg <| Vs (As rfl) <| Nx <| Sq <| Rg <| Vs (Mv rfl) <| Vs (Ls TK22 rfl) <| Vs (Mv rfl) <| Vs (Bo rfl quI) <| Vs (Bo rfl adI) <| Vs (Bo rfl adI) <| Vs (Mk 7 TK22 rfl) <| Vs (As rfl) <| Nx <| Sq <| Sq <| Rg <| Vs (As rfl) <| Nx <| Bk <| VCode.loop (α := (Nat) × (List Int)) (fun x_ => match x_ with | (k, O) => (8, sl [(0, vS (L)), (1, vI .i64 (n)), (5, .own 7 ((((((L).length : Int) + (n / 32)) + 1)).toNat)), (6, vI .i64 ((k : Int)))], en [(7, rowK .u32 (O))])) (fun x_ => match x_ with | (k, O) => LeftInv L O (n / 32).toNat (n % 32).toNat k) (fun x_ => match x_ with | (k, O) => L.length - k) (0, List.replicate ((((L).length : Int) + (n / 32)) + 1).toNat 0) (by have e : ((((L).length : Int) + (n / 32)) + 1).toNat = L.length + (n / 32).toNat + 1 := (by omega); show LeftInv L (List.replicate _ 0) _ _ 0; rw [e]; exact LeftInv.start) Wk ?_
  rintro ⟨k, O⟩ hok
  change VCode _ _ _ 8 (sl _) (en _) _
  refine Sq <| Sq <| Rg <| Vs (Mv rfl) <| Vs (Mv rfl) <| Vs (Ls TK22 rfl) <| Vs (Bi rfl) <| Nx <| Cd rfl (fun hc1 => ?_) (fun hc1 => ?_)
  · replace hc1 := of_decide_eq_true hc1
    refine Ks <| Tg <| Sq <| Bk <| Sq <| ?_
    have hx := ok32_getD oL k
    have hs := shl_word (r := (n % 32).toNat) (by omega) hx
    have hO := hok.len
    have hi : (((k : Int)) + (n / 32)).toNat = k + (n / 32).toNat := (by omega)
    have hi1 : ((((k : Int)) + (n / 32)) + 1).toNat = k + (n / 32).toNat + 1 := (by omega)
    have hz := ok32_getD hok.ok (k + (n / 32).toNat)
    have htop := hok.top
    have hsum := hok.sum oL (by omega) (by omega) rfl
    rw [← hi] at hz htop hsum
    exact Rg <| Vs (Mv rfl) <| Vs (Mv rfl) <| Vs (IxN TK22 rfl) <| Vs (Lq TA64 rfl) <| Vs (Cv TU64 TU65 rfl wrW) <| Vs (Mv rfl) <| Vs (Bo rfl reI) <| Vs (Bo (c := .int .u64 (((L).getD (k) 0 * 2 ^ ((n % 32)).toNat))) rfl (bop_shl_u64 (by omega) (by omega) (by omega))) <| Vs (As rfl) <| Nx <| Sq <| Rg <| Vs (Mv rfl) <| Vs (Mv rfl) <| Vs (Mv rfl) <| Vs (Bo rfl quI) <| Vs (Bo rfl adI) <| Vs (Mv rfl) <| Vs (Mv rfl) <| Vs (Mv rfl) <| Vs (Bo rfl quI) <| Vs (Bo rfl adI) <| Vs (Ir TK22 rfl) <| Vs (LrK TA64 rfl) <| Vs (Mv rfl) <| Vs (Cv TU65 TU64 rfl (wrapM_u32 _)) <| Vs (Bo (c := .int .u32 (((O).getD ((((k : Int) + (n / 32))).toNat) 0 + ((((L).getD (k) 0 * 2 ^ ((n % 32)).toNat)) % 4294967296)))) rfl (bop_orR_u32 (q := 2 ^ (n % 32).toNat) (n % 32).toNat rfl ⟨hz.1, htop⟩ (shl_low (by omega) hx.1) (by omega))) <| Vs (Ir TK22 rfl) <| Vs (SrK TS64 rfl) <| Nx <| Rg <| Vs (Mv rfl) <| Vs (Mv rfl) <| Vs (Mv rfl) <| Vs (Bo rfl quI) <| Vs (Bo rfl adI) <| Vs (Bo rfl adI) <| Vs (Mv rfl) <| Vs (Bo rfl quW) <| Vs (Cv TU65 TU64 rfl (wrapM_u32 _)) <| Vs (Ir TK22 rfl) <| Vs (SrK TS64 rfl) <| VList.nil <| Ig <| Tg <| Rg <| Vs (Mv rfl) <| Vs (Bo rfl adI) <| Vs (As rfl) <| VList.nil <| Go (k + 1, ((O).set ((((k : Int)) + (n / 32)).toNat) ((O).getD ((((k : Int)) + (n / 32)).toNat) 0 + (((L).getD (k) 0 * 2 ^ (n % 32).toNat) % 4294967296))).set (((((k : Int)) + (n / 32)) + 1).toNat) ((((L).getD (k) 0 * 2 ^ (n % 32).toNat) / 4294967296) % 4294967296)) (by show LeftInv L (((O).set ((((k : Int)) + (n / 32)).toNat) ((O).getD ((((k : Int)) + (n / 32)).toNat) 0 + (((L).getD (k) 0 * 2 ^ (n % 32).toNat) % 4294967296))).set (((((k : Int)) + (n / 32)) + 1).toNat) ((((L).getD (k) 0 * 2 ^ (n % 32).toNat) / 4294967296) % 4294967296)) _ _ (k + 1); rw [hi, hi1]; exact hok.step oL (by omega) (by omega) rfl) Wk
  · replace hc1 := of_decide_eq_false hc1
    refine Ke <| Te <| Oe <| Ih <| Tg <| Sq <| ?_
    have hle := hok.le
    have hO := hok.len
    have e1 := hok.fin (m := n.toNat) (by omega) (by omega)
    exact Rg <| Vs (Mv rfl) <| Vs (Cc rfl (Rk (Rr rfl) Rz) (f66 _ (by first | omega | assumption | (simp; done) | (simp; omega)) (hok.ok))) <| Vs (As rfl) <| Nx <| Re <| Fi (l := [u32S (dg (val (O)))]) (Rc (resVar_tmp rfl rfl) Rn) (by rw [e1]; rfl)
theorem f80 (L : List Int) (n : Int) (hL : L.length ≤ 900000000) (nL : norm L) (h0 : 0 ≤ n) (h1 : n ≤ 1000000000) : VF Tryz.prog 96 [u32S (L), numB .i64 (n)] (.tup [u32S (dg (val L / 2 ^ n.toNat)), boolB (decide (val L % 2 ^ n.toNat ≠ 0))]) := by
  refine VF_of P_mixed Tryz.func96 rfl rfl (by kernel_rfl) <| Sq <| Rg <| Vs (As rfl) <| Vs (As rfl) <| Nx <| Sq <| Sq <| ?_
  have oL := nL.1
  have hr : (n % 32).toNat < 32 := (by omega)
  have hm : n.toNat = 32 * (n / 32).toNat + (n % 32).toNat := (by omega)
  have h2 := two_pow_pos (n % 32).toNat
  have h3 := two_pow_lt hr
  refine Rg <| Vs (Mv rfl) <| Vs (Bo rfl quI) <| Vs (Mv rfl) <| Vs (Ls TK22 rfl) <| Vs (Bi rfl) <| Nx <| Cd rfl (fun hc1 => ?_) (fun hc1 => ?_)
  · replace hc1 := of_decide_eq_true hc1
    exact Sq <| Rg <| Vs (Mv rfl) <| Vs (Ls TK22 rfl) <| Vs (Bi rfl) <| Vs (As rfl) <| Vs (As rfl) <| Nx <| Re <| Tr <| Fi (l := [u32S ([]), boolB (decide (((L).length : Int) > 0))]) (Rc (resVar_tmp rfl rfl) (Rc (resVar_tmp rfl rfl) Rn)) (by obtain ⟨w1, w2⟩ := right_out nL hm (by omega); rw [w1, w2]; rfl)
  · replace hc1 := of_decide_eq_false hc1
    refine Ks <| Tg <| Sq <| ?_
    have hq : (n / 32).toNat < L.length := (by omega)
    have hx := ok32_getD oL (n / 32).toNat
    refine Rg <| Vs (As rfl) <| Nx <| VCode.join (α := (Bool)) (fun b => (0, sl [(0, vS (L)), (1, vI .i64 (n)), (6, vB (b))], en [])) (fun b => b = decide (val (L.take (n / 32).toNat) ≠ 0)) ?_ ?_
    · skip
      refine Sq <| Rg <| Vs (As rfl) <| Nx <| Bk <| VCode.loop (α := (Nat) × (Bool)) (fun x_ => match x_ with | (k, b) => (0, sl [(0, vS (L)), (1, vI .i64 (n)), (6, vB (b)), (7, vI .i64 ((k : Int)))], en [])) (fun x_ => match x_ with | (k, b) => k ≤ (n / 32).toNat ∧ b = decide (val (L.take k) ≠ 0)) (fun x_ => match x_ with | (k, b) => (n / 32).toNat - k) (0, false) ⟨by omega, by simp [val]⟩ Wk ?_
      rintro ⟨k, b⟩ hok
      obtain ⟨hk, hb⟩ := hok
      change VCode _ _ _ 0 (sl _) (en _) _
      refine Sq <| Sq <| Rg <| Vs (Mv rfl) <| Vs (Mv rfl) <| Vs (Bo rfl quI) <| Vs (Bi rfl) <| Nx <| Cd rfl (fun hc2 => ?_) (fun hc2 => ?_)
      · replace hc2 := of_decide_eq_true hc2
        refine Ks <| Tg <| Sq <| Bk <| Rg <| Vs (Mv rfl) <| Vs (Mv rfl) <| Sp 27 rfl (fun hc3 => ?_) (fun hc3 => ?_)
        · replace hc3 := hc3
          exact Sk rfl <| Sk rfl <| Sk rfl <| Sk rfl <| Sk rfl <| Vs (Pk rfl) <| Vs (As rfl) <| VList.nil <| Ig <| Tg <| Rg <| Vs (Mv rfl) <| Vs (Bo rfl adI) <| Vs (As rfl) <| VList.nil <| Go (k + 1, true) ⟨by omega, by first | (exact lost_yes oL (by rw [← hb]; exact Eq.symm (by assumption))) | (exact lost_no oL (by rw [← hb]; exact Eq.symm (by assumption)))⟩ Wk
        · replace hc3 := hc3
          exact Vs (Mv rfl) <| Vs (Mv rfl) <| Vs (IxN TK22 rfl) <| Vs (Lq TA64 rfl) <| Vs (Bi rfl) <| Vs (Pk rfl) <| Vs (As rfl) <| VList.nil <| Ig <| Tg <| Rg <| Vs (Mv rfl) <| Vs (Bo rfl adI) <| Vs (As rfl) <| VList.nil <| Go (k + 1, ((L).getD (k) 0 != 0)) ⟨by omega, by first | (exact lost_yes oL (by rw [← hb]; exact Eq.symm (by assumption))) | (exact lost_no oL (by rw [← hb]; exact Eq.symm (by assumption)))⟩ Wk
      · replace hc2 := of_decide_eq_false hc2
        exact Ke <| Te <| Oe <| Ih <| Jg (b) (by rw [hb, show k = (n / 32).toNat by omega]) Wk
    · intro b hb
      change VCode _ _ _ 0 (sl _) (en _) _
      refine Sq <| Rg <| Vs (Mv rfl) <| Vs (Ls TK22 rfl) <| Vs (Mv rfl) <| Vs (Bo rfl quI) <| Vs (Bo rfl suI) <| Vs (Mk 5 TK22 rfl) <| Vs (As rfl) <| Nx <| Sq <| Sq <| Rg <| Vs (As rfl) <| Nx <| Bk <| VCode.loop (α := (Nat) × (List Int)) (fun x_ => match x_ with | (k, O) => (6, sl [(0, vS (L)), (1, vI .i64 (n)), (6, vB (b)), (8, .own 5 (((((L).length : Int) - (n / 32))).toNat)), (9, vI .i64 ((k : Int)))], en [(5, rowK .u32 (O))])) (fun x_ => match x_ with | (k, O) => RightInv L O (n / 32).toNat (n % 32).toNat k) (fun x_ => match x_ with | (k, O) => L.length - (n / 32).toNat - k) (0, List.replicate (((L).length : Int) - (n / 32)).toNat 0) (RightInv.start (by omega) (by simp; omega)) Wk ?_
      rintro ⟨k, O⟩ hok2
      change VCode _ _ _ 6 (sl _) (en _) _
      refine Sq <| Sq <| Rg <| Vs (Mv rfl) <| Vs (Mv rfl) <| Vs (Lo TU22 rfl) <| Vs (Bi rfl) <| Nx <| Cd rfl (fun hc4 => ?_) (fun hc4 => ?_)
      · replace hc4 := of_decide_eq_true hc4
        refine Ks <| Tg <| Sq <| Bk <| Sq <| ?_
        have hO := hok2.len
        have hi : (((k : Int)) + (n / 32)).toNat = k + (n / 32).toNat := (by omega)
        have hi1 : ((((k : Int)) + (n / 32)) + 1).toNat = (((k : Int)) + (n / 32)).toNat + 1 := (by omega)
        have hx := ok32_getD oL ((((k : Int)) + (n / 32)).toNat)
        have hy := ok32_getD oL ((((k : Int)) + (n / 32)).toNat + 1)
        have hy1 := ok32_getD oL (((((k : Int)) + (n / 32)) + 1).toNat)
        refine Rg <| Vs (Mv rfl) <| Vs (Mv rfl) <| Vs (Mv rfl) <| Vs (Bo rfl quI) <| Vs (Bo rfl adI) <| Vs (Ix TK22 rfl) <| Vs (Lq TA64 rfl) <| Vs (Cv TU64 TU65 rfl wrW) <| Vs (As rfl) <| Nx <| VCode.join (α := (Int)) (fun t => (6, sl [(0, vS (L)), (1, vI .i64 (n)), (6, vB (b)), (8, .own 5 (((((L).length : Int) - (n / 32))).toNat)), (9, vI .i64 ((k : Int))), (10, vI .u64 (t))], en [(5, rowK .u32 (O))])) (fun t => t = (L).getD ((((k : Int)) + (n / 32)).toNat) 0 + 4294967296 * (L).getD ((((k : Int)) + (n / 32)).toNat + 1) 0 ∧ 0 ≤ t ∧ t < 18446744073709551616) ?_ ?_
        · skip
          refine Sq <| Rg <| Vs (Mv rfl) <| Vs (Mv rfl) <| Vs (Bo rfl quI) <| Vs (Bo rfl adI) <| Vs (Bo rfl adI) <| Vs (Mv rfl) <| Vs (Ls TK22 rfl) <| Vs (Bi rfl) <| Nx <| Cd rfl (fun hc5 => ?_) (fun hc5 => ?_)
          · replace hc5 := of_decide_eq_true hc5
            exact Rg <| Vs (Mv rfl) <| Vs (Mv rfl) <| Vs (Mv rfl) <| Vs (Mv rfl) <| Vs (Bo rfl quI) <| Vs (Bo rfl adI) <| Vs (Bo rfl adI) <| Vs (Ix TK22 rfl) <| Vs (Lq TA64 rfl) <| Vs (Cv TU64 TU65 rfl wrW) <| Vs (Bo rfl muW) <| Vs (Bo rfl adW) <| Vs (As rfl) <| VList.nil <| Jg (((L).getD (((k : Int) + (n / 32))).toNat 0 + ((L).getD ((((k : Int) + (n / 32)) + 1)).toNat 0 * 4294967296))) ⟨by rw [hi1]; omega, by omega, by omega⟩ Wk
          · replace hc5 := of_decide_eq_false hc5
            exact Ks <| Jg ((L).getD (((k : Int) + (n / 32))).toNat 0) ⟨by rw [getD_out (L := L) (i := (((k : Int)) + (n / 32)).toNat + 1) (by omega)]; omega, by omega, by omega⟩ Wk
        · intro t ht0
          obtain ⟨ht, ht1, ht2⟩ := ht0
          have ht3 := Int.ediv_nonneg ht1 (Int.le_of_lt (two_pow_pos (n % 32).toNat))
          change VCode _ _ _ 6 (sl _) (en _) _
          exact Rg <| Vs (Mv rfl) <| Vs (Mv rfl) <| Vs (Mv rfl) <| Vs (Mv rfl) <| Vs (Bo rfl reI) <| Vs (Bo rfl shW) <| Vs (Cv TU65 TU64 rfl (wrapM_u32 _)) <| Vs (IrN TK22 rfl) <| Vs (SrK TS64 rfl) <| VList.nil <| Ig <| Tg <| Rg <| Vs (Mv rfl) <| Vs (Bo rfl adI) <| Vs (As rfl) <| VList.nil <| Go (k + 1, (O).set ((k)) ((((t / 2 ^ ((n % 32)).toNat)) % 4294967296))) (hok2.step oL hr (by omega) (by rw [← hi]; exact ht)) Wk
      · replace hc4 := of_decide_eq_false hc4
        refine Ke <| Te <| Oe <| Ih <| Tg <| Sq <| ?_
        have hO := hok2.len
        have hle := hok2.le
        obtain ⟨e1, e2⟩ := hok2.fin oL (by omega) hm
        refine Rg <| Vs (Mv rfl) <| Vs (Bo rfl reI) <| Vs (Bo (c := .int .u64 ((1 * 2 ^ ((n % 32)).toNat))) rfl (bop_shl_u64 (by omega) (by omega) (by omega))) <| Vs (Bo rfl suW) <| Vs (As rfl) <| Nx <| Sq <| Rd (by kernel_rfl) <| Vl (Mv rfl) <| Vl (Cc rfl (Rk (Rr rfl) Rz) (f66 _ (by first | omega | assumption | (simp; done) | (simp; omega)) (e2))) <| Vl (Mv rfl) <| Vl (Mv rfl) <| Sl 89 rfl (fun hc6 => ?_) (fun hc6 => ?_)
        · replace hc6 := hc6
          refine Lk rfl <| Lk rfl <| Lk rfl <| Lk rfl <| Lk rfl <| Lk rfl <| Lk rfl <| Lk rfl <| Lk rfl <| Vl (Pk rfl) <| Vl (As rfl) <| Vl (As rfl) <| ?_
          refine VLog.nil ⟨by kernel_rfl, ?_⟩
          exact Tg <| Re <| Fi (l := [u32S (dg (val (O))), boolB (true)]) (Rc (resVar_tmp rfl rfl) (Rc (resVar_tmp rfl rfl) Rn)) (by rw [lost_a oL hr hm hq (by rw [← hb]; exact Eq.symm (by assumption)), e1]; rfl)
        · replace hc6 := hc6
          refine Vl (Mv rfl) <| Vl (Mv rfl) <| Vl (Bo rfl quI) <| Vl (Ix TK22 rfl) <| Vl (Lq TA64 rfl) <| Vl (Cv TU64 TU65 rfl wrW) <| Vl (Mv rfl) <| Vl (Bo (c := .int .u64 (((L).getD ((n / 32)).toNat 0 % 2 ^ (n % 32).toNat))) rfl (bop_mask_u64 (q := 2 ^ (n % 32).toNat) (n % 32).toNat rfl (by omega) (by omega) (by omega))) <| Vl (Bi rfl) <| Vl (Pk rfl) <| Vl (As rfl) <| Vl (As rfl) <| ?_
          refine VLog.nil ⟨by kernel_rfl, ?_⟩
          exact Tg <| Re <| Fi (l := [u32S (dg (val (O))), boolB ((((L).getD ((n / 32)).toNat 0 % 2 ^ (n % 32).toNat) != 0))]) (Rc (resVar_tmp rfl rfl) (Rc (resVar_tmp rfl rfl) Rn)) (by rw [lost_b oL hr hm hq (by rw [← hb]; exact Eq.symm (by assumption)), e1]; rfl)
end Go.VL

/- Plain laws for the document's own functions: division, digit by digit. No program here. -/
set_option linter.unusedVariables false
set_option linter.unusedSimpArgs false
namespace Go.VL

structure LongInv (a b : Int) (O R : List Int) (p : Nat) : Prop where
  nR : norm R
  eR : val R = a / 2 ^ p % b
  oO : ok32 O
  eO : val O = 2 ^ p * (a / 2 ^ p / b)
theorem LongInv.start {a b : Int} {O : List Int} {p : Nat} (ha : 0 ≤ a) (hp : a < 2 ^ p) (hO : ∃ n, O = List.replicate n 0) : LongInv a b O [] p := by
  obtain ⟨n, rfl⟩ := hO
  have h : a / 2 ^ p = 0 := Int.ediv_eq_zero_of_lt ha hp
  refine ⟨⟨ok32_nil, .inl rfl⟩, ?_, ok32_replicate n, ?_⟩
  · rw [h]; simp [val]
  · rw [h, val_replicate]; simp
theorem half (a : Int) (p : Nat) : a / 2 ^ p = 2 * (a / 2 ^ (p + 1)) + a / 2 ^ p % 2 := by
  have : a / 2 ^ (p + 1) = a / 2 ^ p / 2 := by rw [Int.pow_succ, Int.ediv_ediv_of_nonneg (Int.le_of_lt (two_pow_pos p))]
  rw [this]; omega
theorem long_step {a b : Int} {p : Nat} (hb : 0 < b) {t R' : Int} (ht : t = a / 2 ^ p % 2) (hR : R' = 2 * (a / 2 ^ (p + 1) % b) + t) :
    (b ≤ R' → a / 2 ^ p / b = 2 * (a / 2 ^ (p + 1) / b) + 1 ∧ a / 2 ^ p % b = R' - b) ∧ (R' < b → a / 2 ^ p / b = 2 * (a / 2 ^ (p + 1) / b) ∧ a / 2 ^ p % b = R') := by
  have h := half a p
  rw [← ht] at h
  have e := Int.mul_ediv_add_emod (a / 2 ^ (p + 1)) b
  have r0 := Int.emod_nonneg (a / 2 ^ (p + 1)) (show b ≠ 0 by omega)
  have r1 := Int.emod_lt_of_pos (a / 2 ^ (p + 1)) hb
  have t0 : 0 ≤ t ∧ t ≤ 1 := by omega
  generalize a / 2 ^ (p + 1) = H at *
  generalize a / 2 ^ p = X at *
  generalize H / b = q at *
  generalize H % b = r at *
  have e2 : b * (2 * q) = 2 * (b * q) := by rw [Int.mul_left_comm]
  constructor
  · intro hc
    refine (Int.ediv_emod_unique hb).2 ⟨?_, by omega, by omega⟩
    rw [Int.mul_add, e2]; omega
  · intro hc
    refine (Int.ediv_emod_unique hb).2 ⟨?_, by omega, by omega⟩
    rw [e2]; omega
theorem word_room {O : List Int} {k r : Nat} {X : Int} (oO : ok32 O) (hk : k < O.length) (hr : r < 32) (h : val O = 2 ^ (32 * k + r + 1) * X) : O.getD k 0 + 1 * 2 ^ r < 4294967296 := by
  have h1 := (val_div_words oO (Nat.le_of_lt hk)).1
  have e : (2 : Int) ^ (32 * k + r + 1) * X = 4294967296 ^ k * (2 ^ (r + 1) * X) := by rw [show 32 * k + r + 1 = 32 * k + (r + 1) by omega, words_two, Int.mul_assoc]
  rw [h, e, Int.mul_ediv_cancel_left _ (by have := pow_pos k; omega), val_drop_step O k hk] at h1
  have hx := ok32_getD oO k
  obtain ⟨s, hs⟩ : ∃ s, 31 = r + s := ⟨31 - r, by omega⟩
  have e2 : (4294967296 : Int) = 2 ^ (r + 1) * 2 ^ s := by
    rw [← Int.pow_add, show r + 1 + s = 32 by omega]; rfl
  have hp : (2 : Int) ^ (r + 1) = 2 * 2 ^ r := by rw [Int.pow_succ, Int.mul_comm]
  have hw : O.getD k 0 = 2 ^ (r + 1) * (X - 2 ^ s * val (O.drop (k + 1))) := by
    rw [Int.mul_sub, ← Int.mul_assoc, ← e2]; omega
  have hr0 := two_pow_pos r
  have hs0 := two_pow_pos s
  generalize X - 2 ^ s * val (O.drop (k + 1)) = Y at hw
  have hlt : Y < 2 ^ s := by
    apply Classical.byContradiction
    intro hc
    have := Int.mul_le_mul_of_nonneg_left (show (2 : Int) ^ s ≤ Y by omega) (show (0 : Int) ≤ 2 ^ (r + 1) by omega)
    rw [← e2, ← hw] at this
    omega
  have h3 := Int.mul_le_mul_of_nonneg_left (show Y ≤ 2 ^ s - 1 by omega) (show (0 : Int) ≤ 2 ^ (r + 1) by omega)
  rw [← hw, Int.mul_sub, ← e2] at h3
  omega
theorem LongInv.yes {a b : Int} {O R : List Int} {p k r : Nat} {Rn : List Int} (hb : 0 < b) (h : LongInv a b O R (p + 1)) (hk : k < O.length) (hp : p = 32 * k + r) (hr : r < 32) (hn : norm Rn) (hv : val Rn = 2 * val R + a / 2 ^ p % 2 - b) (hc : b ≤ 2 * val R + a / 2 ^ p % 2) :
    LongInv a b (O.set k (O.getD k 0 + 1 * 2 ^ r)) Rn p := by
  have hw := word_room h.oO hk hr (by rw [← hp]; exact h.eO)
  have hx := ok32_getD h.oO k
  have h2 := two_pow_pos r
  obtain ⟨s1, s2⟩ := (long_step hb rfl rfl).1 (by rw [← h.eR]; exact hc)
  refine ⟨hn, by rw [s2, ← h.eR]; exact hv, ok32_set h.oO k ⟨by omega, hw⟩, ?_⟩
  rw [val_set _ _ _ hk, s1, h.eO, Int.pow_succ, Int.mul_add, hp, words_two]
  have e : O.getD k 0 + 1 * 2 ^ r - O.getD k 0 = 2 ^ r := by omega
  rw [e, Int.mul_assoc, Int.mul_assoc, Int.mul_assoc, Int.mul_one]
theorem LongInv.no {a b : Int} {O R : List Int} {p : Nat} {Rn : List Int} (hb : 0 < b) (h : LongInv a b O R (p + 1)) (hn : norm Rn) (hv : val Rn = 2 * val R + a / 2 ^ p % 2) (hc : 2 * val R + a / 2 ^ p % 2 < b) :
    LongInv a b O Rn p := by
  obtain ⟨s1, s2⟩ := (long_step hb rfl rfl).2 (by rw [← h.eR]; exact hc)
  refine ⟨hn, by rw [s2, ← h.eR]; exact hv, h.oO, ?_⟩
  rw [s1, h.eO, Int.pow_succ, Int.mul_assoc]
theorem LongInv.fin {a b : Int} {O R : List Int} (h : LongInv a b O R 0) : val O = a / b ∧ dg (a % b) = R := by
  have e : a / 2 ^ 0 = a := by simp
  have h1 := h.eO
  have h2 := h.eR
  rw [e] at h1 h2
  exact ⟨by rw [h1]; simp, by rw [← h2]; exact dg_val h.nR⟩
theorem LongInv.len {a b : Int} {O R B : List Int} {p : Nat} (h : LongInv a b O R p) (nB : norm B) (hb : b = val B) (h0 : 0 < b) : R.length ≤ B.length := by
  refine norm_le_len h.nR nB ?_
  rw [h.eR, ← hb]
  exact Int.le_of_lt (Int.emod_lt_of_pos _ h0)
theorem blen_two {v : Int} (h : 0 ≤ v) : v < 2 ^ blen v.toNat := by
  have h1 := (blen_lt (blen v.toNat) v.toNat).1 (Nat.le_refl _)
  have h2 : ((v.toNat : Nat) : Int) < ((2 ^ blen v.toNat : Nat) : Int) := Int.ofNat_lt.2 h1
  rw [two_cast] at h2
  omega
theorem blen_words {L : List Int} (h : ok32 L) : blen (val L).toNat ≤ 32 * L.length := by
  refine (blen_lt _ _).2 ?_
  have h1 := val_lt h
  rw [← pow_two_words] at h1
  have h2 : ((val L).toNat : Int) < ((2 ^ (32 * L.length) : Nat) : Int) := by rw [two_cast, Int.toNat_of_nonneg (val_nonneg h)]; exact h1
  exact Int.ofNat_lt.1 h2
theorem dbl_len {R : List Int} {b : Int} (oR : ok32 R) (h : R.length ≤ 300000000) (b0 : 0 ≤ b) (b1 : b < 2) : (dg (2 * val R + b)).length ≤ 900000000 := by
  have v0 := val_nonneg oR
  have v1 := val_lt oR
  have h2 := (len_dg (show 0 ≤ 2 * val R + b by omega) (R.length + 1)).2 (by
    rw [Int.pow_succ]
    have := pow_pos R.length
    omega)
  omega
end Go.VL

/- Walks over the Go functions, printed by a program of this session over the kit's print, and by hand. -/
set_option linter.unusedVariables false
set_option linter.unusedSimpArgs false
namespace Go.VL
open Go.Proofs
theorem f55 (A B : List Int) (hA : A.length ≤ 300000000) (hB : B.length ≤ 300000000) (nA : norm A) (nB : norm B) (h0 : 0 < val B) : VF Tryz.prog 88 [u32S (A), u32S (B)] (.tup [u32S (dg (val A / val B)), u32S (dg (val A % val B))]) := by
  refine VF_of P_mixed Tryz.func88 rfl rfl (by kernel_rfl) <| Sq <| Rg <| Vs (As rfl) <| Vs (As rfl) <| Nx <| Sq <| Sq <| ?_
  have vA := val_nonneg nA.1
  have hbw := blen_words nA.1
  refine Rg <| Vs (Mv rfl) <| Vs (Ls TK22 rfl) <| Vs (Bi rfl) <| Nx <| Cd rfl (fun hc1 => ?_) (fun hc1 => ?_)
  · replace hc1 := eq_of_beq hc1
    refine Sq <| ?_
    have h1w := one_word (B := B) (by omega)
    have hb0 := ok32_getD nB.1 0
    have hm0 := Int.emod_nonneg (val A) (show B.getD 0 0 ≠ 0 by omega)
    have hm1 := Int.emod_lt_of_pos (val A) (show 0 < B.getD 0 0 by omega)
    exact Rg <| Vs (Mv rfl) <| Vs (Mv rfl) <| Vs (IxN (q := 0) TK22 rfl) <| Vs (Lq TA64 rfl) <| Vs (C0 rfl rfl (f61 _ _ (by first | omega | assumption | (simp; done) | (simp; omega)) (nA.1) (by omega) (by omega))) <| Vs (Mv rfl) <| Vs (Xt rfl) <| Vs (Xt rfl) <| Vs (As rfl) <| Vs (As rfl) <| Nx <| Sq <| Rg <| Vs (Mv rfl) <| Vs (Mv rfl) <| Vs (L1s 17 TK22 rfl) <| Vs (Cc rfl (Rk (Rr rfl) Rz) (f66 _ (by simp) (ok32_cons.2 ⟨by omega, ok32_nil⟩))) <| Vs (As rfl) <| Vs (As rfl) <| Nx <| Re <| Tr <| Fi (l := [u32S (dg (val (A) / ((B).getD 0 0))), u32S (dg (val ([(val (A) % ((B).getD 0 0))])))]) (Rc (resVar_tmp rfl rfl) (Rc (resVar_tmp rfl rfl) Rn)) (by rw [h1w, show val [val A % B.getD 0 0] = val A % B.getD 0 0 by simp [val]]; rfl)
  · replace hc1 := ne_of_beq_false hc1
    refine Ks <| Tg <| Sq <| Rg <| Vs (As rfl) <| Nx <| Sq <| Rg <| Vs (Mv rfl) <| Vs (Ls TK22 rfl) <| Vs (Mk 8 TK22 rfl) <| Vs (As rfl) <| Nx <| Sq <| Sq <| Rg <| Vs (Mv rfl) <| Vs (Cf rfl rfl (f78 _ (by first | omega | assumption | (simp; done) | (simp; omega)) (nA)) rfl) <| Vs (Bo rfl suI) <| Vs (As rfl) <| Nx <| Bk <| VCode.loop (α := (Int) × (List Int) × (List Int)) (fun x_ => match x_ with | (q, O, R) => (9, sl [(0, vS (A)), (1, vS (B)), (8, vS (R)), (9, .own 8 ((((A).length : Int)).toNat)), (10, vI .i64 (q))], en [(8, rowK .u32 (O))])) (fun x_ => match x_ with | (q, O, R) => LongInv (val A) (val B) O R (q + 1).toNat ∧ O.length = A.length ∧ -1 ≤ q ∧ q + 1 ≤ 32 * (A.length : Int)) (fun x_ => match x_ with | (q, O, R) => (q + 1).toNat) (((blen (val (A)).toNat : Nat) : Int) - 1, List.replicate (((A).length : Int)).toNat 0, []) ⟨LongInv.start vA (by rw [show (((blen (val (A)).toNat : Nat) : Int) - 1 + 1).toNat = blen (val A).toNat by omega]; exact blen_two vA) ⟨_, rfl⟩, by simp, by omega, by omega⟩ Wk ?_
    rintro ⟨q, O, R⟩ hok0
    obtain ⟨hok, hO, hq1, hq2⟩ := hok0
    have lR := hok.len nB rfl h0
    have vR := val_nonneg hok.nR.1
    change VCode _ _ _ 9 (sl _) (en _) _
    refine Sq <| Sq <| Rg <| Vs (Mv rfl) <| Vs (Bi rfl) <| Nx <| Cd rfl (fun hc2 => ?_) (fun hc2 => ?_)
    · replace hc2 := of_decide_eq_true hc2
      refine Ks <| Tg <| Sq <| Bk <| Sq <| ?_
      have hq3 : LongInv (val A) (val B) O R (q.toNat + 1) := by rw [show q.toNat + 1 = (q + 1).toNat by omega]; exact hok
      have hbit := Int.emod_nonneg (val A / 2 ^ q.toNat) (show (2 : Int) ≠ 0 by omega)
      have hbit1 := Int.emod_lt_of_pos (val A / 2 ^ q.toNat) (show (0 : Int) < 2 by omega)
      have hlen2 : (dg (2 * val R + (val (A) / 2 ^ (q).toNat % 2))).length ≤ 900000000 := dbl_len hok.nR.1 (by omega) (by omega) (by omega)
      refine Rg <| Vs (Mv rfl) <| Vs (Mv rfl) <| Vs (Mv rfl) <| Vs (Cf rfl rfl (f70 _ _ (by omega) (nA.1) (by omega) (by omega)) rfl) <| Vs (C0 rfl rfl (f79 _ _ (by omega) (hok.nR.1) (by omega) (by omega))) <| Vs (As rfl) <| Nx <| Sq <| Rg <| Vs (Mv rfl) <| Vs (Mv rfl) <| Vs (Cf rfl rfl (f72 _ _ (hlen2) (by omega) (ok32_dg _) (nB.1) (fun h => cmp_len (norm_dg _) nB h)) rfl) <| Vs (Bi rfl) <| Nx <| Cd rfl (fun hc3 => ?_) (fun hc3 => ?_)
      · replace hc3 := of_decide_eq_true hc3
        refine Sq <| ?_
        have hge := cmp3_ge (by assumption)
        refine Rg <| Vs (Mv rfl) <| Vs (Mv rfl) <| Vs (C0 rfl rfl (f57 _ _ (hlen2) (by first | omega | assumption | (simp; done) | (simp; omega)) (ok32_dg _) (nB.1) (norm_le_len nB (norm_dg _) hge) (hge))) <| Vs (As rfl) <| Nx <| ?_
        have hroom := word_room (k := (q / 32).toNat) (r := (q % 32).toNat) hq3.oO (by omega) (by omega) (by rw [show 32 * (q / 32).toNat + (q % 32).toNat + 1 = q.toNat + 1 by omega]; exact hq3.eO)
        have hwx := ok32_getD hq3.oO (q / 32).toNat
        have h2p := two_pow_pos (q % 32).toNat
        have h3p := two_pow_lt (r := (q % 32).toNat) (by omega)
        refine Rd (by kernel_rfl) <| Vl (Mv rfl) <| Vl (Mv rfl) <| Vl (Bo rfl quI) <| Vl (Mv rfl) <| Vl (Mv rfl) <| Vl (Bo rfl quI) <| Vl (Ir TK22 rfl) <| Vl (LrK TA64 rfl) <| Vl (Mv rfl) <| Vl (Bo rfl reI) <| Vl (Bo (c := .int .u32 ((1 * 2 ^ ((q % 32)).toNat))) rfl (bop_shl_u32 (by omega) (by omega) (by omega))) <| Vl (Bo rfl adD) <| Vl (Ir TK22 rfl) <| Vl (SrK TS64 rfl) <| ?_
        refine VLog.nil ⟨by kernel_rfl, ?_⟩
        exact Ig <| Tg <| Rg <| Vs (Mv rfl) <| Vs (Bo rfl suI) <| Vs (As rfl) <| VList.nil <| Go (q - 1, (O).set (((q / 32)).toNat) (((O).getD (((q / 32)).toNat) 0 + (1 * 2 ^ ((q % 32)).toNat))), dg (val (dg (2 * val (R) + (val (A) / 2 ^ (q).toNat % 2))) - val (B))) (by first | exact ⟨by rw [show (q - 1 + 1).toNat = q.toNat by omega]; exact LongInv.yes h0 hq3 (by omega) (by omega) (by omega) (norm_dg _) (by rw [val_dg (by omega), val_dg (by omega)]) (by rw [val_dg (by omega)] at hge; exact hge), by simp [hO], by omega, by omega⟩ | exact ⟨by rw [show (q - 1 + 1).toNat = q.toNat by omega]; exact LongInv.no h0 hq3 (norm_dg _) (by rw [val_dg (by omega)]) (by have h := cmp3_nge (by assumption); rwa [val_dg (by omega)] at h), hO, by omega, by omega⟩) Wk
      · replace hc3 := of_decide_eq_false hc3
        exact Ks <| Ig <| Tg <| Rg <| Vs (Mv rfl) <| Vs (Bo rfl suI) <| Vs (As rfl) <| VList.nil <| Go (q - 1, O, dg (2 * val (R) + (val (A) / 2 ^ (q).toNat % 2))) (by first | exact ⟨by rw [show (q - 1 + 1).toNat = q.toNat by omega]; exact LongInv.yes h0 hq3 (by omega) (by omega) (by omega) (norm_dg _) (by rw [val_dg (by omega), val_dg (by omega)]) (by rw [val_dg (by omega)] at hge; exact hge), by simp [hO], by omega, by omega⟩ | exact ⟨by rw [show (q - 1 + 1).toNat = q.toNat by omega]; exact LongInv.no h0 hq3 (norm_dg _) (by rw [val_dg (by omega)]) (by have h := cmp3_nge (by assumption); rwa [val_dg (by omega)] at h), hO, by omega, by omega⟩) Wk
    · replace hc2 := of_decide_eq_false hc2
      refine Ke <| Te <| Oe <| Ih <| Tg <| Sq <| ?_
      have hfin : LongInv (val A) (val B) O R 0 := by rw [show (0 : Nat) = (q + 1).toNat by omega]; exact hok
      obtain ⟨f1, f2⟩ := hfin.fin
      exact Rg <| Vs (Mv rfl) <| Vs (Cc rfl (Rk (Rr rfl) Rz) (f66 _ (by first | omega | assumption | (simp; done) | (simp; omega)) (hfin.oO))) <| Vs (Mv rfl) <| Vs (As rfl) <| Vs (As rfl) <| Nx <| Re <| Fi (l := [u32S (dg (val (O))), u32S (R)]) (Rc (resVar_tmp rfl rfl) (Rc (resVar_tmp rfl rfl) Rn)) (by rw [f2, f1]; rfl)
end Go.VL

/- Walks over the Go functions, printed by a program of this session over the kit's print, and by hand. -/
set_option linter.unusedVariables false
set_option linter.unusedSimpArgs false
namespace Go.VL
open Go.Proofs
theorem f19 (n : Bool) (A : List Int) (m : Bool) (B : List Int) (hA : A.length ≤ 9223372036854775807) (hB : B.length ≤ 9223372036854775807) (oA : ok32 A) (oB : ok32 B) : VF Tryz.prog 60 [.agg [boolB (n), u32S (A)], .agg [boolB (m), u32S (B)]] (dmR (validB n A && validB m B) (zOf n A) (zOf m B)) := by
  refine VF_of P_mixed Tryz.func60 rfl rfl (by kernel_rfl) <| Sq <| Rg <| Vs (Bx 0 rfl) <| Vs (Bx 1 rfl) <| Vs (Al 2 TZ24 rfl) <| Vs (Al 3 TZ24 rfl) <| Vs (As rfl) <| Nx <| Sq <| Sq <| Rg <| Vs (LdS TA24 TS24 rfl) <| Vs (Cf rfl rfl (f26 _ _ (by first | omega | assumption | (simp; done) | (simp; omega))) rfl) <| Vs (Un rfl) <| Vs (Mv rfl) <| Sp 16 rfl (fun hc1 => ?_) (fun hc1 => ?_)
  · replace hc1 := (bnot_t hc1)
    exact Sk rfl <| Sk rfl <| Sk rfl <| Vs (Pk rfl) <| Nx <| Cy rfl <| Sq <| Rg <| Vs (Bd TQ24 rfl) <| Vs (Bd TQ24 rfl) <| Vs (StS TS24 rfl) <| Vs (StS TS24 rfl) <| Vs (As rfl) <| Nx <| Re <| Tr <| Fi (l := [.agg [boolB (false), u32S ([])], .agg [boolB (false), u32S ([])], numB .i64 (1)]) (Rc (resVar_cell rfl rfl TA24 TS24 (Nat.le_of_ble_eq_true rfl) rfl) (Rc (resVar_cell rfl rfl TA24 TS24 (Nat.le_of_ble_eq_true rfl) rfl) (Rc (resVar_tmp rfl rfl) Rn))) (by rw [dmR_bad (by simp [*])]; rfl)
  · replace hc1 := (bnot_f hc1)
    refine Vs (LdS TA24 TS24 rfl) <| Vs (Cf rfl rfl (f26 _ _ (by first | omega | assumption | (simp; done) | (simp; omega))) rfl) <| Vs (Un rfl) <| Vs (Pk rfl) <| Nx <| Cd rfl (fun hc2 => ?_) (fun hc2 => ?_)
    · replace hc2 := (bnot_t hc2)
      exact Sq <| Rg <| Vs (Bd TQ24 rfl) <| Vs (Bd TQ24 rfl) <| Vs (StS TS24 rfl) <| Vs (StS TS24 rfl) <| Vs (As rfl) <| Nx <| Re <| Tr <| Fi (l := [.agg [boolB (false), u32S ([])], .agg [boolB (false), u32S ([])], numB .i64 (1)]) (Rc (resVar_cell rfl rfl TA24 TS24 (Nat.le_of_ble_eq_true rfl) rfl) (Rc (resVar_cell rfl rfl TA24 TS24 (Nat.le_of_ble_eq_true rfl) rfl) (Rc (resVar_tmp rfl rfl) Rn))) (by rw [dmR_bad (by simp [*])]; rfl)
    · replace hc2 := (bnot_f hc2)
      refine Ks <| Tg <| Sq <| Sq <| ?_
      have va : validB n A = true := by assumption
      have vb : validB m B = true := by assumption
      have hv := vv va vb
      obtain ⟨nA, lA, sA⟩ := valid_norm oA va
      obtain ⟨nB, lB, sB⟩ := valid_norm oB vb
      have vA := val_nonneg oA
      have vB_ := val_nonneg oB
      refine Rg <| Vs (Fa TF24_1 rfl) <| Vs (Ld TA22 rfl) <| Vs (Ls TK22 rfl) <| Vs (Bi rfl) <| Nx <| Cd rfl (fun hc3 => ?_) (fun hc3 => ?_)
      · replace hc3 := eq_of_beq hc3
        exact Sq <| Rg <| Vs (Bd TQ24 rfl) <| Vs (Bd TQ24 rfl) <| Vs (StS TS24 rfl) <| Vs (StS TS24 rfl) <| Vs (As rfl) <| Nx <| Re <| Tr <| Fi (l := [.agg [boolB (false), u32S ([])], .agg [boolB (false), u32S ([])], numB .i64 (4)]) (Rc (resVar_cell rfl rfl TA24 TS24 (Nat.le_of_ble_eq_true rfl) rfl) (Rc (resVar_cell rfl rfl TA24 TS24 (Nat.le_of_ble_eq_true rfl) rfl) (Rc (resVar_tmp rfl rfl) Rn))) (by rw [dmR_zero hv (by rw [zOf, norm_zero nB (by omega), sg_zero])]; rfl)
      · replace hc3 := ne_of_beq_false hc3
        refine Ks <| Tg <| Sq <| ?_
        have vA := val_nonneg oA
        have bP := norm_pos nB (fun e => hc3 (by rw [e]; rfl))
        have q0 := Int.ediv_nonneg vA (Int.le_of_lt bP)
        have m0 := Int.emod_nonneg (val A) (show val B ≠ 0 by omega)
        have m1 := Int.emod_lt_of_pos (val A) bP
        have hq1 : (dg (val A / val B)).length ≤ 128 := Nat.le_trans (len_le oA q0 (Int.ediv_le_self _ vA)) lA
        have hr1 : (dg (val A % val B)).length ≤ B.length := len_le oB m0 (Int.le_of_lt m1)
        have hy : zOf m B ≠ 0 := fun e => (by have := sg_zero.1 e; omega)
        refine Rg <| Vs (Fa TF24_1 rfl) <| Vs (Ld TA22 rfl) <| Vs (Fa TF24_1 rfl) <| Vs (Ld TA22 rfl) <| Vs (C0 rfl rfl (f55 _ _ (by first | omega | assumption | (simp; done) | (simp; omega)) (by first | omega | assumption | (simp; done) | (simp; omega)) (nA) (nB) (bP))) <| Vs (Mv rfl) <| Vs (Xt rfl) <| Vs (Xt rfl) <| Vs (As rfl) <| Vs (As rfl) <| Nx <| VCode.join (α := (List Int) × (List Int)) (fun x_ => match x_ with | (Q, R) => (4, sl [(2, .ptr 0 (0)), (3, .ptr 1 (0)), (4, .ptr 2 (0)), (5, .ptr 3 (0)), (7, vS (Q)), (8, vS (R))], en [(0, ⟨2, [vB (n), vS (A)], true⟩), (1, ⟨2, [vB (m), vS (B)], true⟩), (2, ⟨2, [vB (false), vS ([])], true⟩), (3, ⟨2, [vB (false), vS ([])], true⟩)])) (fun x_ => match x_ with | (Q, R) => (norm Q ∧ norm R) ∧ (sg (!(n == m)) (val Q) = (zOf n A).fdiv (zOf m B) ∧ sg m (val R) = (zOf n A).fmod (zOf m B)) ∧ Q.length ≤ 1000000000 ∧ R.length ≤ 1000000000) ?_ ?_
        · skip
          refine Sq <| Rg <| Vs (Fa TF24_0 rfl) <| Vs (Ld TA4 rfl) <| Vs (Fa TF24_0 rfl) <| Vs (Ld TA4 rfl) <| Vs (Bb TU4 rfl) <| Vs (Mv rfl) <| Sp 42 rfl (fun hc4 => ?_) (fun hc4 => ?_)
          · replace hc4 := ne_of_beq_false (bnot_t hc4)
            refine Vs (Mv rfl) <| Vs (Ls TK22 rfl) <| Vs (Bi rfl) <| Vs (Pk rfl) <| Nx <| Cd rfl (fun hc5 => ?_) (fun hc5 => ?_)
            · replace hc5 := of_decide_eq_true hc5
              exact Sq <| Rg <| Vs (Mv rfl) <| Vs (L1s 38 TK22 rfl) <| Vs (Cc rfl (Rk rfl (Rk (Rr rfl) Rz)) (f56 _ _ (by first | omega | assumption | (simp; done) | (simp; omega)) (by first | omega | assumption | (simp; done) | (simp; omega)) (ok32_dg _) (ok32_cons.2 ⟨by omega, ok32_nil⟩))) <| Vs (As rfl) <| Nx <| Rg <| Vs (Fa TF24_1 rfl) <| Vs (Ld TA22 rfl) <| Vs (Mv rfl) <| Vs (C0 rfl rfl (f57 _ _ (by first | omega | assumption | (simp; done) | (simp; omega)) (by first | omega | assumption | (simp; done) | (simp; omega)) (oB) (ok32_dg _) (norm_le_len (norm_dg _) nB (by rw [val_dg m0]; omega)) ((by rw [val_dg m0]; omega)))) <| Vs (As rfl) <| VList.nil <| Jg (dg (val (dg (val A / val B)) + val ([1])), dg (val B - val (dg (val A % val B)))) (by obtain ⟨e1, e2⟩ := fdiv_odd (a := val A) hc4 vA bP (by have := dg_nil m0; omega); refine ⟨⟨norm_dg _, norm_dg _⟩, ⟨?_, ?_⟩, add_len (ok32_dg _) (B := [1]) (ok32_cons.2 ⟨by omega, ok32_nil⟩) hq1 (by simp), sub_len oB (ok32_dg _) lB⟩; rw [zOf, zOf, e1, val_dg q0, val_dg (by simp [val]; omega)]; simp [sg, hc4, val]; rw [zOf, zOf, e2, val_dg m0, val_dg (by omega)]) Wk
            · replace hc5 := of_decide_eq_false hc5
              exact Ks <| Jg (dg (val A / val B), dg (val A % val B)) (by obtain ⟨e1, e2⟩ := fdiv_even (a := val A) hc4 vA bP (by have := dg_nil m0; omega); refine ⟨⟨norm_dg _, norm_dg _⟩, ⟨?_, ?_⟩, by omega, by omega⟩; rw [zOf, zOf, e1, val_dg q0]; simp [sg, hc4]; rw [zOf, zOf, e2, val_dg m0]) Wk
          · replace hc4 := eq_of_beq (bnot_f hc4)
            exact Sk rfl <| Sk rfl <| Sk rfl <| Vs (Pk rfl) <| Nx <| Cz rfl <| Ks <| Jg (dg (val A / val B), dg (val A % val B)) (by subst hc4; obtain ⟨e1, e2⟩ := fdiv_same (n := n) vA bP; refine ⟨⟨norm_dg _, norm_dg _⟩, ⟨?_, ?_⟩, by omega, by omega⟩; rw [zOf, zOf, e1, val_dg q0]; simp [sg]; rw [zOf, zOf, e2, val_dg m0]) Wk
        · rintro ⟨Q, R⟩ hok
          obtain ⟨⟨nQ, nR⟩, ⟨j3, j4⟩, j5, j6⟩ := hok
          change VCode _ _ _ 4 (sl _) (en _) _
          refine Sq <| Rg <| Vs (Fa TF24_0 rfl) <| Vs (Ld TA4 rfl) <| Vs (Fa TF24_0 rfl) <| Vs (Ld TA4 rfl) <| Vs (Bb TU4 rfl) <| Vs (Mv rfl) <| Vs (C0 rfl rfl (f58 _ _ (by first | omega | assumption | (simp; done) | (simp; omega)) (nQ.1))) <| Vs (Mv rfl) <| Vs (Xt rfl) <| Vs (Xt rfl) <| Vs (Al 14 TZ24 rfl) <| Vs (StS TS24 rfl) <| Vs (As rfl) <| Nx <| Sq <| Sq <| Rg <| Vs (Mv rfl) <| Vs (Bi rfl) <| Nx <| Cd rfl (fun hc6 => ?_) (fun hc6 => ?_)
          · replace hc6 := bne_iff_ne.1 hc6
            exact Sq <| Rg <| Vs (Bd TQ24 rfl) <| Vs (Bd TQ24 rfl) <| Vs (Mv rfl) <| Vs (StS TS24 rfl) <| Vs (StS TS24 rfl) <| Vs (As rfl) <| Nx <| Re <| Tr <| Fi (l := [.agg [boolB (false), u32S ([])], .agg [boolB (false), u32S ([])], numB .i64 (zE (sg ((!(n == m))) (val (Q))))]) (Rc (resVar_cell rfl rfl TA24 TS24 (Nat.le_of_ble_eq_true rfl) rfl) (Rc (resVar_cell rfl rfl TA24 TS24 (Nat.le_of_ble_eq_true rfl) rfl) (Rc (resVar_tmp rfl rfl) Rn))) (by rw [dmR_big hv hy (by rw [← j3]; exact hc6), ← j3]; rfl)
          · replace hc6 := bne_eq_false_iff_eq.1 hc6
            refine Ks <| Tg <| Sq <| Rg <| Vs (Fa TF24_0 rfl) <| Vs (Ld TA4 rfl) <| Vs (Mv rfl) <| Vs (C0 rfl rfl (f58 _ _ (by first | omega | assumption | (simp; done) | (simp; omega)) (nR.1))) <| Vs (Mv rfl) <| Vs (Xt rfl) <| Vs (Xt rfl) <| Vs (Al 26 TZ24 rfl) <| Vs (StS TS24 rfl) <| Vs (As rfl) <| Nx <| Sq <| Rd (by kernel_rfl) <| Vl (LdS TA24 TS24 rfl) <| Vl (LdS TA24 TS24 rfl) <| Vl (StS TS24 rfl) <| Vl (StS TS24 rfl) <| Vl (As rfl) <| ?_
            refine VLog.nil ⟨by kernel_rfl, ?_⟩
            exact Tg <| Re <| Fi (l := [.agg [boolB (zN (sg ((!(n == m))) (val (Q)))), u32S (zL (sg ((!(n == m))) (val (Q))))], .agg [boolB (zN (sg (m) (val (R)))), u32S (zL (sg (m) (val (R))))], numB .i64 (0)]) (Rc (resVar_cell rfl rfl TA24 TS24 (Nat.le_of_ble_eq_true rfl) rfl) (Rc (resVar_cell rfl rfl TA24 TS24 (Nat.le_of_ble_eq_true rfl) rfl) (Rc (resVar_tmp rfl rfl) Rn))) (by rw [dmR_ok hv hy (by rw [← j3]; exact hc6), ← j3, ← j4]; rfl)
end Go.VL

/- Plain laws for the document's own functions: texts. No program here. -/
set_option linter.unusedVariables false
set_option linter.unusedSimpArgs false
namespace Go.VL

theorem bytesOf_cons (x : Int) (L : List Int) : bytesOf [x] ++ bytesOf L = bytesOf (x :: L) := by
  refine ByteArray.ext (Array.ext' ?_)
  rw [ByteArray.data_append]
  show (([x].map byteOf).toArray ++ (L.map byteOf).toArray).toList = ((x :: L).map byteOf).toArray.toList
  simp
theorem minus_b : (⟨#[45]⟩ : ByteArray) = bytesOf [45] := rfl
theorem str_add {x y : ByteArray} (h : x.size + y.size ≤ 9223372036854775807) : bop .add (.string x) (.string y) = some (.string (x ++ y)) := by
  simp only [bop]; rw [if_pos h]
def TInv (v : Int) (L D : List Int) : Prop := (D = [] ∧ val L = v) ∨ (D ≠ [] ∧ txD v = D ++ dd (val L).toNat)
theorem TInv.step {v : Int} {L D : List Int} (h : TInv v L D) (hv : 0 ≤ val L) (hc : 0 < val L ∨ D = []) : TInv v (dg (val L / 10)) (D ++ [48 + val L % 10]) := by
  refine .inr ⟨by simp, ?_⟩
  rw [val_dg (by omega), List.append_assoc]
  rcases h with ⟨h1, h2⟩ | ⟨h1, h2⟩
  · subst h1
    rw [h2]
    unfold txD
    split
    · rename_i h0; subst h0; rw [show ((0 : Int) / 10).toNat = 0 from rfl, dd_zero]; rfl
    · rw [dd_pos (by omega)]
      have e1 : ((v.toNat % 10 : Nat) : Int) = v % 10 := by omega
      have e2 : v.toNat / 10 = (v / 10).toNat := by omega
      rw [e1, e2]; rfl
  · have hp : 0 < val L := hc.resolve_right h1
    rw [h2, dd_pos (by omega)]
    have e1 : (((val L).toNat % 10 : Nat) : Int) = val L % 10 := by omega
    have e2 : (val L).toNat / 10 = (val L / 10).toNat := by omega
    rw [e1, e2]; rfl
theorem TInv.done {v : Int} {L D : List Int} (h : TInv v L D) (hL : L.length = 0) (hD : D ≠ []) : txD v = D := by
  rcases h with ⟨h1, _⟩ | ⟨_, h2⟩
  · exact absurd h1 hD
  · have : L = [] := List.length_eq_zero_iff.1 hL
    subst this
    rw [h2, show (val []).toNat = 0 from rfl, dd_zero, List.append_nil]
theorem TInv.len {v : Int} {L D : List Int} (h : TInv v L D) : D.length ≤ (txD v).length := by
  rcases h with ⟨h1, _⟩ | ⟨_, h2⟩
  · subst h1; simp
  · rw [h2]; simp
theorem of_empty {D : List Int} (h : bytesOf D.reverse = ⟨#[]⟩) : D = [] := by
  have := congrArg ByteArray.size h
  rw [bytesOf_size] at this
  have e : (⟨#[]⟩ : ByteArray).size = 0 := rfl
  rw [e, List.length_reverse] at this
  exact List.length_eq_zero_iff.1 this
theorem tx_fin {n : Bool} {v : Int} {D : List Int} (hv : 0 ≤ v) (hn : n = true → 0 < v) (hD : txD v = D) : txB (sg n v) = if n = true then ⟨#[45]⟩ ++ bytesOf D.reverse else bytesOf D.reverse := by
  unfold txB
  rw [txL_sg hv hn, hD]
  split
  · rw [minus_b, bytesOf_cons]; simp
  · simp
/-- Reading. -/
theorem neg_size_lt {s : ByteArray} : decide (((digS s).size : Int) < (s.size : Int)) = negS s := by
  by_cases h : negS s = true
  · have h0 := neg_size h
    rw [h, decide_eq_true_iff, ← dig_yes h, ByteArray.size_extract]; omega
  · have h' : negS s = false := by simpa using h
    rw [h', decide_eq_false_iff_not, ← dig_no h']; omega
theorem pvn_mono {d : ByteArray} (hd : ∀ i, i < d.size → 48 ≤ at8 d i ∧ at8 d i ≤ 57) {i : Nat} : ∀ k, pvn d i ≤ pvn d (i + k)
  | 0 => Int.le_refl _
  | k + 1 => by
    have ih := pvn_mono hd (i := i) k
    have h0 := (pvn_range hd (i + k)).1
    by_cases h : i + k < d.size
    · rw [← Nat.add_assoc, pvn_step h]
      have := hd _ h
      omega
    · rw [pvn_out (i := i + (k + 1)) (j := i + k) (by omega) (by omega)]; exact ih
theorem pvn_le {d : ByteArray} (hd : ∀ i, i < d.size → 48 ≤ at8 d i ∧ at8 d i ≤ 57) (i : Nat) : pvn d i ≤ pv (bl d) := by
  have h := pvn_mono hd (i := i) d.size
  rwa [pvn_all (show d.size ≤ i + d.size by omega)] at h
theorem ok_num {s : ByteArray} (h : okS s = true) : ∀ i, i < (digS s).size → 48 ≤ at8 (digS s) i ∧ at8 (digS s) i ≤ 57 := fun i hi => by
  have := dS_num (s := s) (i := i) (by rw [dS_ok h]; exact hi)
  rwa [dS_ok h] at this
theorem par_fin {s : ByteArray} {X : List Int} {i : Nat} (ho : okS s = true) (nX : norm X) (hX : val X = pvn (digS s) i) (h : (digS s).size ≤ i ∨ 128 < X.length) : zR (sg (negS s) (val X)) = zR (pZ s) := by
  have hn := ok_num ho
  by_cases hs : (digS s).size ≤ i
  · rw [hX, pvn_all hs]; rfl
  · have hl := h.resolve_left hs
    have h1 := val_ge nX (by omega)
    have h2 := pow_mono (show 128 ≤ X.length - 1 by omega)
    have h3 := pvn_le hn i
    have h4 : limit ≤ val X := by unfold limit; omega
    have h5 : 0 ≤ val X := val_nonneg nX.1
    rw [zR_big (by rw [sg_abs h5]; exact h4)]
    unfold pZ
    rw [zR_big (by rw [sg_abs (by omega)]; omega)]
theorem par_step {d : ByteArray} {X : List Int} {i : Nat} (hi : i < d.size) (hd : 48 ≤ at8 d i ∧ at8 d i ≤ 57) (oX : ok32 X) (hX : val X = pvn d i) : val (dg (val (dg (val X * val [10])) + val (dg (val [at8 d i - 48])))) = pvn d (i + 1) := by
  have v0 := val_nonneg oX
  have h1 : val [10] = 10 := rfl
  have h2 : val [at8 d i - 48] = at8 d i - 48 := by simp [val]
  rw [h1, h2, val_dg (show 0 ≤ val X * 10 by omega), val_dg (show 0 ≤ at8 d i - 48 by omega), val_dg (by omega), pvn_step hi, hX]
theorem par_len {X : List Int} {c : Int} (oX : ok32 X) (h : X.length ≤ 128) (c0 : 0 ≤ c) (c1 : c < 4294967296) : (dg (val (dg (val X * val [10])) + val (dg (val [c])))).length ≤ 130 := by
  have v0 := val_nonneg oX
  have v1 := val_lt oX
  have v2 := pow_mono h
  have h1 : val [10] = 10 := rfl
  have h2 : val [c] = c := by simp [val]
  have hp := pow_pos 128
  rw [h1, h2, val_dg (by omega), val_dg (by omega)]
  refine (len_dg (by omega) 130).2 ?_
  rw [show (130 : Nat) = 128 + 2 from rfl, Int.pow_add]
  have e : (4294967296 : Int) ^ 2 = 18446744073709551616 := rfl
  rw [e]
  generalize (4294967296 : Int) ^ 128 = P at *
  omega
theorem t_mu {L D : List Int} (vL : 0 ≤ val L) (h : 0 < val L ∨ D = []) : (val L / 10).toNat + 0 < (val L).toNat + (if D.length = 0 then 1 else 0) := by
  rcases h with h | h
  · split <;> omega
  · rw [if_pos (by rw [h]; rfl)]; omega
end Go.VL

/- Walks over the Go functions, printed by a program of this session over the kit's print, and by hand. -/
set_option linter.unusedVariables false
set_option linter.unusedSimpArgs false
namespace Go.VL
open Go.Proofs
end Go.VL

/- Plain laws for the document's own functions: the square root, two digits at a time. No program here. -/
set_option linter.unusedVariables false
set_option linter.unusedSimpArgs false
namespace Go.VL

theorem isq_mono {u : Int} (hu : 0 ≤ u) {w b1 b0 : Int} (h1 : 0 ≤ b1 ∧ b1 < 2) (h0 : 0 ≤ b0 ∧ b0 < 2) (hw : w = 4 * u + 2 * b1 + b0) {R T : Int} (hR : R = 2 * (2 * (u - isq u * isq u) + b1) + b0) (hT : T = 2 * (2 * isq u + 0) + 1) :
    (T ≤ R → isq w = 2 * isq u + 1 ∧ R - T = w - isq w * isq w) ∧ (R < T → isq w = 2 * isq u + 0 ∧ R = w - isq w * isq w) := by
  obtain ⟨s0, s1, s2⟩ := isq_spec hu
  have e4 : (2 * isq u) * (2 * isq u) = 4 * (isq u * isq u) := by rw [Int.mul_assoc, Int.mul_left_comm (isq u) 2]; omega
  have e5 : (2 * isq u + 1) * (2 * isq u + 1) = 4 * (isq u * isq u) + 4 * isq u + 1 := by rw [Int.add_mul, Int.mul_add, e4]; omega
  have e6 : (2 * isq u + 1 + 1) * (2 * isq u + 1 + 1) = 4 * (isq u * isq u) + 8 * isq u + 4 := by
    have : (2 * isq u + 1 + 1) * (2 * isq u + 1 + 1) = (2 * isq u + 1) * (2 * isq u + 1) + 2 * (2 * isq u + 1) + 1 := by simp only [Int.add_mul, Int.mul_add]; omega
    rw [this, e5]; omega
  have e7 : (isq u + 1) * (isq u + 1) = isq u * isq u + 2 * isq u + 1 := by simp only [Int.add_mul, Int.mul_add]; omega
  rw [e7] at s2
  constructor
  · intro hc
    have h := isq_uniq (v := w) (x := 2 * isq u + 1) (by omega) (by rw [e5]; omega) (by rw [e6]; omega)
    refine ⟨h, ?_⟩
    rw [h, e5]; omega
  · intro hc
    have h := isq_uniq (v := w) (x := 2 * isq u) (by omega) (by rw [e4]; omega) (by rw [e5]; omega)
    refine ⟨by rw [h]; omega, ?_⟩
    rw [h, e4]; omega
/-- What is left after the higher digits. -/
structure RootInv (v : Int) (root rest : List Int) (i : Nat) : Prop where
  n1 : norm root
  n2 : norm rest
  e1 : val root = isq (v / 2 ^ (2 * i))
  e2 : val rest = v / 2 ^ (2 * i) - isq (v / 2 ^ (2 * i)) * isq (v / 2 ^ (2 * i))
theorem RootInv.start {v : Int} {i : Nat} (h0 : 0 ≤ v) (h : v < 2 ^ (2 * i)) : RootInv v [] [] i := by
  have e : v / 2 ^ (2 * i) = 0 := Int.ediv_eq_zero_of_lt h0 h
  refine ⟨⟨ok32_nil, .inl rfl⟩, ⟨ok32_nil, .inl rfl⟩, by rw [e]; rfl, by rw [e]; rfl⟩
theorem two_bits (v : Int) (i : Nat) : v / 2 ^ (2 * i) = 4 * (v / 2 ^ (2 * (i + 1))) + 2 * (v / 2 ^ (2 * i + 1) % 2) + v / 2 ^ (2 * i) % 2 := by
  have h1 := half v (2 * i)
  have h2 := half v (2 * i + 1)
  rw [show 2 * (i + 1) = 2 * i + 1 + 1 by omega]
  omega
theorem RootInv.step {v : Int} {root rest : List Int} {i : Nat} (hv : 0 ≤ v) (h : RootInv v root rest (i + 1)) {R T : Int}
    (hR : R = 2 * (2 * val rest + v / 2 ^ (2 * i + 1) % 2) + v / 2 ^ (2 * i) % 2) (hT : T = 2 * (2 * val root + 0) + 1) :
    (T ≤ R → isq (v / 2 ^ (2 * i)) = 2 * val root + 1 ∧ R - T = v / 2 ^ (2 * i) - isq (v / 2 ^ (2 * i)) * isq (v / 2 ^ (2 * i))) ∧
    (R < T → isq (v / 2 ^ (2 * i)) = 2 * val root + 0 ∧ R = v / 2 ^ (2 * i) - isq (v / 2 ^ (2 * i)) * isq (v / 2 ^ (2 * i))) := by
  have hu : 0 ≤ v / 2 ^ (2 * (i + 1)) := Int.ediv_nonneg hv (Int.le_of_lt (two_pow_pos _))
  have hb := two_bits v i
  rw [h.e1] at hT ⊢
  rw [h.e2] at hR
  exact isq_mono hu (by omega) (by omega) hb hR hT
theorem RootInv.fin {v : Int} {root rest : List Int} (h : RootInv v root rest 0) : val root = isq v ∧ val rest = v - isq v * isq v := by
  have e : v / 2 ^ (2 * 0) = v := by simp
  have h1 := h.e1
  have h2 := h.e2
  rw [e] at h1 h2
  exact ⟨h1, h2⟩
theorem RootInv.len {A root rest : List Int} {i : Nat} (oA : ok32 A) (h : RootInv (val A) root rest i) : root.length ≤ A.length ∧ rest.length ≤ A.length := by
  have hv := val_nonneg oA
  have hu : 0 ≤ val A / 2 ^ (2 * i) := Int.ediv_nonneg hv (Int.le_of_lt (two_pow_pos _))
  have hl := Int.ediv_le_self (2 ^ (2 * i)) hv
  obtain ⟨s0, s1, s2⟩ := isq_spec hu
  have h1 := isq_le hu
  have h3 := Int.mul_nonneg s0 s0
  constructor
  · rw [← dg_val h.n1, h.e1]; exact len_le oA s0 (by omega)
  · rw [← dg_val h.n2, h.e2]; exact len_le oA (by omega) (by omega)
theorem blen_even {v : Int} (h : 0 ≤ v) {i : Nat} (hi : blen v.toNat ≤ 2 * i) : v < 2 ^ (2 * i) := by
  have h1 := blen_two h
  have h2 := two_mono hi
  omega
theorem rest_zero {R : List Int} {v s : Int} (n : norm R) (h : val R = v - s * s) : ((R.length : Int) == 0) = decide (s * s = v) := by
  rw [Bool.eq_iff_iff, beq_iff_eq, decide_eq_true_iff]
  constructor
  · intro h0
    rw [norm_zero n (by omega)] at h; omega
  · intro h0
    apply Classical.byContradiction
    intro hc
    have := norm_pos n (fun e => hc (by rw [e]; rfl))
    omega
theorem dbl_len2 {R : List Int} {b : Int} {k : Nat} (oR : ok32 R) (h : R.length ≤ k) (b0 : 0 ≤ b) (b1 : b < 2) : (dg (2 * val R + b)).length ≤ k + 1 := by
  have v0 := val_nonneg oR
  have v1 := val_lt oR
  have v2 := pow_mono h
  refine (len_dg (show 0 ≤ 2 * val R + b by omega) (k + 1)).2 ?_
  rw [Int.pow_succ]
  have := pow_pos k
  omega
end Go.VL

/- Walks over the Go functions, printed by a program of this session over the kit's print, and by hand. -/
set_option linter.unusedVariables false
set_option linter.unusedSimpArgs false
namespace Go.VL
open Go.Proofs
end Go.VL

/- Plain laws for the document's own functions: the greatest common divisor by subtracting and halving. No program here. -/
set_option linter.unusedVariables false
set_option linter.unusedSimpArgs false
namespace Go.VL

/-- Without its factors 2. -/
def oddN (n : Nat) : Nat := if h : n = 0 then 0 else if n % 2 = 0 then oddN (n / 2) else n
termination_by n
decreasing_by omega
theorem oddN_even {n : Nat} (h : n ≠ 0) (h2 : n % 2 = 0) : oddN n = oddN (n / 2) := by rw [oddN, dif_neg h, if_pos h2]
theorem oddN_odd {n : Nat} (h2 : n % 2 ≠ 0) : oddN n = n := by
  rw [oddN]
  split
  · rename_i h; omega
  · first | rfl | rw [if_neg h2]
theorem oddN_two (k n : Nat) (h : n ≠ 0) : oddN (2 ^ k * n) = oddN n := by
  induction k with
  | zero => simp
  | succ k ih =>
    have h1 : 2 ^ (k + 1) * n = 2 * (2 ^ k * n) := by rw [Nat.pow_succ, Nat.mul_comm (2 ^ k) 2, Nat.mul_assoc]
    have hp : 0 < 2 ^ k * n := Nat.mul_pos (Nat.pow_pos (by decide)) (by omega)
    rw [h1, oddN_even (by omega) (by omega), show 2 * (2 ^ k * n) / 2 = 2 ^ k * n by omega]
    exact ih
theorem oddN_spec {n : Nat} (h : n ≠ 0) : oddN n % 2 = 1 ∧ oddN n ≤ n ∧ 0 < oddN n := by
  induction n using Nat.strongRecOn with
  | _ n ih =>
    by_cases h2 : n % 2 = 0
    · rw [oddN_even h h2]
      have := ih (n / 2) (by omega) (by omega)
      omega
    · rw [oddN_odd h2]; omega
/-- A factor 2 of one of them doesn't matter where the other is odd. -/
theorem odd_cut {x y : Nat} (hx : x % 2 = 1) : Nat.gcd x (2 * y) = Nat.gcd x y := by
  have hd1 := Nat.gcd_dvd_left x (2 * y)
  have hd2 := Nat.gcd_dvd_right x (2 * y)
  refine Nat.dvd_antisymm (Nat.dvd_gcd hd1 ?_) (Nat.dvd_gcd (Nat.gcd_dvd_left x y) (Nat.dvd_trans (Nat.gcd_dvd_right x y) ⟨2, by omega⟩))
  obtain ⟨k, hk⟩ := hd2
  obtain ⟨m, hm⟩ := hd1
  generalize Nat.gcd x (2 * y) = g at *
  have hg : g % 2 = 1 := by
    have h := Nat.mul_mod g m 2
    rw [← hm] at h
    rcases Nat.mod_two_eq_zero_or_one g with h0 | h0
    · rw [h0, Nat.zero_mul] at h; omega
    · exact h0
  have hk2 : k % 2 = 0 := by
    have h := Nat.mul_mod g k 2
    rw [← hk, hg, Nat.one_mul] at h
    omega
  refine ⟨k / 2, ?_⟩
  have h2 : k = 2 * (k / 2) := by omega
  rw [h2, Nat.mul_left_comm] at hk
  omega
theorem gcd_odd {x y : Nat} (hx : x % 2 = 1) (hy : y ≠ 0) : Nat.gcd x y = Nat.gcd x (oddN y) := by
  induction y using Nat.strongRecOn with
  | _ y ih =>
    by_cases h2 : y % 2 = 0
    · have h3 := odd_cut (x := x) (y := y / 2) hx
      rw [show 2 * (y / 2) = y by omega] at h3
      rw [oddN_even hy h2, ← ih (y / 2) (by omega) (by omega)]
      exact h3
    · rw [oddN_odd h2]
theorem gcd_sub_odd {x y : Nat} (hy : y % 2 = 1) (h : y < x) : Nat.gcd (oddN (x - y)) y = Nat.gcd x y := by
  rw [Nat.gcd_comm, ← gcd_odd hy (by omega), Nat.gcd_comm x y]
  exact Nat.gcd_sub_self_right (by omega)
/-- The common factors 2 taken out. -/
theorem gcd_two {a b k : Nat} (ha : a ≠ 0) (hb : b ≠ 0) (h1 : 2 ^ k ∣ a) (h2 : 2 ^ k ∣ b) (h : a / 2 ^ k % 2 = 1 ∨ b / 2 ^ k % 2 = 1) : Nat.gcd a b = Nat.gcd (oddN a) (oddN b) * 2 ^ k := by
  obtain ⟨x, rfl⟩ := h1
  obtain ⟨y, rfl⟩ := h2
  have hp : 0 < 2 ^ k := Nat.pow_pos (by decide)
  have hx : x ≠ 0 := fun e => ha (by rw [e, Nat.mul_zero])
  have hy : y ≠ 0 := fun e => hb (by rw [e, Nat.mul_zero])
  rw [Nat.mul_div_cancel_left _ hp, Nat.mul_div_cancel_left _ hp] at h
  rw [oddN_two k x hx, oddN_two k y hy, Nat.gcd_mul_left, Nat.mul_comm]
  congr 1
  rcases h with h | h
  · rw [oddN_odd (n := x) (by omega)]; exact gcd_odd h hy
  · rw [oddN_odd (n := y) (by omega), Nat.gcd_comm x y, Nat.gcd_comm _ y]; exact gcd_odd h hx
def oddZ (v : Int) : Int := ((oddN v.toNat : Nat) : Int)
/-- Shifted down to its first digit 1. -/
structure TzInv (v : Int) (k : Nat) : Prop where
  pos : 0 < v
  dvd : (2 : Int) ^ k ∣ v
theorem TzInv.lt {v : Int} {k : Nat} (h : TzInv v k) : k < blen v.toNat := by
  obtain ⟨h1, c, hc⟩ := h
  apply Classical.byContradiction
  intro hn
  have h2 := blen_two (Int.le_of_lt h1)
  have h3 := two_mono (show blen v.toNat ≤ k by omega)
  have hp := two_pow_pos k
  have hc0 : 0 < c := by
    apply Classical.byContradiction
    intro hh
    have := Int.mul_le_mul_of_nonneg_left (show c ≤ 0 by omega) (Int.le_of_lt hp)
    rw [← hc, Int.mul_zero] at this; omega
  have := Int.mul_le_mul_of_nonneg_left (show 1 ≤ c by omega) (Int.le_of_lt hp)
  rw [← hc, Int.mul_one] at this
  omega
theorem TzInv.step {v : Int} {k : Nat} (h : TzInv v k) (h0 : v / 2 ^ k % 2 = 0) : TzInv v (k + 1) := by
  obtain ⟨h1, c, hc⟩ := h
  refine ⟨h1, c / 2, ?_⟩
  have hp := two_pow_pos k
  have e : v / 2 ^ k = c := by rw [hc]; exact Int.mul_ediv_cancel_left _ (by omega)
  rw [e] at h0
  rw [Int.pow_succ, Int.mul_assoc, show 2 * (c / 2) = c by omega]; exact hc
theorem TzInv.nat {v : Int} {k : Nat} (h : TzInv v k) : 2 ^ k ∣ v.toNat ∧ ((v.toNat / 2 ^ k : Nat) : Int) = v / 2 ^ k := by
  obtain ⟨h1, h2⟩ := h
  have e : v = ((v.toNat : Nat) : Int) := by omega
  constructor
  · rw [e, ← two_cast] at h2
    exact Int.natCast_dvd_natCast.1 h2
  · rw [Int.natCast_ediv, two_cast, ← e]
theorem TzInv.fin {v : Int} {k : Nat} (h : TzInv v k) (h0 : v / 2 ^ k % 2 ≠ 0) : v / 2 ^ k = oddZ v := by
  obtain ⟨n1, n2⟩ := h.nat
  have h1 := h.pos
  obtain ⟨c, hc⟩ := n1
  have hp : 0 < 2 ^ k := Nat.pow_pos (by decide)
  have e : v.toNat / 2 ^ k = c := by rw [hc]; exact Nat.mul_div_cancel_left _ hp
  rw [e] at n2
  have hc0 : c ≠ 0 := fun hh => by rw [hh, Nat.mul_zero] at hc; omega
  unfold oddZ
  rw [hc, oddN_two k c hc0, ← n2, oddN_odd]
  omega
theorem oddZ_spec {v : Int} (h : 0 < v) : 0 < oddZ v ∧ oddZ v ≤ v ∧ oddZ v % 2 = 1 := by
  have := oddN_spec (n := v.toNat) (by omega)
  unfold oddZ
  omega
theorem gcd_bin {a b X : Int} {c : Nat} (ha : TzInv a c) (hb : TzInv b c) (h : a / 2 ^ c % 2 ≠ 0 ∨ b / 2 ^ c % 2 ≠ 0) (hX : 0 < X) (hG : Nat.gcd X.toNat X.toNat = Nat.gcd (oddN a.toNat) (oddN b.toNat)) : ((Int.gcd a b : Nat) : Int) = X * 2 ^ c := by
  obtain ⟨a1, a2⟩ := ha.nat
  obtain ⟨b1, b2⟩ := hb.nat
  have pa := ha.pos
  have pb := hb.pos
  have hh := gcd_two (by omega) (by omega) a1 b1 (by omega)
  have e : Int.gcd a b = Nat.gcd a.toNat b.toNat := by
    unfold Int.gcd
    rw [show a.natAbs = a.toNat by omega, show b.natAbs = b.toNat by omega]
  rw [e, hh, ← hG, Nat.gcd_self, Int.natCast_mul, two_cast]
  congr 1
  omega
theorem gcd_step {x y : Int} (hx : 0 < x) (hy : 0 < y) (h : y < x) (ho : y % 2 = 1) : Nat.gcd (oddZ (x - y)).toNat y.toNat = Nat.gcd x.toNat y.toNat := by
  have := gcd_sub_odd (x := x.toNat) (y := y.toNat) (by omega) (by omega)
  unfold oddZ
  rw [show (x - y).toNat = x.toNat - y.toNat by omega, Int.toNat_natCast]
  exact this
theorem gcd_nil {a b : Int} (ha : 0 ≤ a) (hb : 0 ≤ b) (h : a = 0 ∨ b = 0) : ((Int.gcd a b : Nat) : Int) = a + b := by
  rcases h with h | h
  · subst h; rw [Int.gcd_zero_left]; omega
  · subst h; rw [Int.gcd_zero_right]; omega
theorem odd_len {A : List Int} {v : Int} (oA : ok32 A) (h0 : 0 < v) (h : v ≤ val A) : (dg (oddZ v)).length ≤ A.length := by
  have := oddZ_spec h0
  exact len_le oA (by omega) (by omega)
end Go.VL

/- Walks over the Go functions, printed by a program of this session over the kit's print, and by hand. -/
set_option linter.unusedVariables false
set_option linter.unusedSimpArgs false
namespace Go.VL
open Go.Proofs
theorem f71 (L : List Int) (hL : L.length ≤ 10000) (nL : norm L) (h0 : 0 < val L) : VF Tryz.prog 86 [u32S (L)] (u32S (dg (oddZ (val L)))) := by
  refine VF_of P_mixed Tryz.func86 rfl rfl (by kernel_rfl) <| Sq <| Rg <| Vs (As rfl) <| Nx <| Sq <| ?_
  have hbl := blen_words nL.1
  refine Rg <| Vs (As rfl) <| Nx <| Sq <| Bk <| VCode.loop (α := (Nat)) (fun k => (0, sl [(0, vS (L)), (3, vI .i64 ((k : Int)))], en [])) (fun k => TzInv (val L) k) (fun k => blen (val L).toNat - k) (0) ⟨h0, by simp⟩ Wk ?_
  intro k hok
  have hlt := hok.lt
  change VCode _ _ _ 0 (sl _) (en _) _
  refine Sq <| Sq <| Rg <| Vs (Mv rfl) <| Vs (Mv rfl) <| Vs (Cf rfl rfl (f70 _ _ (by omega) (nL.1) (by omega) (by omega)) rfl) <| Vs (Bi rfl) <| Nx <| Cd rfl (fun hc1 => ?_) (fun hc1 => ?_)
  · replace hc1 := eq_of_beq hc1
    exact Ks <| Tg <| Bk <| Rg <| Vs (Mv rfl) <| Vs (Bo rfl adI) <| Vs (As rfl) <| VList.nil <| Ig <| Go (k + 1) (hok.step (by assumption)) Wk
  · replace hc1 := ne_of_beq_false hc1
    exact Ke <| Te <| Oe <| Ih <| Tg <| Sq <| Rg <| Vs (Mv rfl) <| Vs (Mv rfl) <| Vs (C0 rfl rfl (f80 _ _ (by omega) (nL) (by omega) (by omega))) <| Vs (Mv rfl) <| Vs (Xt rfl) <| Vs (Xt rfl) <| Vs (As rfl) <| Vs (As rfl) <| Nx <| Sq <| Rg <| Vs (Mv rfl) <| Vs (As rfl) <| Nx <| Re <| Fi (l := [u32S (dg (val (L) / 2 ^ ((k : Int)).toNat))]) (Rc (resVar_tmp rfl rfl) Rn) (by rw [← hok.fin (by assumption)]; rfl)
theorem f32 (n : Bool) (A : List Int) (m : Bool) (B : List Int) (hA : A.length ≤ 9223372036854775807) (hB : B.length ≤ 9223372036854775807) (oA : ok32 A) (oB : ok32 B) : VF Tryz.prog 59 [.agg [boolB (n), u32S (A)], .agg [boolB (m), u32S (B)]] (gR (validB n A && validB m B) ((Int.gcd (zOf n A) (zOf m B) : Nat) : Int)) := by
  refine VF_of P_mixed Tryz.func59 rfl rfl (by kernel_rfl) <| Sq <| Rg <| Vs (Bx 0 rfl) <| Vs (Bx 1 rfl) <| Vs (Al 2 TZ24 rfl) <| Vs (As rfl) <| Nx <| Sq <| Sq <| Rg <| Vs (LdS TA24 TS24 rfl) <| Vs (Cf rfl rfl (f26 _ _ (by first | omega | assumption | (simp; done) | (simp; omega))) rfl) <| Vs (Un rfl) <| Vs (Mv rfl) <| Sp 13 rfl (fun hc1 => ?_) (fun hc1 => ?_)
  · replace hc1 := (bnot_t hc1)
    exact Sk rfl <| Sk rfl <| Sk rfl <| Vs (Pk rfl) <| Nx <| Cy rfl <| Sq <| Rg <| Vs (Bd TQ24 rfl) <| Vs (StS TS24 rfl) <| Vs (As rfl) <| Nx <| Re <| Tr <| Fi (l := [.agg [boolB (false), u32S ([])], numB .i64 (1)]) (Rc (resVar_cell rfl rfl TA24 TS24 (Nat.le_of_ble_eq_true rfl) rfl) (Rc (resVar_tmp rfl rfl) Rn)) (by rw [gR_false (by simp [*])]; rfl)
  · replace hc1 := (bnot_f hc1)
    refine Vs (LdS TA24 TS24 rfl) <| Vs (Cf rfl rfl (f26 _ _ (by first | omega | assumption | (simp; done) | (simp; omega))) rfl) <| Vs (Un rfl) <| Vs (Pk rfl) <| Nx <| Cd rfl (fun hc2 => ?_) (fun hc2 => ?_)
    · replace hc2 := (bnot_t hc2)
      exact Sq <| Rg <| Vs (Bd TQ24 rfl) <| Vs (StS TS24 rfl) <| Vs (As rfl) <| Nx <| Re <| Tr <| Fi (l := [.agg [boolB (false), u32S ([])], numB .i64 (1)]) (Rc (resVar_cell rfl rfl TA24 TS24 (Nat.le_of_ble_eq_true rfl) rfl) (Rc (resVar_tmp rfl rfl) Rn)) (by rw [gR_false (by simp [*])]; rfl)
    · replace hc2 := (bnot_f hc2)
      refine Ks <| Tg <| Sq <| ?_
      have va : validB n A = true := by assumption
      have vb : validB m B = true := by assumption
      have hv := vv va vb
      obtain ⟨nA, lA, sA⟩ := valid_norm oA va
      obtain ⟨nB, lB, sB⟩ := valid_norm oB vb
      have vA := val_nonneg oA
      have vB_ := val_nonneg oB
      refine Rg <| Vs (L0s 12 TK22 rfl) <| Vs (Fa TF24_1 rfl) <| Vs (Ld TA22 rfl) <| Vs (Ap0 15 TK22 rfl rfl) <| Vs (As rfl) <| Nx <| VCode.join (α := (Nat) × (Nat)) (fun x_ => match x_ with | (a, b) => (92, sl [(4, .ptr 2 (0)), (6, .own 90 (a)), (7, .own 91 (b))], en [(2, ⟨2, [vB (false), vS ([])], true⟩), (90, rowK .u32 (A)), (91, rowK .u32 (B))])) (fun x_ => match x_ with | (a, b) => A.length = a ∧ B.length = b) ?_ ?_
      · skip
        exact Rg <| Vs (L0s 17 TK22 rfl) <| Vs (Fa TF24_1 rfl) <| Vs (Ld TA22 rfl) <| Vs (Ap0 20 TK22 rfl rfl) <| Vs (As rfl) <| VList.nil <| Jg ((A).length, (B).length) ⟨by simp, by simp⟩ (Wr [(90, 15), (91, 20)])
      · rintro ⟨a, b⟩ hab
        obtain ⟨ha, hb⟩ := hab
        change VCode _ _ _ 92 (sl _) (en _) _
        refine Sq <| Sq <| Rg <| Vs (Mv rfl) <| Vs (Lo TU22 rfl) <| Vs (Bi rfl) <| Vs (Mv rfl) <| Sp 30 rfl (fun hc3 => ?_) (fun hc3 => ?_)
        · replace hc3 := eq_of_beq hc3
          exact Sk rfl <| Sk rfl <| Sk rfl <| Vs (Pk rfl) <| Nx <| Cy rfl <| Sq <| Rg <| Vs (Mv rfl) <| Vs (Mv rfl) <| Vs (Cc rfl (Rk (Rr rfl) (Rk (Rr rfl) Rz)) (f56 _ _ (by first | omega | assumption | (simp; done) | (simp; omega)) (by first | omega | assumption | (simp; done) | (simp; omega)) (oA) (oB))) <| Vs (C0 rfl rfl (f58 _ _ (add_len oA oB lA lB) (ok32_dg _))) <| Vs (Xt rfl) <| Vs (Xt rfl) <| Vs (StS TS24 rfl) <| Vs (As rfl) <| Nx <| Re <| Tr <| Fi (l := [.agg [boolB (zN (sg (false) (val (dg (val (A) + val (B)))))), u32S (zL (sg (false) (val (dg (val (A) + val (B))))))], numB .i64 (zE (sg (false) (val (dg (val (A) + val (B))))))]) (Rc (resVar_cell rfl rfl TA24 TS24 (Nat.le_of_ble_eq_true rfl) rfl) (Rc (resVar_tmp rfl rfl) Rn)) (by rw [gR_true hv, gcd_sg, gcd_nil vA vB_ (by first | (left; exact norm_zero nA (by omega)) | (right; exact norm_zero nB (by omega))), val_dg (by omega)]; rfl)
        · replace hc3 := ne_of_beq_false hc3
          refine Vs (Mv rfl) <| Vs (Lo TU22 rfl) <| Vs (Bi rfl) <| Vs (Pk rfl) <| Nx <| Cd rfl (fun hc4 => ?_) (fun hc4 => ?_)
          · replace hc4 := eq_of_beq hc4
            exact Sq <| Rg <| Vs (Mv rfl) <| Vs (Mv rfl) <| Vs (Cc rfl (Rk (Rr rfl) (Rk (Rr rfl) Rz)) (f56 _ _ (by first | omega | assumption | (simp; done) | (simp; omega)) (by first | omega | assumption | (simp; done) | (simp; omega)) (oA) (oB))) <| Vs (C0 rfl rfl (f58 _ _ (add_len oA oB lA lB) (ok32_dg _))) <| Vs (Xt rfl) <| Vs (Xt rfl) <| Vs (StS TS24 rfl) <| Vs (As rfl) <| Nx <| Re <| Tr <| Fi (l := [.agg [boolB (zN (sg (false) (val (dg (val (A) + val (B)))))), u32S (zL (sg (false) (val (dg (val (A) + val (B))))))], numB .i64 (zE (sg (false) (val (dg (val (A) + val (B))))))]) (Rc (resVar_cell rfl rfl TA24 TS24 (Nat.le_of_ble_eq_true rfl) rfl) (Rc (resVar_tmp rfl rfl) Rn)) (by rw [gR_true hv, gcd_sg, gcd_nil vA vB_ (by first | (left; exact norm_zero nA (by omega)) | (right; exact norm_zero nB (by omega))), val_dg (by omega)]; rfl)
          · replace hc4 := ne_of_beq_false hc4
            refine Ks <| Tg <| Sq <| ?_
            have pA := norm_pos nA (fun e => by rw [e] at ha; simp at ha; omega)
            have pB := norm_pos nB (fun e => by rw [e] at hb; simp at hb; omega)
            have hbl := blen_words oA
            refine Rg <| Vs (As rfl) <| Nx <| VCode.join (α := (Nat)) (fun c => (92, sl [(4, .ptr 2 (0)), (6, .own 90 (a)), (7, .own 91 (b)), (8, vI .i64 ((c : Int)))], en [(2, ⟨2, [vB (false), vS ([])], true⟩), (90, rowK .u32 (A)), (91, rowK .u32 (B))])) (fun c => (TzInv (val A) c ∧ TzInv (val B) c) ∧ (val A / 2 ^ c % 2 ≠ 0 ∨ val B / 2 ^ c % 2 ≠ 0)) ?_ ?_
            · skip
              refine Bk <| VCode.loop (α := (Nat)) (fun c => (92, sl [(4, .ptr 2 (0)), (6, .own 90 (a)), (7, .own 91 (b)), (8, vI .i64 ((c : Int)))], en [(2, ⟨2, [vB (false), vS ([])], true⟩), (90, rowK .u32 (A)), (91, rowK .u32 (B))])) (fun c => TzInv (val A) c ∧ TzInv (val B) c) (fun c => blen (val A).toNat - c) (0) ⟨⟨pA, by simp⟩, ⟨pB, by simp⟩⟩ Wk ?_
              intro c htz
              obtain ⟨tA, tB⟩ := htz
              have hltA := tA.lt
              change VCode _ _ _ 92 (sl _) (en _) _
              refine Sq <| Sq <| Rg <| Vs (Mv rfl) <| Vs (Mv rfl) <| Vs (Cf rfl (Rk (Rr rfl) (Rk rfl Rz)) (f70 _ _ (by omega) (oA) (by omega) (by omega)) rfl) <| Vs (Bi rfl) <| Vs (Mv rfl) <| Sp 45 rfl (fun hc5 => ?_) (fun hc5 => ?_)
              · replace hc5 := eq_of_beq hc5
                refine Vs (Mv rfl) <| Vs (Mv rfl) <| Vs (Cf rfl (Rk (Rr rfl) (Rk rfl Rz)) (f70 _ _ (by omega) (oB) (by omega) (by omega)) rfl) <| Vs (Bi rfl) <| Vs (Pk rfl) <| Nx <| Cd rfl (fun hc6 => ?_) (fun hc6 => ?_)
                · replace hc6 := eq_of_beq hc6
                  exact Ks <| Tg <| Bk <| Rg <| Vs (Mv rfl) <| Vs (Bo rfl adI) <| Vs (As rfl) <| VList.nil <| Ig <| Go (c + 1) ⟨tA.step (by assumption), tB.step (by assumption)⟩ Wk
                · replace hc6 := ne_of_beq_false hc6
                  exact Ke <| Te <| Oe <| Ih <| Jg (c) ⟨⟨tA, tB⟩, by first | (right; assumption) | (left; assumption)⟩ Wk
              · replace hc5 := ne_of_beq_false hc5
                exact Sk rfl <| Sk rfl <| Sk rfl <| Sk rfl <| Vs (Pk rfl) <| Nx <| Cz rfl <| Ke <| Te <| Oe <| Ih <| Jg (c) ⟨⟨tA, tB⟩, by first | (right; assumption) | (left; assumption)⟩ Wk
            · intro c hj
              obtain ⟨⟨tA, tB⟩, hbit⟩ := hj
              have hltA := tA.lt
              have sA2 := oddZ_spec pA
              have sB2 := oddZ_spec pB
              change VCode _ _ _ 92 (sl _) (en _) _
              refine Sq <| Rg <| Vs (Mv rfl) <| Vs (Cc rfl (Rk (Rr rfl) Rz) (f71 _ (by omega) (nA) (pA))) <| Vs (As rfl) <| Nx <| Sq <| Rg <| Vs (Mv rfl) <| Vs (Cc rfl (Rk (Rr rfl) Rz) (f71 _ (by omega) (nB) (pB))) <| Vs (As rfl) <| Nx <| Sq <| Bk <| VCode.loop (α := (List Int) × (List Int)) (fun x_ => match x_ with | (X, Y) => (3, sl [(4, .ptr 2 (0)), (6, vS (X)), (7, vS (Y)), (8, vI .i64 ((c : Int)))], en [(2, ⟨2, [vB (false), vS ([])], true⟩)])) (fun x_ => match x_ with | (X, Y) => (norm X ∧ norm Y) ∧ (X.length ≤ 128 ∧ Y.length ≤ 128) ∧ (0 < val X ∧ val X % 2 = 1) ∧ (0 < val Y ∧ val Y % 2 = 1) ∧ Nat.gcd (val X).toNat (val Y).toNat = Nat.gcd (oddN (val A).toNat) (oddN (val B).toNat)) (fun x_ => match x_ with | (X, Y) => (val X).toNat + (val Y).toNat) (dg (oddZ (val A)), dg (oddZ (val B))) ⟨⟨norm_dg _, norm_dg _⟩, ⟨Nat.le_trans (odd_len oA pA (Int.le_refl _)) lA, Nat.le_trans (odd_len oB pB (Int.le_refl _)) lB⟩, by rw [val_dg (by omega)]; exact ⟨sA2.1, sA2.2.2⟩, by rw [val_dg (by omega)]; exact ⟨sB2.1, sB2.2.2⟩, by rw [val_dg (by omega), val_dg (by omega)]; rfl⟩ Wk ?_
              rintro ⟨X, Y⟩ hg0
              obtain ⟨⟨nX, nY⟩, ⟨lX, lY⟩, ⟨pX, oX⟩, ⟨pY, oY⟩, hG⟩ := hg0
              change VCode _ _ _ 3 (sl _) (en _) _
              refine Sq <| Sq <| Rg <| Vs (Mv rfl) <| Vs (Mv rfl) <| Vs (Cf rfl rfl (f72 _ _ (by first | omega | assumption | (simp; done) | (simp; omega)) (by first | omega | assumption | (simp; done) | (simp; omega)) (nX.1) (nY.1) (fun h => cmp_len nX nY h)) rfl) <| Vs (Bi rfl) <| Nx <| Cd rfl (fun hc7 => ?_) (fun hc7 => ?_)
              · replace hc7 := bne_iff_ne.1 hc7
                refine Ks <| Tg <| Bk <| VCode.join (α := (List Int) × (List Int)) (fun x_ => match x_ with | (X2, Y2) => (3, sl [(4, .ptr 2 (0)), (6, vS (X2)), (7, vS (Y2)), (8, vI .i64 ((c : Int)))], en [(2, ⟨2, [vB (false), vS ([])], true⟩)])) (fun x_ => match x_ with | (X2, Y2) => (norm X2 ∧ norm Y2) ∧ (X2.length ≤ 128 ∧ Y2.length ≤ 128) ∧ (0 < val X2 ∧ val X2 % 2 = 1) ∧ (0 < val Y2 ∧ val Y2 % 2 = 1) ∧ Nat.gcd (val X2).toNat (val Y2).toNat = Nat.gcd (oddN (val A).toNat) (oddN (val B).toNat) ∧ val Y2 < val X2 ∧ val X2 + val Y2 = val X + val Y) ?_ ?_
                · skip
                  refine Sq <| Rg <| Vs (Mv rfl) <| Vs (Mv rfl) <| Vs (Cf rfl rfl (f72 _ _ (by first | omega | assumption | (simp; done) | (simp; omega)) (by first | omega | assumption | (simp; done) | (simp; omega)) (nX.1) (nY.1) (fun h => cmp_len nX nY h)) rfl) <| Vs (Bi rfl) <| Nx <| Cd rfl (fun hc8 => ?_) (fun hc8 => ?_)
                  · replace hc8 := of_decide_eq_true hc8
                    exact Sq <| Rg <| Vs (Mv rfl) <| Vs (As rfl) <| Nx <| Sq <| Rg <| Vs (Mv rfl) <| Vs (As rfl) <| Nx <| Rg <| Vs (Mv rfl) <| Vs (As rfl) <| VList.nil <| Jg (Y, X) ⟨⟨nY, nX⟩, ⟨lY, lX⟩, ⟨pY, oY⟩, ⟨pX, oX⟩, by rw [Nat.gcd_comm]; exact hG, cmp3_lt.1 (by assumption), by omega⟩ Wk
                  · replace hc8 := of_decide_eq_false hc8
                    exact Ks <| Jg (X, Y) ⟨⟨nX, nY⟩, ⟨lX, lY⟩, ⟨pX, oX⟩, ⟨pY, oY⟩, hG, by have h1 := cmp3_ge (a := val X) (b := val Y) (by omega); have h2 := mt cmp3_zero.2 (show cmp3 (val X) (val Y) ≠ 0 by assumption) ; omega, rfl⟩ Wk
                · rintro ⟨X2, Y2⟩ hk
                  obtain ⟨⟨nX2, nY2⟩, ⟨lX2, lY2⟩, ⟨pX2, oX2⟩, ⟨pY2, oY2⟩, hG2, hlt2, hsum⟩ := hk
                  have vd : val (dg (val X2 - val Y2)) = val X2 - val Y2 := val_dg (by omega)
                  have sp := oddZ_spec (v := val X2 - val Y2) (by omega)
                  have ldg : (dg (val X2 - val Y2)).length ≤ 128 := Nat.le_trans (len_le nX2.1 (by omega) (by omega)) lX2
                  have ve : val (dg (oddZ (val (dg (val X2 - val Y2))))) = oddZ (val X2 - val Y2) := by rw [vd, val_dg (by omega)]
                  change VCode _ _ _ 3 (sl _) (en _) _
                  exact Rg <| Vs (Mv rfl) <| Vs (Mv rfl) <| Vs (C0 rfl rfl (f57 _ _ (by first | omega | assumption | (simp; done) | (simp; omega)) (by first | omega | assumption | (simp; done) | (simp; omega)) (nX2.1) (nY2.1) (norm_le_len nY2 nX2 (by omega)) (by omega))) <| Vs (C0 rfl rfl (f71 _ (by omega) (norm_dg _) (by rw [vd]; omega))) <| Vs (As rfl) <| VList.nil <| Ig <| Go (dg (oddZ (val (dg (val (X2) - val (Y2))))), Y2) ⟨⟨norm_dg _, nY2⟩, ⟨by rw [vd]; exact Nat.le_trans (odd_len nX2.1 (by omega) (by omega)) lX2, lY2⟩, by rw [ve]; exact ⟨sp.1, sp.2.2⟩, ⟨pY2, oY2⟩, by rw [ve, gcd_step pX2 pY2 hlt2 oY2]; exact hG2⟩ Wk (by show (val (dg (oddZ (val (dg (val X2 - val Y2)))))).toNat + (val Y2).toNat < (val X).toNat + (val Y).toNat; rw [ve]; omega)
              · replace hc7 := bne_eq_false_iff_eq.1 hc7
                refine Ke <| Te <| Oe <| Ih <| Tg <| Sq <| ?_
                have hXY : val X = val Y := cmp3_zero.1 (by assumption)
                have hfin := gcd_bin tA tB hbit pX (by rw [hXY] at hG ⊢; exact hG)
                exact Rg <| Vs (Mv rfl) <| Vs (Mv rfl) <| Vs (C0 rfl rfl (f73 _ _ (by first | omega | assumption | (simp; done) | (simp; omega)) (nX.1) (by omega) (by omega))) <| Vs (C0 rfl rfl (f58 _ _ (shl_len nX.1 lX (by omega)) (ok32_dg _))) <| Vs (Xt rfl) <| Vs (Xt rfl) <| Vs (StS TS24 rfl) <| Vs (As rfl) <| Nx <| Re <| Fi (l := [.agg [boolB (zN (sg (false) (val (dg (val (X) * 2 ^ ((c : Int)).toNat))))), u32S (zL (sg (false) (val (dg (val (X) * 2 ^ ((c : Int)).toNat)))))], numB .i64 (zE (sg (false) (val (dg (val (X) * 2 ^ ((c : Int)).toNat)))))]) (Rc (resVar_cell rfl rfl TA24 TS24 (Nat.le_of_ble_eq_true rfl) rfl) (Rc (resVar_tmp rfl rfl) Rn)) (by rw [gR_true hv, gcd_sg, hfin, val_dg (Int.mul_nonneg (Int.le_of_lt pX) (Int.le_of_lt (two_pow_pos _)))]; rfl)
end Go.VL

/- The contracts of the document's functions of integers, at numbers. -/
set_option linter.unusedVariables false
set_option linter.unusedSimpArgs false
namespace Go.VL
open Go.Proofs
section
variable {x y : Int}
theorem d26 (x : Int) : VF Tryz.prog 56 [iB x] (boolB true) := by
  have h := f26 (zN x) (zL x) (len_zL' _)
  rw [valid_zz] at h
  exact h
theorem d32 (hx : inB x = true) (hy : inB y = true) : VF Tryz.prog 59 [iB x, iB y] (.tup [iB ((Int.gcd x y : Nat) : Int), numB .i64 0]) := by
  have h := f32 (zN x) (zL x) (zN y) (zL y) (len_zL' _) (len_zL' _) (ok32_zL _) (ok32_zL _)
  rw [zOf_z hx, zOf_z hy, valid_zz, valid_zz, Bool.and_self, gR_in rfl (gcd_in hx hy)] at h
  exact h
theorem d30 (hx : inB x = true) (hy : inB y = true) : VF Tryz.prog 29 [iB x, iB y] (zR (x * y)) := by
  have h := f30 (zN x) (zL x) (zN y) (zL y) (len_zL' _) (len_zL' _) (ok32_zL _) (ok32_zL _)
  rw [zOf_z hx, zOf_z hy, valid_zz, valid_zz, Bool.and_self, gR_true rfl] at h
  exact h
theorem d39 (hx : inB x = true) (hy : inB y = true) : VF Tryz.prog 54 [iB x, iB y] (zR (x + y)) := by
  have h := f39 (zN x) (zL x) (zN y) (zL y) (len_zL' _) (len_zL' _) (ok32_zL _) (ok32_zL _)
  rw [zOf_z hx, zOf_z hy, valid_zz, valid_zz, Bool.and_self, gR_true rfl] at h
  exact h
theorem d19 (hx : inB x = true) (hy : inB y = true) (h0 : y ≠ 0) : VF Tryz.prog 60 [iB x, iB y] (.tup [iB (x.fdiv y), iB (x.fmod y), numB .i64 0]) := by
  have h := f19 (zN x) (zL x) (zN y) (zL y) (len_zL' _) (len_zL' _) (ok32_zL _) (ok32_zL _)
  rw [zOf_z hx, zOf_z hy, valid_zz, valid_zz, Bool.and_self, dmR_ok rfl h0 (zE_in.2 (fdiv_in hx h0))] at h
  exact h
end
end Go.VL

/- A small program logic over the translated Go code, further part: facts of this program's types. -/
set_option linter.unusedVariables false
set_option maxRecDepth 100000
namespace Go.VL
open Go.Proofs
theorem TA26 : aggOf Tryz.prog 26 = some true := by kernel_rfl
theorem TA28 : aggOf Tryz.prog 28 = some false := by kernel_rfl
theorem TA47 : aggOf Tryz.prog 47 = some false := by kernel_rfl
theorem TB24 : (Tryz.prog.info? 24).map (·.bytes) = some 32 := by kernel_rfl
theorem TF26_0 : fieldOf Tryz.prog 26 0 = some (0, 2, true) := by kernel_rfl
theorem TF26_1 : fieldOf Tryz.prog 26 1 = some (2, 2, true) := by kernel_rfl
theorem TN24 : (zeroOf Tryz.prog 24).map List.length = some 2 := by kernel_rfl
theorem TQ26 : StT Tryz.prog 26 [boolB (false), u32S ([]), boolB (false), u32S ([])] [(0, 2), (2, 2)] := ⟨by kernel_rfl, ⟨_, Tryz.underlying26, by kernel_rfl⟩, fun k q h => match k, h with | 0, h => by injection h with h; subst h; kernel_rfl | 1, h => by injection h with h; subst h; kernel_rfl | k + 2, h => by simp at h⟩
theorem TS26 : szOf Tryz.prog 26 = some 4 := by kernel_rfl
theorem TS28 : szOf Tryz.prog 28 = some 1 := by kernel_rfl
theorem TU71 : Tryz.prog.underlying 71 = some (.slice 26) := Tryz.underlying71
theorem TU82 : Tryz.prog.underlying 82 = some (.slice 24) := Tryz.underlying82
theorem TZ26 : zeroOf Tryz.prog 26 = some [boolB (false), u32S ([]), boolB (false), u32S ([])] := by kernel_rfl
theorem TZ28 : zeroOf Tryz.prog 28 = some [numB .i64 (0)] := by kernel_rfl
end Go.VL

/- Walks over the Go functions, printed by a program of this session over the kit's print, and by hand. -/
set_option linter.unusedVariables false
set_option linter.unusedSimpArgs false
namespace Go.VL
open Go.Proofs
theorem g51r (n : Bool) (L : List Int) : VF Tryz.prog 32 [.agg [boolB (n), u32S (L)]] (boolB ((L.length : Int) == 0)) := by
  exact VF_of P_mixed Tryz.func32 rfl rfl (by kernel_rfl) <| Sq <| Rg <| Vs (Bx 0 rfl) <| Vs (As rfl) <| Nx <| Sq <| Rg <| Vs (Fa TF24_1 rfl) <| Vs (Ld TA22 rfl) <| Vs (Ls TK22 rfl) <| Vs (Bi rfl) <| Vs (As rfl) <| Nx <| Re <| Fi (l := [boolB ((((L).length : Int) == 0))]) (Rc (resVar_tmp rfl rfl) Rn) rfl
theorem g51 {z : Int} (h : inB z = true) : VF Tryz.prog 32 [iB z] (boolB (decide (z = 0))) := by
  have := g51r (zN z) (zL z)
  rw [nil_z h] at this
  exact this
theorem g58r (n : Bool) (L : List Int) (hL : L.length ≤ 9223372036854775807) : VF Tryz.prog 44 [.agg [boolB (n), u32S (L)]] (boolB (oneZ n L)) := by
  refine VF_of P_mixed Tryz.func44 rfl rfl (by kernel_rfl) <| Sq <| Rg <| Vs (Bx 0 rfl) <| Vs (As rfl) <| Nx <| Sq <| Rg <| Vs (Fa TF24_0 rfl) <| Vs (Ld TA4 rfl) <| Vs (Un rfl) <| Vs (Mv rfl) <| Sp 6 rfl (fun hc1 => ?_) (fun hc1 => ?_)
  · replace hc1 := bnot_t hc1
    refine Vs (Fa TF24_1 rfl) <| Vs (Ld TA22 rfl) <| Vs (Ls TK22 rfl) <| Vs (Bi rfl) <| Vs (Pk rfl) <| Vs (Mv rfl) <| Sp 12 rfl (fun hc2 => ?_) (fun hc2 => ?_)
    · replace hc2 := eq_of_beq hc2
      exact Vs (Fa TF24_1 rfl) <| Vs (Ld TA22 rfl) <| Vs (IxN (q := 0) TK22 rfl) <| Vs (Lq TA64 rfl) <| Vs (Bi rfl) <| Vs (Pk rfl) <| Vs (As rfl) <| Nx <| Re <| Fi (l := [boolB (((L).getD 0 0 == 1))]) (Rc (resVar_tmp rfl rfl) Rn) (by unfold oneZ; simp [*, oneB])
    · replace hc2 := ne_of_beq_false hc2
      exact Sk rfl <| Sk rfl <| Sk rfl <| Sk rfl <| Sk rfl <| Vs (Pk rfl) <| Vs (As rfl) <| Nx <| Re <| Fi (l := [boolB (false)]) (Rc (resVar_tmp rfl rfl) Rn) (by unfold oneZ; rw [beq_no hc2]; simp [oneB])
  · replace hc1 := bnot_f hc1
    exact Sk rfl <| Sk rfl <| Sk rfl <| Sk rfl <| Vs (Pk rfl) <| Vs (Mv rfl) <| Sk rfl <| Sk rfl <| Sk rfl <| Sk rfl <| Sk rfl <| Vs (Pk rfl) <| Vs (As rfl) <| Nx <| Re <| Fi (l := [boolB (false)]) (Rc (resVar_tmp rfl rfl) Rn) (by unfold oneZ; simp [*, oneB])
theorem g58 {z : Int} (h : inB z = true) : VF Tryz.prog 44 [iB z] (boolB (decide (z = 1))) := by
  have := g58r (zN z) (zL z) (len_zL' z)
  rw [one_z h] at this
  exact this
theorem g65 (z : Int) : VF Tryz.prog 26 [.agg [boolB (zN (z)), u32S (zL (z))]] (iB (-z)) := by
  refine VF_of P_mixed Tryz.func26 rfl rfl (by kernel_rfl) <| Sq <| Rg <| Vs (Bx 0 rfl) <| Vs (Al 1 TZ24 rfl) <| Nx <| Sq <| Sq <| Rg <| Vs (Fa TF24_1 rfl) <| Vs (Ld TA22 rfl) <| Vs (Ls TK22 rfl) <| Vs (Bi rfl) <| Nx <| Cd rfl (fun hc1 => ?_) (fun hc1 => ?_)
  · replace hc1 := eq_of_beq hc1
    exact Sq <| Rg <| Vs (Bd TQ24 rfl) <| Vs (StS TS24 rfl) <| Nx <| Re <| Tr <| Fi (l := [.agg [boolB (false), u32S ([])]]) (Rc (resVar_cell rfl rfl TA24 TS24 (Nat.le_of_ble_eq_true rfl) rfl) Rn) (iB_nil hc1)
  · replace hc1 := ne_of_beq_false hc1
    refine Ks <| Tg <| Sq <| Rd (by kernel_rfl) <| Vl (Fa TF24_0 rfl) <| Vl (Ld TA4 rfl) <| Vl (Un rfl) <| Vl (L0s 9 TK22 rfl) <| Vl (Fa TF24_1 rfl) <| Vl (Ld TA22 rfl) <| Vl (Ap0 12 TK22 rfl rfl (hm := (by have := len_zL z; simp only [maxLen]; omega))) <| Vl (Bd TQ24 rfl) <| Vl (StS TS24 rfl) <| ?_
    refine VLog.nil ⟨by kernel_rfl, ?_⟩
    exact Tg <| Re <| Fi (l := [.agg [boolB ((!zN (z))), u32S (zL (z))]]) (Rc (resVar_cell rfl rfl TA24 TS24 (Nat.le_of_ble_eq_true rfl) (Ra rfl (hl := rfl))) Rn) (negR hc1)
theorem g53 (z : Int) : VF Tryz.prog 89 [.agg [boolB (zN (z)), u32S (zL (z))]] (iB z) := by
  refine VF_of P_mixed Tryz.func89 rfl rfl (by kernel_rfl) <| Sq <| Rg <| Vs (Bx 0 rfl) <| Vs (Al 1 TZ24 rfl) <| Nx <| Sq <| Rd (by kernel_rfl) <| Vl (Fa TF24_0 rfl) <| Vl (Ld TA4 rfl) <| Vl (Fa TF24_1 rfl) <| Vl (Ld TA22 rfl) <| Vl (Apc TK22 rfl rfl (hm := (by have := len_zL z; simp [maxLen]; omega))) <| Vl (Bd TQ24 rfl) <| Vl (StS TS24 rfl) <| ?_
  refine VLog.nil ⟨by kernel_rfl, ?_⟩
  exact Tg <| Re <| Fi (l := [.agg [boolB (zN (z)), u32S (zL (z))]]) (Rc (resVar_cell rfl rfl TA24 TS24 (Nat.le_of_ble_eq_true rfl) rfl) Rn) rfl
theorem g52 {x y : Int} (hx : inB x = true) (hy : inB y = true) (h0 : y ≠ 0) : VF Tryz.prog 52 [.agg [boolB (zN (x)), u32S (zL (x))], .agg [boolB (zN (y)), u32S (zL (y))]] (qB (rdN x y) (rdD x y)) := by
  refine VF_of P_mixed Tryz.func52 rfl rfl (by kernel_rfl) <| Sq <| Rg <| Vs (Bx 0 rfl) <| Vs (Bx 1 rfl) <| Vs (Al 2 TZ26 rfl) <| Nx <| Sq <| Sq <| Rg <| Vs (Fa TF24_0 rfl) <| Vs (Ld TA4 rfl) <| Nx <| Cd rfl (fun hc1 => ?_) (fun hc1 => ?_)
  · (try simp at hc1)
    have hy0 : y < 0 := zN_lt hc1
    have nx : inB (-x) = true := (in_neg x).trans hx
    have ny : inB (-y) = true := (in_neg y).trans hy
    refine Rd (by kernel_rfl) <| Vl (LdS TA24 TS24 rfl) <| Vl (C0 rfl rfl (g65 (x))) <| Vl (LdS TA24 TS24 rfl) <| Vl (C0 rfl rfl (g65 (y))) <| Vl (StS TS24 rfl) <| Vl (StS TS24 rfl) <| ?_
    refine VLog.nil ⟨by kernel_rfl, ?_⟩
    refine Tg <| Sq <| Rg <| Vs (LdS TA24 TS24 rfl) <| Vs (LdS TA24 TS24 rfl) <| Vs (C0 rfl rfl (c31n (x := x) (y := y) inT inT)) <| Vs (Mv rfl) <| Vs (Xt rfl) <| Vs (Xt rfl) <| Vs (Al 17 TZ24 rfl) <| Vs (StS TS24 rfl) <| Vs (As rfl) <| Nx <| Sq <| Sq <| Rg <| Vs (LdS TA24 TS24 rfl) <| Vs (Cf rfl rfl (g58 (z := rdG (x) (y)) inT) rfl) <| Vs (Un rfl) <| Nx <| Cd rfl (fun hc2 => ?_) (fun hc2 => ?_)
    · replace hc2 := of_decide_eq_false (bnot_t hc2)
      exact Sq <| Rg <| Vs (LdS TA24 TS24 rfl) <| Vs (LdS TA24 TS24 rfl) <| Vs (C0 rfl rfl (c18 (x := -(x)) (y := rdG (x) (y)) inT inT (by exact rdG_ne _ h0))) <| Vs (Mv rfl) <| Vs (Xt rfl) <| Vs (Xt rfl) <| Vs (Xt rfl) <| Vs (StS TS24 rfl) <| Nx <| Rg <| Vs (LdS TA24 TS24 rfl) <| Vs (LdS TA24 TS24 rfl) <| Vs (C0 rfl rfl (c18 (x := -(y)) (y := rdG (x) (y)) inT inT (by exact rdG_ne _ h0))) <| Vs (Mv rfl) <| Vs (Xt rfl) <| Vs (Xt rfl) <| Vs (Xt rfl) <| Vs (StS TS24 rfl) <| Nx <| Sq <| Rg <| Vs (LdS TA24 TS24 rfl) <| Vs (LdS TA24 TS24 rfl) <| Vs (Bd TQ26 rfl) <| Vs (StS TS26 rfl) <| Nx <| Re <| Fi (l := [.agg [boolB (zN ((-(x)).fdiv (rdG (x) (y)))), u32S (zL ((-(x)).fdiv (rdG (x) (y)))), boolB (zN ((-(y)).fdiv (rdG (x) (y)))), u32S (zL ((-(y)).fdiv (rdG (x) (y))))]]) (Rc (resVar_cell rfl rfl TA26 TS26 (Nat.le_of_ble_eq_true rfl) rfl) Rn) (rdR1 hy0)
    · replace hc2 := of_decide_eq_true (bnot_f hc2)
      exact Ks <| Tg <| Sq <| Rg <| Vs (LdS TA24 TS24 rfl) <| Vs (LdS TA24 TS24 rfl) <| Vs (Bd TQ26 rfl) <| Vs (StS TS26 rfl) <| Nx <| Re <| Fi (l := [.agg [boolB (zN (-(x))), u32S (zL (-(x))), boolB (zN (-(y))), u32S (zL (-(y)))]]) (Rc (resVar_cell rfl rfl TA26 TS26 (Nat.le_of_ble_eq_true rfl) rfl) Rn) (rdR2 hy0 hc2)
  · (try simp at hc1)
    have hy0 : ¬ y < 0 := zN_ge hy hc1
    refine Ks <| Tg <| Sq <| Rg <| Vs (LdS TA24 TS24 rfl) <| Vs (LdS TA24 TS24 rfl) <| Vs (C0 rfl rfl (c31 (x := x) (y := y) inT inT)) <| Vs (Mv rfl) <| Vs (Xt rfl) <| Vs (Xt rfl) <| Vs (Al 11 TZ24 rfl) <| Vs (StS TS24 rfl) <| Vs (As rfl) <| Nx <| Sq <| Sq <| Rg <| Vs (LdS TA24 TS24 rfl) <| Vs (Cf rfl rfl (g58 (z := rdG (x) (y)) inT) rfl) <| Vs (Un rfl) <| Nx <| Cd rfl (fun hc3 => ?_) (fun hc3 => ?_)
    · replace hc3 := of_decide_eq_false (bnot_t hc3)
      exact Sq <| Rg <| Vs (LdS TA24 TS24 rfl) <| Vs (LdS TA24 TS24 rfl) <| Vs (C0 rfl rfl (c18 (x := x) (y := rdG (x) (y)) inT inT (by exact rdG_ne _ h0))) <| Vs (Mv rfl) <| Vs (Xt rfl) <| Vs (Xt rfl) <| Vs (Xt rfl) <| Vs (StS TS24 rfl) <| Nx <| Rg <| Vs (LdS TA24 TS24 rfl) <| Vs (LdS TA24 TS24 rfl) <| Vs (C0 rfl rfl (c18 (x := y) (y := rdG (x) (y)) inT inT (by exact rdG_ne _ h0))) <| Vs (Mv rfl) <| Vs (Xt rfl) <| Vs (Xt rfl) <| Vs (Xt rfl) <| Vs (StS TS24 rfl) <| Nx <| Sq <| Rg <| Vs (LdS TA24 TS24 rfl) <| Vs (LdS TA24 TS24 rfl) <| Vs (Bd TQ26 rfl) <| Vs (StS TS26 rfl) <| Nx <| Re <| Fi (l := [.agg [boolB (zN ((x).fdiv (rdG (x) (y)))), u32S (zL ((x).fdiv (rdG (x) (y)))), boolB (zN ((y).fdiv (rdG (x) (y)))), u32S (zL ((y).fdiv (rdG (x) (y))))]]) (Rc (resVar_cell rfl rfl TA26 TS26 (Nat.le_of_ble_eq_true rfl) rfl) Rn) (rdR3 hy0)
    · replace hc3 := of_decide_eq_true (bnot_f hc3)
      exact Ks <| Tg <| Sq <| Rg <| Vs (LdS TA24 TS24 rfl) <| Vs (LdS TA24 TS24 rfl) <| Vs (Bd TQ26 rfl) <| Vs (StS TS26 rfl) <| Nx <| Re <| Fi (l := [.agg [boolB (zN (x)), u32S (zL (x)), boolB (zN (y)), u32S (zL (y))]]) (Rc (resVar_cell rfl rfl TA26 TS26 (Nat.le_of_ble_eq_true rfl) rfl) Rn) (rdR4 hy0 hc3)
theorem g20v {x y : Int} (hx : inB x = true) (hy : inB y = true) : VF Tryz.prog 36 [.agg [boolB (zN (x)), u32S (zL (x)), boolB (zN (y)), u32S (zL (y))]] (boolB (decide (0 < y ∧ Int.gcd x y = 1))) := by
  refine VF_of P_mixed Tryz.func36 rfl rfl (by kernel_rfl) <| Sq <| Rg <| Vs (Bx 0 rfl) <| Vs (As rfl) <| Nx <| Sq <| Sq <| Rg <| Vs (Fa TF26_0 rfl) <| Vs (LdS TA24 TS24 rfl) <| Vs (Cf rfl rfl (c36 (x)) rfl) <| Vs (Un rfl) <| Vs (Mv rfl) <| Vs (Fa TF26_1 rfl) <| Vs (LdS TA24 TS24 rfl) <| Vs (Cf rfl rfl (c36 (y)) rfl) <| Vs (Un rfl) <| Vs (Pk rfl) <| Vs (Mv rfl) <| Vs (Fa TF26_1 rfl) <| Vs (Fa TF24_0 rfl) <| Vs (Ld TA4 rfl) <| Vs (Pk rfl) <| Vs (Mv rfl) <| Sp 20 rfl (fun hc1 => ?_) (fun hc1 => ?_)
  · (try simp at hc1)
    have hy0 := zN_lt hc1
    exact Sk rfl <| Sk rfl <| Sk rfl <| Vs (Pk rfl) <| Nx <| Cy rfl <| Sq <| Rg <| Vs (As rfl) <| Nx <| Re <| Tr <| Fi (l := [boolB (false)]) (Rc (resVar_tmp rfl rfl) Rn) (rvF (by omega))
  · (try simp at hc1)
    have hy0 := zN_ge hy hc1
    refine Vs (Fa TF26_1 rfl) <| Vs (LdS TA24 TS24 rfl) <| Vs (Cf rfl rfl (g51 (z := y) inT) rfl) <| Vs (Pk rfl) <| Nx <| Cd rfl (fun hc2 => ?_) (fun hc2 => ?_)
    · replace hc2 := of_decide_eq_true hc2
      exact Sq <| Rg <| Vs (As rfl) <| Nx <| Re <| Tr <| Fi (l := [boolB (false)]) (Rc (resVar_tmp rfl rfl) Rn) (rvF (by omega))
    · replace hc2 := of_decide_eq_false hc2
      refine Ks <| Tg <| Sq <| Sq <| Rg <| Vs (Fa TF26_1 rfl) <| Vs (LdS TA24 TS24 rfl) <| Vs (Cf rfl rfl (g58 (z := y) inT) rfl) <| Nx <| Cd rfl (fun hc3 => ?_) (fun hc3 => ?_)
      · replace hc3 := of_decide_eq_true hc3
        exact Sq <| Rg <| Vs (As rfl) <| Nx <| Re <| Tr <| Fi (l := [boolB (true)]) (Rc (resVar_tmp rfl rfl) Rn) (rv1 hc3)
      · replace hc3 := of_decide_eq_false hc3
        exact Ks <| Tg <| Sq <| Rg <| Vs (Fa TF26_0 rfl) <| Vs (LdS TA24 TS24 rfl) <| Vs (Fa TF26_1 rfl) <| Vs (LdS TA24 TS24 rfl) <| Vs (C0 rfl rfl (c31 (x := x) (y := y) inT inT)) <| Vs (Mv rfl) <| Vs (Xt rfl) <| Vs (Xt rfl) <| Vs (Al 33 TZ24 rfl) <| Vs (StS TS24 rfl) <| Vs (As rfl) <| Nx <| Sq <| Rg <| Vs (LdS TA24 TS24 rfl) <| Vs (Cf rfl rfl (g58 (z := rdG (x) (y)) inT) rfl) <| Vs (As rfl) <| Nx <| Re <| Fi (l := [boolB (decide (rdG (x) (y) = 1))]) (Rc (resVar_tmp rfl rfl) Rn) (rvG (by omega))
theorem g20i (n : Bool) (A : List Int) (m : Bool) (D : List Int) (hA : A.length ≤ 9223372036854775807) (hD : D.length ≤ 9223372036854775807) (h : (validB n A && validB m D) = false) : VF Tryz.prog 36 [.agg [boolB (n), u32S (A), boolB (m), u32S (D)]] (boolB false) := by
  refine VF_of P_mixed Tryz.func36 rfl rfl (by kernel_rfl) <| Sq <| Rg <| Vs (Bx 0 rfl) <| Vs (As rfl) <| Nx <| Sq <| Sq <| Rg <| Vs (Fa TF26_0 rfl) <| Vs (LdS TA24 TS24 rfl) <| Vs (Cf rfl rfl (f36 n A hA) rfl) <| Vs (Un rfl) <| Vs (Mv rfl) <| Sp 9 rfl (fun hc1 => ?_) (fun hc1 => ?_)
  · replace hc1 := (bnot_t hc1)
    exact Sk rfl <| Sk rfl <| Sk rfl <| Sk rfl <| Vs (Pk rfl) <| Vs (Mv rfl) <| Sk rfl <| Sk rfl <| Sk rfl <| Vs (Pk rfl) <| Vs (Mv rfl) <| Sk rfl <| Sk rfl <| Sk rfl <| Vs (Pk rfl) <| Nx <| Cy rfl <| Sq <| Rg <| Vs (As rfl) <| Nx <| Re <| Tr <| Fi (l := [boolB (false)]) (Rc (resVar_tmp rfl rfl) Rn) rfl
  · replace hc1 := (bnot_f hc1)
    refine Vs (Fa TF26_1 rfl) <| Vs (LdS TA24 TS24 rfl) <| Vs (Cf rfl rfl (f36 m D hD) rfl) <| Vs (Un rfl) <| Vs (Pk rfl) <| Vs (Mv rfl) <| Sp 15 rfl (fun hc2 => ?_) (fun hc2 => ?_)
    · replace hc2 := (bnot_t hc2)
      exact Sk rfl <| Sk rfl <| Sk rfl <| Vs (Pk rfl) <| Vs (Mv rfl) <| Sk rfl <| Sk rfl <| Sk rfl <| Vs (Pk rfl) <| Nx <| Cy rfl <| Sq <| Rg <| Vs (As rfl) <| Nx <| Re <| Tr <| Fi (l := [boolB (false)]) (Rc (resVar_tmp rfl rfl) Rn) rfl
    · replace hc2 := (bnot_f hc2)
      simp [hc1, hc2] at h
theorem g20 (n : Bool) (A : List Int) (m : Bool) (D : List Int) (hA : A.length ≤ 9223372036854775807) (hD : D.length ≤ 9223372036854775807) (oA : ok32 A) (oD : ok32 D) : VF Tryz.prog 36 [ratB n A m D] (boolB (vR n A m D)) := by
  cases h : (validB n A && validB m D) with
  | false =>
    have e : vR n A m D = false := by unfold vR; rw [h]; rfl
    rw [e]
    exact g20i n A m D hA hD h
  | true =>
    rw [Bool.and_eq_true] at h
    obtain ⟨x, e1, e2, hx⟩ := as_z oA h.1
    obtain ⟨y, e3, e4, hy⟩ := as_z oD h.2
    rw [e1, e2, e3, e4, vR_z hx hy]
    exact g20v hx hy
theorem g20q {p q : Int} (h : okR p q) : VF Tryz.prog 36 [qB p q] (boolB true) := by
  have := g20v h.2.2.1 h.2.2.2
  rw [decide_eq_true ⟨h.1, h.2.1⟩] at this
  exact this
end Go.VL

/- Walks over the Go functions, printed by a program of this session over the kit's print, and by hand. -/
set_option linter.unusedVariables false
set_option linter.unusedSimpArgs false
namespace Go.VL
open Go.Proofs
theorem g124m {x y : Int} (hx : inB x = true) (hy : inB y = true) (e : Int) : VG Tryz.prog 49 [.b (.agg [boolB (zN (x)), u32S (zL (x))]), .b (.agg [boolB (zN (y)), u32S (zL (y))]), .ptr 0 (0), .ptr 1 (0)] [⟨1, [vI .i64 (e)], true⟩, ⟨1, [.fn 50 []], true⟩] (.b (iB (mv e (x * y)))) [some ⟨1, [vI .i64 (me e (x * y))], true⟩, some ⟨1, [.fn 50 []], true⟩] := by
  refine VGp_of P_mixed Tryz.func49 rfl rfl (by kernel_rfl) (by simp) rfl <| Sq <| Rg <| Vs (Bx 2 rfl) <| Vs (Bx 3 rfl) <| Vs (Al 4 TZ24 rfl) <| Nx <| Sq <| Sq <| Rg <| Vs (Ld TA28 rfl) <| Vs (Bi rfl) <| Nx <| Cd rfl (fun hc1 => ?_) (fun hc1 => ?_)
  · replace hc1 := bne_iff_ne.1 hc1
    exact Sq <| Rg <| Vs (Bd TQ24 rfl) <| Vs (StS TS24 rfl) <| Nx <| Re <| Tr <| Gf (L1' := [some (⟨1, [vI .i64 (e)], true⟩), some (⟨1, [.fn 50 []], true⟩)]) [0, 1] (.val _ _ _ _ _ (resV_cellS rfl rfl TA24 TS24 (Nat.le_of_ble_eq_true rfl)) rfl rfl .nil) (.one _) (congrArg V.b (mv_ne hc1 _)) (by rw [← me_ne hc1])
  · replace hc1 := bne_eq_false_iff_eq.1 hc1
    exact Ks <| Tg <| Sq <| Rg <| Vs (Ld TA47 rfl) <| Vs (LdS TA24 TS24 rfl) <| Vs (LdS TA24 TS24 rfl) <| Vs (Gd [] [] (us := []) rfl (VG.ofVF (c29 (x := x) (y := y) inT inT)) rfl) <| Vs (Mv rfl) <| Vs (Xt rfl) <| Vs (Xt rfl) <| Vs (Al 14 TZ24 rfl) <| Vs (StS TS24 rfl) <| Vs (As rfl) <| Nx <| Sq <| Rg <| Vs (Mv rfl) <| Vs (St TS28 rfl) <| Nx <| Sq <| Rg <| Vs (LdS TA24 TS24 rfl) <| Vs (StS TS24 rfl) <| Nx <| Re <| Gf (L1' := [some (⟨1, [vI .i64 (zE ((x) * (y)))], true⟩), some (⟨1, [.fn 50 []], true⟩)]) [0, 1] (.val _ _ _ _ _ (resV_cellS rfl rfl TA24 TS24 (Nat.le_of_ble_eq_true rfl)) rfl rfl .nil) (.one _) (congrArg V.b (mv_eq hc1 _)) (by rw [← me_eq hc1])
theorem g124a {x y : Int} (hx : inB x = true) (hy : inB y = true) (e : Int) : VG Tryz.prog 49 [.b (.agg [boolB (zN (x)), u32S (zL (x))]), .b (.agg [boolB (zN (y)), u32S (zL (y))]), .ptr 0 (0), .ptr 1 (0)] [⟨1, [vI .i64 (e)], true⟩, ⟨1, [.fn 51 []], true⟩] (.b (iB (mv e (x + y)))) [some ⟨1, [vI .i64 (me e (x + y))], true⟩, some ⟨1, [.fn 51 []], true⟩] := by
  refine VGp_of P_mixed Tryz.func49 rfl rfl (by kernel_rfl) (by simp) rfl <| Sq <| Rg <| Vs (Bx 2 rfl) <| Vs (Bx 3 rfl) <| Vs (Al 4 TZ24 rfl) <| Nx <| Sq <| Sq <| Rg <| Vs (Ld TA28 rfl) <| Vs (Bi rfl) <| Nx <| Cd rfl (fun hc1 => ?_) (fun hc1 => ?_)
  · replace hc1 := bne_iff_ne.1 hc1
    exact Sq <| Rg <| Vs (Bd TQ24 rfl) <| Vs (StS TS24 rfl) <| Nx <| Re <| Tr <| Gf (L1' := [some (⟨1, [vI .i64 (e)], true⟩), some (⟨1, [.fn 51 []], true⟩)]) [0, 1] (.val _ _ _ _ _ (resV_cellS rfl rfl TA24 TS24 (Nat.le_of_ble_eq_true rfl)) rfl rfl .nil) (.one _) (congrArg V.b (mv_ne hc1 _)) (by rw [← me_ne hc1])
  · replace hc1 := bne_eq_false_iff_eq.1 hc1
    exact Ks <| Tg <| Sq <| Rg <| Vs (Ld TA47 rfl) <| Vs (LdS TA24 TS24 rfl) <| Vs (LdS TA24 TS24 rfl) <| Vs (Gd [] [] (us := []) rfl (VG.ofVF (c38 (x := x) (y := y) inT inT)) rfl) <| Vs (Mv rfl) <| Vs (Xt rfl) <| Vs (Xt rfl) <| Vs (Al 14 TZ24 rfl) <| Vs (StS TS24 rfl) <| Vs (As rfl) <| Nx <| Sq <| Rg <| Vs (Mv rfl) <| Vs (St TS28 rfl) <| Nx <| Sq <| Rg <| Vs (LdS TA24 TS24 rfl) <| Vs (StS TS24 rfl) <| Nx <| Re <| Gf (L1' := [some (⟨1, [vI .i64 (zE ((x) + (y)))], true⟩), some (⟨1, [.fn 51 []], true⟩)]) [0, 1] (.val _ _ _ _ _ (resV_cellS rfl rfl TA24 TS24 (Nat.le_of_ble_eq_true rfl)) rfl rfl .nil) (.one _) (congrArg V.b (mv_eq hc1 _)) (by rw [← me_eq hc1])
theorem g123 (h : FuncId) (e : Int) : VG Tryz.prog 48 [.fn h [], .ptr 0 (0)] [⟨1, [vI .i64 (e)], true⟩] (.fn 49 [.ptr 0 0, .ptr 1 0]) [some ⟨1, [vI .i64 e], true⟩, some ⟨1, [.fn h []], true⟩] := by
  exact VGp_of P_mixed Tryz.func48 rfl rfl (by kernel_rfl) (by simp) rfl <| Sq <| Rg <| Vs (Bx 1 rfl) <| Vs (As rfl) <| Nx <| Sq <| Rg <| Vs (Mf rfl) <| Vs (As rfl) <| Nx <| Re <| Gf (L1' := [some (⟨1, [vI .i64 (e)], true⟩), some (⟨1, [.fn h []], true⟩)]) [0, 1] (.name _ _ _ _ _ rfl rfl rfl .nil) (.one _) rfl rfl
set_option maxRecDepth 10000 in
theorem g83 {p q r s : Int} (hp : inB p = true) (hq : inB q = true) (hr : inB r = true) (hs : inB s = true) : VG Tryz.prog 23 [.fn 49 [.ptr 0 (0), .ptr 1 (0)], .fn 49 [.ptr 0 (0), .ptr 2 (0)], .ptr 3 (0), .ptr 4 (0)] [⟨1, [vI .i64 (0)], true⟩, ⟨1, [.fn 50 []], true⟩, ⟨1, [.fn 51 []], true⟩, ⟨4, [vB (zN (p)), vS (zL (p)), vB (zN (q)), vS (zL (q))], true⟩, ⟨4, [vB (zN (r)), vS (zL (r)), vB (zN (s)), vS (zL (s))], true⟩] (.b (.tup [iB (aN p q r s), iB (aD p q r s)])) [some ⟨1, [vI .i64 (aE p q r s)], true⟩, some ⟨1, [.fn 50 []], true⟩, some ⟨1, [.fn 51 []], true⟩, some ⟨4, [vB (zN p), vS (zL p), vB (zN q), vS (zL q)], true⟩, some ⟨4, [vB (zN r), vS (zL r), vB (zN s), vS (zL s)], true⟩] := by
  refine VGp_of P_mixed Tryz.func23 rfl rfl (by kernel_rfl) (by simp) rfl <| Sq <| Rg <| Vs (Al 5 TZ24 rfl) <| Vs (Al 6 TZ24 rfl) <| Nx <| Sq <| Rd (by kernel_rfl) <| Vl (Mv rfl) <| Vl (Fa TF26_0 rfl) <| Vl (LdS TA24 TS24 rfl) <| Vl (Fa TF26_1 rfl) <| Vl (LdS TA24 TS24 rfl) <| Vl (Gd [0, 1] [] (us := [(0, some (⟨1, [vI .i64 (me (0) ((p) * (s)))], true⟩)), (1, some (⟨1, [.fn 50 []], true⟩))]) rfl (g124m (x := p) (y := s) inT inT (0)) rfl) <| Vl (Mv rfl) <| Vl (Fa TF26_0 rfl) <| Vl (LdS TA24 TS24 rfl) <| Vl (Fa TF26_1 rfl) <| Vl (LdS TA24 TS24 rfl) <| Vl (Gd [0, 1] [] (us := [(0, some (⟨1, [vI .i64 (me (me (0) ((p) * (s))) ((r) * (q)))], true⟩)), (1, some (⟨1, [.fn 50 []], true⟩))]) rfl (g124m (x := r) (y := q) inT inT (me (0) ((p) * (s)))) rfl) <| Vl (Al 19 TZ24 rfl) <| Vl (Al 20 TZ24 rfl) <| Vl (StS TS24 rfl) <| Vl (StS TS24 rfl) <| ?_
  refine VLog.nil ⟨by kernel_rfl, ?_⟩
  refine Tg <| Sq <| Rg <| Vs (Mv rfl) <| Vs (LdS TA24 TS24 rfl) <| Vs (LdS TA24 TS24 rfl) <| Vs (Gd [0, 2] [] (us := [(0, some (⟨1, [vI .i64 (me (me (me (0) ((p) * (s))) ((r) * (q))) ((mv (0) ((p) * (s))) + (mv (me (0) ((p) * (s))) ((r) * (q)))))], true⟩)), (2, some (⟨1, [.fn 51 []], true⟩))]) rfl (g124a (x := mv (0) ((p) * (s))) (y := mv (me (0) ((p) * (s))) ((r) * (q))) inT inT (me (me (0) ((p) * (s))) ((r) * (q)))) rfl) <| Vs (StS TS24 rfl) <| Nx <| Sq <| Rd (by kernel_rfl) <| Vl (LdS TA24 TS24 rfl) <| Vl (Mv rfl) <| Vl (Fa TF26_1 rfl) <| Vl (LdS TA24 TS24 rfl) <| Vl (Fa TF26_1 rfl) <| Vl (LdS TA24 TS24 rfl) <| Vl (Gd [0, 1] [] (us := [(0, some (⟨1, [vI .i64 (me (me (me (me (0) ((p) * (s))) ((r) * (q))) ((mv (0) ((p) * (s))) + (mv (me (0) ((p) * (s))) ((r) * (q))))) ((q) * (s)))], true⟩)), (1, some (⟨1, [.fn 50 []], true⟩))]) rfl (g124m (x := q) (y := s) inT inT (me (me (me (0) ((p) * (s))) ((r) * (q))) ((mv (0) ((p) * (s))) + (mv (me (0) ((p) * (s))) ((r) * (q)))))) rfl) <| Vl (StS TS24 rfl) <| Vl (StS TS24 rfl) <| ?_
  refine VLog.nil ⟨by kernel_rfl, ?_⟩
  exact Tg <| Re <| Gf (L1' := [some (⟨1, [vI .i64 (me (me (me (me (0) ((p) * (s))) ((r) * (q))) ((mv (0) ((p) * (s))) + (mv (me (0) ((p) * (s))) ((r) * (q))))) ((q) * (s)))], true⟩), some (⟨1, [.fn 50 []], true⟩), some (⟨1, [.fn 51 []], true⟩), some (⟨4, [vB (zN (p)), vS (zL (p)), vB (zN (q)), vS (zL (q))], true⟩), some (⟨4, [vB (zN (r)), vS (zL (r)), vB (zN (s)), vS (zL (s))], true⟩)]) [0, 1, 2, 3, 4] (.val _ _ _ _ _ (resV_cellS rfl rfl TA24 TS24 (Nat.le_of_ble_eq_true rfl)) rfl rfl (.val _ _ _ _ _ (resV_cellS rfl rfl TA24 TS24 (Nat.le_of_ble_eq_true rfl)) rfl rfl .nil)) (.vals _ [.agg [boolB (zN (mv (me (me (0) ((p) * (s))) ((r) * (q))) ((mv (0) ((p) * (s))) + (mv (me (0) ((p) * (s))) ((r) * (q)))))), u32S (zL (mv (me (me (0) ((p) * (s))) ((r) * (q))) ((mv (0) ((p) * (s))) + (mv (me (0) ((p) * (s))) ((r) * (q))))))], .agg [boolB (zN (mv (me (me (me (0) ((p) * (s))) ((r) * (q))) ((mv (0) ((p) * (s))) + (mv (me (0) ((p) * (s))) ((r) * (q))))) ((q) * (s)))), u32S (zL (mv (me (me (me (0) ((p) * (s))) ((r) * (q))) ((mv (0) ((p) * (s))) + (mv (me (0) ((p) * (s))) ((r) * (q))))) ((q) * (s))))]] rfl rfl) rfl rfl
set_option maxRecDepth 10000 in
theorem g91 {p q r s : Int} (hp : inB p = true) (hq : inB q = true) (hr : inB r = true) (hs : inB s = true) : VG Tryz.prog 25 [.fn 49 [.ptr 0 (0), .ptr 1 (0)], .fn 49 [.ptr 0 (0), .ptr 2 (0)], .ptr 3 (0), .ptr 4 (0)] [⟨1, [vI .i64 (0)], true⟩, ⟨1, [.fn 50 []], true⟩, ⟨1, [.fn 51 []], true⟩, ⟨4, [vB (zN (p)), vS (zL (p)), vB (zN (q)), vS (zL (q))], true⟩, ⟨4, [vB (zN (r)), vS (zL (r)), vB (zN (s)), vS (zL (s))], true⟩] (.b (.tup [iB (sN p q r s), iB (sD p q r s)])) [some ⟨1, [vI .i64 (sE p q r s)], true⟩, some ⟨1, [.fn 50 []], true⟩, some ⟨1, [.fn 51 []], true⟩, some ⟨4, [vB (zN p), vS (zL p), vB (zN q), vS (zL q)], true⟩, some ⟨4, [vB (zN r), vS (zL r), vB (zN s), vS (zL s)], true⟩] := by
  refine VGp_of P_mixed Tryz.func25 rfl rfl (by kernel_rfl) (by simp) rfl <| Sq <| Rg <| Vs (Al 5 TZ24 rfl) <| Vs (Al 6 TZ24 rfl) <| Nx <| Sq <| Rd (by kernel_rfl) <| Vl (Mv rfl) <| Vl (Fa TF26_0 rfl) <| Vl (LdS TA24 TS24 rfl) <| Vl (Fa TF26_1 rfl) <| Vl (LdS TA24 TS24 rfl) <| Vl (Gd [0, 1] [] (us := [(0, some (⟨1, [vI .i64 (me (0) ((p) * (s)))], true⟩)), (1, some (⟨1, [.fn 50 []], true⟩))]) rfl (g124m (x := p) (y := s) inT inT (0)) rfl) <| Vl (Mv rfl) <| Vl (Fa TF26_0 rfl) <| Vl (LdS TA24 TS24 rfl) <| Vl (Fa TF26_1 rfl) <| Vl (LdS TA24 TS24 rfl) <| Vl (Gd [0, 1] [] (us := [(0, some (⟨1, [vI .i64 (me (me (0) ((p) * (s))) ((r) * (q)))], true⟩)), (1, some (⟨1, [.fn 50 []], true⟩))]) rfl (g124m (x := r) (y := q) inT inT (me (0) ((p) * (s)))) rfl) <| Vl (Al 19 TZ24 rfl) <| Vl (Al 20 TZ24 rfl) <| Vl (StS TS24 rfl) <| Vl (StS TS24 rfl) <| ?_
  refine VLog.nil ⟨by kernel_rfl, ?_⟩
  refine Tg <| Sq <| Rd (by kernel_rfl) <| Vl (Mv rfl) <| Vl (LdS TA24 TS24 rfl) <| Vl (LdS TA24 TS24 rfl) <| Vl (C0 rfl rfl (g65 (mv (me (0) ((p) * (s))) ((r) * (q))))) <| Vl (Gd [0, 2] [] (us := [(0, some (⟨1, [vI .i64 (me (me (me (0) ((p) * (s))) ((r) * (q))) ((mv (0) ((p) * (s))) + (-(mv (me (0) ((p) * (s))) ((r) * (q))))))], true⟩)), (2, some (⟨1, [.fn 51 []], true⟩))]) rfl (g124a (x := mv (0) ((p) * (s))) (y := -(mv (me (0) ((p) * (s))) ((r) * (q)))) inT inT (me (me (0) ((p) * (s))) ((r) * (q)))) rfl) <| Vl (StS TS24 rfl) <| ?_
  refine VLog.nil ⟨by kernel_rfl, ?_⟩
  refine Tg <| Sq <| Rd (by kernel_rfl) <| Vl (LdS TA24 TS24 rfl) <| Vl (Mv rfl) <| Vl (Fa TF26_1 rfl) <| Vl (LdS TA24 TS24 rfl) <| Vl (Fa TF26_1 rfl) <| Vl (LdS TA24 TS24 rfl) <| Vl (Gd [0, 1] [] (us := [(0, some (⟨1, [vI .i64 (me (me (me (me (0) ((p) * (s))) ((r) * (q))) ((mv (0) ((p) * (s))) + (-(mv (me (0) ((p) * (s))) ((r) * (q)))))) ((q) * (s)))], true⟩)), (1, some (⟨1, [.fn 50 []], true⟩))]) rfl (g124m (x := q) (y := s) inT inT (me (me (me (0) ((p) * (s))) ((r) * (q))) ((mv (0) ((p) * (s))) + (-(mv (me (0) ((p) * (s))) ((r) * (q))))))) rfl) <| Vl (StS TS24 rfl) <| Vl (StS TS24 rfl) <| ?_
  refine VLog.nil ⟨by kernel_rfl, ?_⟩
  exact Tg <| Re <| Gf (L1' := [some (⟨1, [vI .i64 (me (me (me (me (0) ((p) * (s))) ((r) * (q))) ((mv (0) ((p) * (s))) + (-(mv (me (0) ((p) * (s))) ((r) * (q)))))) ((q) * (s)))], true⟩), some (⟨1, [.fn 50 []], true⟩), some (⟨1, [.fn 51 []], true⟩), some (⟨4, [vB (zN (p)), vS (zL (p)), vB (zN (q)), vS (zL (q))], true⟩), some (⟨4, [vB (zN (r)), vS (zL (r)), vB (zN (s)), vS (zL (s))], true⟩)]) [0, 1, 2, 3, 4] (.val _ _ _ _ _ (resV_cellS rfl rfl TA24 TS24 (Nat.le_of_ble_eq_true rfl)) rfl rfl (.val _ _ _ _ _ (resV_cellS rfl rfl TA24 TS24 (Nat.le_of_ble_eq_true rfl)) rfl rfl .nil)) (.vals _ [.agg [boolB (zN (mv (me (me (0) ((p) * (s))) ((r) * (q))) ((mv (0) ((p) * (s))) + (-(mv (me (0) ((p) * (s))) ((r) * (q))))))), u32S (zL (mv (me (me (0) ((p) * (s))) ((r) * (q))) ((mv (0) ((p) * (s))) + (-(mv (me (0) ((p) * (s))) ((r) * (q)))))))], .agg [boolB (zN (mv (me (me (me (0) ((p) * (s))) ((r) * (q))) ((mv (0) ((p) * (s))) + (-(mv (me (0) ((p) * (s))) ((r) * (q)))))) ((q) * (s)))), u32S (zL (mv (me (me (me (0) ((p) * (s))) ((r) * (q))) ((mv (0) ((p) * (s))) + (-(mv (me (0) ((p) * (s))) ((r) * (q)))))) ((q) * (s))))]] rfl rfl) rfl rfl
set_option maxRecDepth 10000 in
theorem g84 {p q r s : Int} (hp : inB p = true) (hq : inB q = true) (hr : inB r = true) (hs : inB s = true) : VG Tryz.prog 27 [.fn 49 [.ptr 0 (0), .ptr 1 (0)], .fn 49 [.ptr 0 (0), .ptr 2 (0)], .ptr 3 (0), .ptr 4 (0)] [⟨1, [vI .i64 (0)], true⟩, ⟨1, [.fn 50 []], true⟩, ⟨1, [.fn 51 []], true⟩, ⟨4, [vB (zN (p)), vS (zL (p)), vB (zN (q)), vS (zL (q))], true⟩, ⟨4, [vB (zN (r)), vS (zL (r)), vB (zN (s)), vS (zL (s))], true⟩] (.b (.tup [iB (mN p r), iB (mD p q r s)])) [some ⟨1, [vI .i64 (mE p q r s)], true⟩, some ⟨1, [.fn 50 []], true⟩, some ⟨1, [.fn 51 []], true⟩, some ⟨4, [vB (zN p), vS (zL p), vB (zN q), vS (zL q)], true⟩, some ⟨4, [vB (zN r), vS (zL r), vB (zN s), vS (zL s)], true⟩] := by
  refine VGp_of P_mixed Tryz.func27 rfl rfl (by kernel_rfl) (by simp) rfl <| Sq <| Rg <| Vs (Al 5 TZ24 rfl) <| Vs (Al 6 TZ24 rfl) <| Nx <| Sq <| Rg <| Vs (Mv rfl) <| Vs (Fa TF26_0 rfl) <| Vs (LdS TA24 TS24 rfl) <| Vs (Fa TF26_0 rfl) <| Vs (LdS TA24 TS24 rfl) <| Vs (Gd [0, 1] [] (us := [(0, some (⟨1, [vI .i64 (me (0) ((p) * (r)))], true⟩)), (1, some (⟨1, [.fn 50 []], true⟩))]) rfl (g124m (x := p) (y := r) inT inT (0)) rfl) <| Vs (StS TS24 rfl) <| Nx <| Sq <| Rd (by kernel_rfl) <| Vl (LdS TA24 TS24 rfl) <| Vl (Mv rfl) <| Vl (Fa TF26_1 rfl) <| Vl (LdS TA24 TS24 rfl) <| Vl (Fa TF26_1 rfl) <| Vl (LdS TA24 TS24 rfl) <| Vl (Gd [0, 1] [] (us := [(0, some (⟨1, [vI .i64 (me (me (0) ((p) * (r))) ((q) * (s)))], true⟩)), (1, some (⟨1, [.fn 50 []], true⟩))]) rfl (g124m (x := q) (y := s) inT inT (me (0) ((p) * (r)))) rfl) <| Vl (StS TS24 rfl) <| Vl (StS TS24 rfl) <| ?_
  refine VLog.nil ⟨by kernel_rfl, ?_⟩
  exact Tg <| Re <| Gf (L1' := [some (⟨1, [vI .i64 (me (me (0) ((p) * (r))) ((q) * (s)))], true⟩), some (⟨1, [.fn 50 []], true⟩), some (⟨1, [.fn 51 []], true⟩), some (⟨4, [vB (zN (p)), vS (zL (p)), vB (zN (q)), vS (zL (q))], true⟩), some (⟨4, [vB (zN (r)), vS (zL (r)), vB (zN (s)), vS (zL (s))], true⟩)]) [0, 1, 2, 3, 4] (.val _ _ _ _ _ (resV_cellS rfl rfl TA24 TS24 (Nat.le_of_ble_eq_true rfl)) rfl rfl (.val _ _ _ _ _ (resV_cellS rfl rfl TA24 TS24 (Nat.le_of_ble_eq_true rfl)) rfl rfl .nil)) (.vals _ [.agg [boolB (zN (mv (0) ((p) * (r)))), u32S (zL (mv (0) ((p) * (r))))], .agg [boolB (zN (mv (me (0) ((p) * (r))) ((q) * (s)))), u32S (zL (mv (me (0) ((p) * (r))) ((q) * (s))))]] rfl rfl) rfl rfl
set_option maxRecDepth 10000 in
theorem g92 {p q r s : Int} (hp : inB p = true) (hq : inB q = true) (hr : inB r = true) (hs : inB s = true) : VG Tryz.prog 33 [.fn 49 [.ptr 0 (0), .ptr 1 (0)], .fn 49 [.ptr 0 (0), .ptr 2 (0)], .ptr 3 (0), .ptr 4 (0)] [⟨1, [vI .i64 (0)], true⟩, ⟨1, [.fn 50 []], true⟩, ⟨1, [.fn 51 []], true⟩, ⟨4, [vB (zN (p)), vS (zL (p)), vB (zN (q)), vS (zL (q))], true⟩, ⟨4, [vB (zN (r)), vS (zL (r)), vB (zN (s)), vS (zL (s))], true⟩] (.b (.tup [iB (mN p s), iB (mD p q s r)])) [some ⟨1, [vI .i64 (mE p q s r)], true⟩, some ⟨1, [.fn 50 []], true⟩, some ⟨1, [.fn 51 []], true⟩, some ⟨4, [vB (zN p), vS (zL p), vB (zN q), vS (zL q)], true⟩, some ⟨4, [vB (zN r), vS (zL r), vB (zN s), vS (zL s)], true⟩] := by
  refine VGp_of P_mixed Tryz.func33 rfl rfl (by kernel_rfl) (by simp) rfl <| Sq <| Rg <| Vs (Al 5 TZ24 rfl) <| Vs (Al 6 TZ24 rfl) <| Nx <| Sq <| Rg <| Vs (Mv rfl) <| Vs (Fa TF26_0 rfl) <| Vs (LdS TA24 TS24 rfl) <| Vs (Fa TF26_1 rfl) <| Vs (LdS TA24 TS24 rfl) <| Vs (Gd [0, 1] [] (us := [(0, some (⟨1, [vI .i64 (me (0) ((p) * (s)))], true⟩)), (1, some (⟨1, [.fn 50 []], true⟩))]) rfl (g124m (x := p) (y := s) inT inT (0)) rfl) <| Vs (StS TS24 rfl) <| Nx <| Sq <| Rd (by kernel_rfl) <| Vl (LdS TA24 TS24 rfl) <| Vl (Mv rfl) <| Vl (Fa TF26_1 rfl) <| Vl (LdS TA24 TS24 rfl) <| Vl (Fa TF26_0 rfl) <| Vl (LdS TA24 TS24 rfl) <| Vl (Gd [0, 1] [] (us := [(0, some (⟨1, [vI .i64 (me (me (0) ((p) * (s))) ((q) * (r)))], true⟩)), (1, some (⟨1, [.fn 50 []], true⟩))]) rfl (g124m (x := q) (y := r) inT inT (me (0) ((p) * (s)))) rfl) <| Vl (StS TS24 rfl) <| Vl (StS TS24 rfl) <| ?_
  refine VLog.nil ⟨by kernel_rfl, ?_⟩
  exact Tg <| Re <| Gf (L1' := [some (⟨1, [vI .i64 (me (me (0) ((p) * (s))) ((q) * (r)))], true⟩), some (⟨1, [.fn 50 []], true⟩), some (⟨1, [.fn 51 []], true⟩), some (⟨4, [vB (zN (p)), vS (zL (p)), vB (zN (q)), vS (zL (q))], true⟩), some (⟨4, [vB (zN (r)), vS (zL (r)), vB (zN (s)), vS (zL (s))], true⟩)]) [0, 1, 2, 3, 4] (.val _ _ _ _ _ (resV_cellS rfl rfl TA24 TS24 (Nat.le_of_ble_eq_true rfl)) rfl rfl (.val _ _ _ _ _ (resV_cellS rfl rfl TA24 TS24 (Nat.le_of_ble_eq_true rfl)) rfl rfl .nil)) (.vals _ [.agg [boolB (zN (mv (0) ((p) * (s)))), u32S (zL (mv (0) ((p) * (s))))], .agg [boolB (zN (mv (me (0) ((p) * (s))) ((q) * (r)))), u32S (zL (mv (me (0) ((p) * (s))) ((q) * (r))))]] rfl rfl) rfl rfl
end Go.VL

/- Walks over the Go functions, printed by a program of this session over the kit's print, and by hand. -/
set_option linter.unusedVariables false
set_option linter.unusedSimpArgs false
namespace Go.VL
open Go.Proofs
theorem g62 (n : Bool) (A : List Int) (m : Bool) (D : List Int) (n2 : Bool) (A2 : List Int) (m2 : Bool) (D2 : List Int) (hA : A.length ≤ 9223372036854775807) (hD : D.length ≤ 9223372036854775807) (hA2 : A2.length ≤ 9223372036854775807) (hD2 : D2.length ≤ 9223372036854775807) (oA : ok32 A) (oD : ok32 D) (oA2 : ok32 A2) (oD2 : ok32 D2) : VF Tryz.prog 31 [.sl 4 [boolB (n), u32S (A), boolB (m), u32S (D), boolB (n2), u32S (A2), boolB (m2), u32S (D2)]] (boolB (vR n A m D && vR n2 A2 m2 D2)) := by
  refine VF_of P_mixed Tryz.func31 rfl rfl (by kernel_rfl) <| Sq <| Rg <| Vs (As rfl) <| Nx <| Sq <| Sq <| Rg <| Vs (Mv rfl) <| Vs (Lw 2 TU71 rfl) <| Vs (Mv rfl) <| Nx <| Bk <| VCode.loop (α := ((Unit)) ⊕ ((Unit)) ⊕ ((Unit))) (fun x_ => match x_ with | .inl (u) => (0, sl [(5, .b (.sl 4 [boolB (n), u32S (A), boolB (m), u32S (D), boolB (n2), u32S (A2), boolB (m2), u32S (D2)])), (6, vI .i64 (2)), (7, vI .i64 (0))], en []) | .inr (.inl (u)) => (0, sl [(5, .b (.sl 4 [boolB (n), u32S (A), boolB (m), u32S (D), boolB (n2), u32S (A2), boolB (m2), u32S (D2)])), (6, vI .i64 (2)), (7, vI .i64 (1))], en []) | .inr (.inr (u)) => (0, sl [(5, .b (.sl 4 [boolB (n), u32S (A), boolB (m), u32S (D), boolB (n2), u32S (A2), boolB (m2), u32S (D2)])), (6, vI .i64 (2)), (7, vI .i64 (2))], en [])) (fun x_ => match x_ with | .inl (u) => True | .inr (.inl (u)) => vR n A m D = true | .inr (.inr (u)) => vR n A m D = true ∧ vR n2 A2 m2 D2 = true) (fun x_ => match x_ with | .inl (u) => 3 | .inr (.inl (u)) => 2 | .inr (.inr (u)) => 1) (.inl (())) trivial Wk ?_
  rintro (u | u | u) hok
  · change VCode _ _ _ 0 (sl _) (en _) _
    refine Sq <| Rg <| Vs (Bi (c := .bool true) rfl) <| Nx <| Sq <| Cy rfl <| Ks <| Tg <| Sq <| Bk <| Sq <| Rg <| Vs (IxS TU71 TS26 rfl) <| Vs (LqS TA26 TS26 rfl) <| Vs (Al 3 TZ26 rfl) <| Vs (StS TS26 rfl) <| Nx <| Sq <| Rg <| Vs (LdS TA26 TS26 rfl) <| Vs (Cf rfl rfl (g20 n A m D hA hD oA oD) rfl) <| Vs (Un rfl) <| Nx <| Cd rfl (fun hc1 => ?_) (fun hc1 => ?_)
    · replace hc1 := (bnot_t hc1)
      exact Sq <| Rg <| Vs (As rfl) <| Nx <| Re <| Iq <| Tr <| Or <| Iq <| Tr <| Fi (l := [boolB (false)]) (Rc (resVar_tmp rfl rfl) Rn) (by rw [hc1]; rfl)
    · replace hc1 := (bnot_f hc1)
      exact Ks <| Ig <| Tg <| Rg <| Vs (Bo rfl adI) <| Vs (Mv rfl) <| VList.nil <| Go (.inr (.inl (()))) hc1 Wk
  · change VCode _ _ _ 0 (sl _) (en _) _
    refine Sq <| Rg <| Vs (Bi (c := .bool true) rfl) <| Nx <| Sq <| Cy rfl <| Ks <| Tg <| Sq <| Bk <| Sq <| Rg <| Vs (IxS TU71 TS26 rfl) <| Vs (LqS TA26 TS26 rfl) <| Vs (Al 3 TZ26 rfl) <| Vs (StS TS26 rfl) <| Nx <| Sq <| Rg <| Vs (LdS TA26 TS26 rfl) <| Vs (Cf rfl rfl (g20 n2 A2 m2 D2 hA2 hD2 oA2 oD2) rfl) <| Vs (Un rfl) <| Nx <| Cd rfl (fun hc2 => ?_) (fun hc2 => ?_)
    · replace hc2 := (bnot_t hc2)
      exact Sq <| Rg <| Vs (As rfl) <| Nx <| Re <| Iq <| Tr <| Or <| Iq <| Tr <| Fi (l := [boolB (false)]) (Rc (resVar_tmp rfl rfl) Rn) (by rw [hok, hc2]; rfl)
    · replace hc2 := (bnot_f hc2)
      exact Ks <| Ig <| Tg <| Rg <| Vs (Bo rfl adI) <| Vs (Mv rfl) <| VList.nil <| Go (.inr (.inr (()))) ⟨hok, hc2⟩ Wk
  · change VCode _ _ _ 0 (sl _) (en _) _
    exact Sq <| Rg <| Vs (Bi (c := .bool false) rfl) <| Nx <| Sq <| Cz rfl <| Ke <| Te <| Oe <| Ih <| Tg <| Sq <| Rg <| Vs (As rfl) <| Nx <| Re <| Fi (l := [boolB (true)]) (Rc (resVar_tmp rfl rfl) Rn) (by rw [hok.1, hok.2]; rfl)
theorem g62q {p q r s : Int} (ha : okR p q) (hb : okR r s) : VF Tryz.prog 31 [.sl 4 [boolB (zN p), u32S (zL p), boolB (zN q), u32S (zL q), boolB (zN r), u32S (zL r), boolB (zN s), u32S (zL s)]] (boolB true) := by
  have := g62 (zN p) (zL p) (zN q) (zL q) (zN r) (zL r) (zN s) (zL s) (len_zL' _) (len_zL' _) (len_zL' _) (len_zL' _) (ok32_zL _) (ok32_zL _) (ok32_zL _) (ok32_zL _)
  rw [vR_ok ha, vR_ok hb] at this
  exact this
end Go.VL

/- Walks over the Go functions, printed by a program of this session over the kit's print, and by hand. -/
set_option linter.unusedVariables false
set_option linter.unusedSimpArgs false
namespace Go.VL
open Go.Proofs
theorem g82i (f : FuncId) (n : Bool) (A : List Int) (m : Bool) (D : List Int) (n2 : Bool) (A2 : List Int) (m2 : Bool) (D2 : List Int) (hA : A.length ≤ 9223372036854775807) (hD : D.length ≤ 9223372036854775807) (hA2 : A2.length ≤ 9223372036854775807) (hD2 : D2.length ≤ 9223372036854775807) (oA : ok32 A) (oD : ok32 D) (oA2 : ok32 A2) (oD2 : ok32 D2) (h : (vR n A m D && vR n2 A2 m2 D2) = false) : VG Tryz.prog 22 [.b (.agg [boolB (n), u32S (A), boolB (m), u32S (D)]), .b (.agg [boolB (n2), u32S (A2), boolB (m2), u32S (D2)]), .fn f [.ptr 0 (0), .ptr 1 (0)]] [⟨4, [vB (n), vS (A), vB (m), vS (D)], true⟩, ⟨4, [vB (n2), vS (A2), vB (m2), vS (D2)], true⟩] (.b (rR 0 0 1)) [some ⟨4, [vB n, vS A, vB m, vS D], true⟩, some ⟨4, [vB n2, vS A2, vB m2, vS D2], true⟩] := by
  refine VGp_of P_mixed Tryz.func22 rfl rfl (by kernel_rfl) (by simp) rfl <| Sq <| Rg <| Vs (Bx 2 rfl) <| Vs (Bx 3 rfl) <| Vs (Al 4 TZ26 rfl) <| Vs (As rfl) <| Nx <| Sq <| Sq <| Rg <| Vs (LdS TA26 TS26 rfl) <| Vs (LdS TA26 TS26 rfl) <| Vs (sq1 8 rfl (.buildS _ 2 _ 26 [.agg [vB (n), vS (A), vB (m), vS (D)], .agg [vB (n2), vS (A2), vB (m2), vS (D2)]] 4 _ [vB (n), vS (A), vB (m), vS (D), vB (n2), vS (A2), vB (m2), vS (D2)] rfl TU71 TZ26 TS26 (List.cons_ne_nil _ _) (by decide) rfl rfl)) <| Vs (Cf rfl rfl (g62 n A m D n2 A2 m2 D2 hA hD hA2 hD2 oA oD oA2 oD2) rfl) <| Vs (Un rfl) <| Nx <| Cd rfl (fun hc1 => ?_) (fun hc1 => ?_)
  · replace hc1 := (bnot_t hc1)
    exact Sq <| Rg <| Vs (Bd TQ26 rfl) <| Vs (StS TS26 rfl) <| Vs (As rfl) <| Nx <| Re <| Tr <| Gf (L1' := [some (⟨4, [vB (n), vS (A), vB (m), vS (D)], true⟩), some (⟨4, [vB (n2), vS (A2), vB (m2), vS (D2)], true⟩)]) [0, 1] (.val _ _ _ _ _ (resV_cellS rfl rfl TA26 TS26 (Nat.le_of_ble_eq_true rfl)) rfl rfl (.val _ _ _ _ _ rfl rfl rfl .nil)) (.vals _ [.agg [boolB (false), u32S ([]), boolB (false), u32S ([])], numB .i64 (1)] rfl rfl) (by rw [rR, qB_zero]) rfl
  · replace hc1 := (bnot_f hc1)
    rw [h] at hc1; cases hc1
theorem g82 {f : FuncId} {p q r s num den e : Int} (ha : okR p q) (hb : okR r s) (hn : inB num = true) (hd : inB den = true) (h0 : e = 0 → den ≠ 0) (hf : VG Tryz.prog f [.fn 49 [.ptr 0 0, .ptr 1 0], .fn 49 [.ptr 0 0, .ptr 2 0], .ptr 3 0, .ptr 4 0] [⟨1, [vI .i64 0], true⟩, ⟨1, [.fn 50 []], true⟩, ⟨1, [.fn 51 []], true⟩, ⟨4, [vB (zN p), vS (zL p), vB (zN q), vS (zL q)], true⟩, ⟨4, [vB (zN r), vS (zL r), vB (zN s), vS (zL s)], true⟩] (.b (.tup [iB num, iB den])) [some ⟨1, [vI .i64 e], true⟩, some ⟨1, [.fn 50 []], true⟩, some ⟨1, [.fn 51 []], true⟩, some ⟨4, [vB (zN p), vS (zL p), vB (zN q), vS (zL q)], true⟩, some ⟨4, [vB (zN r), vS (zL r), vB (zN s), vS (zL s)], true⟩]) : VG Tryz.prog 22 [.b (.agg [boolB (zN (p)), u32S (zL (p)), boolB (zN (q)), u32S (zL (q))]), .b (.agg [boolB (zN (r)), u32S (zL (r)), boolB (zN (s)), u32S (zL (s))]), .fn f [.ptr 0 (0), .ptr 1 (0)]] [⟨4, [vB (zN (p)), vS (zL (p)), vB (zN (q)), vS (zL (q))], true⟩, ⟨4, [vB (zN (r)), vS (zL (r)), vB (zN (s)), vS (zL (s))], true⟩] (.b (rR (opN e num den) (opD e num den) e)) [some ⟨4, [vB (zN p), vS (zL p), vB (zN q), vS (zL q)], true⟩, some ⟨4, [vB (zN r), vS (zL r), vB (zN s), vS (zL s)], true⟩] := by
  refine VGp_of P_mixed Tryz.func22 rfl rfl (by kernel_rfl) (by simp) rfl <| Sq <| Rg <| Vs (Bx 2 rfl) <| Vs (Bx 3 rfl) <| Vs (Al 4 TZ26 rfl) <| Vs (As rfl) <| Nx <| Sq <| Sq <| Rg <| Vs (LdS TA26 TS26 rfl) <| Vs (LdS TA26 TS26 rfl) <| Vs (sq1 8 rfl (.buildS _ 2 _ 26 [.agg [vB (zN (p)), vS (zL (p)), vB (zN (q)), vS (zL (q))], .agg [vB (zN (r)), vS (zL (r)), vB (zN (s)), vS (zL (s))]] 4 _ [vB (zN (p)), vS (zL (p)), vB (zN (q)), vS (zL (q)), vB (zN (r)), vS (zL (r)), vB (zN (s)), vS (zL (s))] rfl TU71 TZ26 TS26 (List.cons_ne_nil _ _) (by decide) rfl rfl)) <| Vs (Cf rfl rfl (g62q ha hb) rfl) <| Vs (Un rfl) <| Nx <| Cz rfl <| Ks <| Tg <| Sq <| Rg <| Vs (Al 11 TZ28 rfl) <| Vs (St TS28 rfl) <| Nx <| Sq <| Rg <| Vs (Mf rfl) <| Vs (As rfl) <| Nx <| Sq <| Rg <| Vs (Mv rfl) <| Vs (Mv rfl) <| Gn 17 [11] [] (v := .fn 49 [.ptr 11 (0), .ptr 17 (0)]) [(0, ⟨4, [vB (zN (p)), vS (zL (p)), vB (zN (q)), vS (zL (q))], true⟩), (1, ⟨4, [vB (zN (r)), vS (zL (r)), vB (zN (s)), vS (zL (s))], true⟩), (2, ⟨4, [vB (zN (p)), vS (zL (p)), vB (zN (q)), vS (zL (q))], true⟩), (3, ⟨4, [vB (zN (r)), vS (zL (r)), vB (zN (s)), vS (zL (s))], true⟩), (4, ⟨4, [vB (false), vS ([]), vB (false), vS ([])], true⟩), (8, ⟨4, [vB (zN (p)), vS (zL (p)), vB (zN (q)), vS (zL (q)), vB (zN (r)), vS (zL (r)), vB (zN (s)), vS (zL (s))], true⟩), (11, ⟨1, [vI .i64 (0)], true⟩), (17, ⟨1, [.fn 50 []], true⟩)] rfl (g123 50 (0)) rfl <| Vs (Mv rfl) <| Gn 20 [11] [] (v := .fn 49 [.ptr 11 (0), .ptr 20 (0)]) [(0, ⟨4, [vB (zN (p)), vS (zL (p)), vB (zN (q)), vS (zL (q))], true⟩), (1, ⟨4, [vB (zN (r)), vS (zL (r)), vB (zN (s)), vS (zL (s))], true⟩), (2, ⟨4, [vB (zN (p)), vS (zL (p)), vB (zN (q)), vS (zL (q))], true⟩), (3, ⟨4, [vB (zN (r)), vS (zL (r)), vB (zN (s)), vS (zL (s))], true⟩), (4, ⟨4, [vB (false), vS ([]), vB (false), vS ([])], true⟩), (8, ⟨4, [vB (zN (p)), vS (zL (p)), vB (zN (q)), vS (zL (q)), vB (zN (r)), vS (zL (r)), vB (zN (s)), vS (zL (s))], true⟩), (11, ⟨1, [vI .i64 (0)], true⟩), (17, ⟨1, [.fn 50 []], true⟩), (20, ⟨1, [.fn 51 []], true⟩)] rfl (g123 51 (0)) rfl <| Vs (Gd [11, 17, 20, 0, 1] [] (us := [(11, some (⟨1, [vI .i64 (e)], true⟩)), (17, some (⟨1, [.fn 50 []], true⟩)), (20, some (⟨1, [.fn 51 []], true⟩)), (0, some (⟨4, [vB (zN (p)), vS (zL (p)), vB (zN (q)), vS (zL (q))], true⟩)), (1, some (⟨4, [vB (zN (r)), vS (zL (r)), vB (zN (s)), vS (zL (s))], true⟩))]) rfl (hf) rfl) <| Vs (Mv rfl) <| Vs (Xt rfl) <| Vs (Xt rfl) <| Vs (Al 26 TZ24 rfl) <| Vs (Al 27 TZ24 rfl) <| Vs (StS TS24 rfl) <| Vs (StS TS24 rfl) <| Nx <| Sq <| Sq <| Rg <| Vs (Ld TA28 rfl) <| Vs (Bi rfl) <| Nx <| Cd rfl (fun hc1 => ?_) (fun hc1 => ?_)
  · replace hc1 := bne_iff_ne.1 hc1
    refine Sq <| Rd (by kernel_rfl) <| Vl (Bd TQ26 rfl) <| Vl (Ld TA28 rfl) <| Vl (StS TS26 rfl) <| Vl (As rfl) <| ?_
    refine VLog.nil ⟨by kernel_rfl, ?_⟩
    exact Tg <| Re <| Tr <| Gf (L1' := [some (⟨4, [vB (zN (p)), vS (zL (p)), vB (zN (q)), vS (zL (q))], true⟩), some (⟨4, [vB (zN (r)), vS (zL (r)), vB (zN (s)), vS (zL (s))], true⟩)]) [0, 1] (.val _ _ _ _ _ (resV_cellS rfl rfl TA26 TS26 (Nat.le_of_ble_eq_true rfl)) rfl rfl (.val _ _ _ _ _ rfl rfl rfl .nil)) (.vals _ [.agg [boolB (false), u32S ([]), boolB (false), u32S ([])], numB .i64 (e)] rfl rfl) (by rw [opN, opD, if_neg hc1, if_neg hc1, rR, qB_zero]) rfl
  · replace hc1 := bne_eq_false_iff_eq.1 hc1
    exact Ks <| Tg <| Sq <| Rg <| Vs (LdS TA24 TS24 rfl) <| Vs (LdS TA24 TS24 rfl) <| Vs (C0 rfl rfl (g52 (x := num) (y := den) inT inT (h0 hc1))) <| Vs (StS TS26 rfl) <| Vs (As rfl) <| Nx <| Re <| Gf (L1' := [some (⟨4, [vB (zN (p)), vS (zL (p)), vB (zN (q)), vS (zL (q))], true⟩), some (⟨4, [vB (zN (r)), vS (zL (r)), vB (zN (s)), vS (zL (s))], true⟩)]) [0, 1] (.val _ _ _ _ _ (resV_cellS rfl rfl TA26 TS26 (Nat.le_of_ble_eq_true rfl)) rfl rfl (.val _ _ _ _ _ rfl rfl rfl .nil)) (.vals _ [.agg [boolB (zN (rdN (num) (den))), u32S (zL (rdN (num) (den))), boolB (zN (rdD (num) (den))), u32S (zL (rdD (num) (den)))], numB .i64 (0)] rfl rfl) (by subst hc1; rfl) rfl
end Go.VL

/- Walks over the Go functions, printed by a program of this session over the kit's print, and by hand. -/
set_option linter.unusedVariables false
set_option linter.unusedSimpArgs false
namespace Go.VL
open Go.Proofs
theorem g39i (n : Bool) (A : List Int) (m : Bool) (D : List Int) (n2 : Bool) (A2 : List Int) (m2 : Bool) (D2 : List Int) (hA : A.length ≤ 9223372036854775807) (hD : D.length ≤ 9223372036854775807) (hA2 : A2.length ≤ 9223372036854775807) (hD2 : D2.length ≤ 9223372036854775807) (oA : ok32 A) (oD : ok32 D) (oA2 : ok32 A2) (oD2 : ok32 D2) (h : (vR n A m D && vR n2 A2 m2 D2) = false) : VF Tryz.prog 5 [.agg [boolB (n), u32S (A), boolB (m), u32S (D)], .agg [boolB (n2), u32S (A2), boolB (m2), u32S (D2)]] (rR 0 0 1) := by
  exact VF_of P_mixed Tryz.func5 rfl rfl (by kernel_rfl) <| Sq <| Rg <| Vs (Bx 0 rfl) <| Vs (Bx 1 rfl) <| Vs (Al 2 TZ26 rfl) <| Vs (As rfl) <| Nx <| Sq <| Rg <| Vs (LdS TA26 TS26 rfl) <| Vs (LdS TA26 TS26 rfl) <| Vs (Mf rfl) <| Vs (Gd [0, 1] [] (us := [(0, some (⟨4, [vB (n), vS (A), vB (m), vS (D)], true⟩)), (1, some (⟨4, [vB (n2), vS (A2), vB (m2), vS (D2)], true⟩))]) rfl (g82i 23 n A m D n2 A2 m2 D2 hA hD hA2 hD2 oA oD oA2 oD2 h) rfl) <| Vs (Xt rfl) <| Vs (Xt rfl) <| Vs (StS TS26 rfl) <| Vs (As rfl) <| Nx <| Re <| Fi (l := [.agg [boolB (zN (0)), u32S (zL (0)), boolB (zN (0)), u32S (zL (0))], numB .i64 (1)]) (Rc (resVar_cell rfl rfl TA26 TS26 (Nat.le_of_ble_eq_true rfl) rfl) (Rc (resVar_tmp rfl rfl) Rn)) rfl
theorem g39 {p q r s : Int} (ha : okR p q) (hb : okR r s) : VF Tryz.prog 5 [.agg [boolB (zN (p)), u32S (zL (p)), boolB (zN (q)), u32S (zL (q))], .agg [boolB (zN (r)), u32S (zL (r)), boolB (zN (s)), u32S (zL (s))]] (rR (qN (addOk p q r s) (p * s + r * q) (q * s)) (qD (addOk p q r s) (p * s + r * q) (q * s)) (qF (addOk p q r s))) := by
  exact VF_of P_mixed Tryz.func5 rfl rfl (by kernel_rfl) <| Sq <| Rg <| Vs (Bx 0 rfl) <| Vs (Bx 1 rfl) <| Vs (Al 2 TZ26 rfl) <| Vs (As rfl) <| Nx <| Sq <| Rg <| Vs (LdS TA26 TS26 rfl) <| Vs (LdS TA26 TS26 rfl) <| Vs (Mf rfl) <| Vs (Gd [0, 1] [] (us := [(0, some (⟨4, [vB (zN (p)), vS (zL (p)), vB (zN (q)), vS (zL (q))], true⟩)), (1, some (⟨4, [vB (zN (r)), vS (zL (r)), vB (zN (s)), vS (zL (s))], true⟩))]) rfl (g82 ha hb (in_mv _ _) (in_mv _ _) (add_den ha hb) (g83 ha.2.2.1 ha.2.2.2 hb.2.2.1 hb.2.2.2)) rfl) <| Vs (Xt rfl) <| Vs (Xt rfl) <| Vs (StS TS26 rfl) <| Vs (As rfl) <| Nx <| Re <| Fi (l := [.agg [boolB (zN (opN (aE p q r s) (aN p q r s) (aD p q r s))), u32S (zL (opN (aE p q r s) (aN p q r s) (aD p q r s))), boolB (zN (opD (aE p q r s) (aN p q r s) (aD p q r s))), u32S (zL (opD (aE p q r s) (aN p q r s) (aD p q r s)))], numB .i64 (aE p q r s)]) (Rc (resVar_cell rfl rfl TA26 TS26 (Nat.le_of_ble_eq_true rfl) rfl) (Rc (resVar_tmp rfl rfl) Rn)) (op_close (add_spec _ _ _ _)).symm
theorem g44i (n : Bool) (A : List Int) (m : Bool) (D : List Int) (n2 : Bool) (A2 : List Int) (m2 : Bool) (D2 : List Int) (hA : A.length ≤ 9223372036854775807) (hD : D.length ≤ 9223372036854775807) (hA2 : A2.length ≤ 9223372036854775807) (hD2 : D2.length ≤ 9223372036854775807) (oA : ok32 A) (oD : ok32 D) (oA2 : ok32 A2) (oD2 : ok32 D2) (h : (vR n A m D && vR n2 A2 m2 D2) = false) : VF Tryz.prog 8 [.agg [boolB (n), u32S (A), boolB (m), u32S (D)], .agg [boolB (n2), u32S (A2), boolB (m2), u32S (D2)]] (rR 0 0 1) := by
  exact VF_of P_mixed Tryz.func8 rfl rfl (by kernel_rfl) <| Sq <| Rg <| Vs (Bx 0 rfl) <| Vs (Bx 1 rfl) <| Vs (Al 2 TZ26 rfl) <| Vs (As rfl) <| Nx <| Sq <| Rg <| Vs (LdS TA26 TS26 rfl) <| Vs (LdS TA26 TS26 rfl) <| Vs (Mf rfl) <| Vs (Gd [0, 1] [] (us := [(0, some (⟨4, [vB (n), vS (A), vB (m), vS (D)], true⟩)), (1, some (⟨4, [vB (n2), vS (A2), vB (m2), vS (D2)], true⟩))]) rfl (g82i 25 n A m D n2 A2 m2 D2 hA hD hA2 hD2 oA oD oA2 oD2 h) rfl) <| Vs (Xt rfl) <| Vs (Xt rfl) <| Vs (StS TS26 rfl) <| Vs (As rfl) <| Nx <| Re <| Fi (l := [.agg [boolB (zN (0)), u32S (zL (0)), boolB (zN (0)), u32S (zL (0))], numB .i64 (1)]) (Rc (resVar_cell rfl rfl TA26 TS26 (Nat.le_of_ble_eq_true rfl) rfl) (Rc (resVar_tmp rfl rfl) Rn)) rfl
theorem g44 {p q r s : Int} (ha : okR p q) (hb : okR r s) : VF Tryz.prog 8 [.agg [boolB (zN (p)), u32S (zL (p)), boolB (zN (q)), u32S (zL (q))], .agg [boolB (zN (r)), u32S (zL (r)), boolB (zN (s)), u32S (zL (s))]] (rR (qN (subOk p q r s) (p * s - r * q) (q * s)) (qD (subOk p q r s) (p * s - r * q) (q * s)) (qF (subOk p q r s))) := by
  exact VF_of P_mixed Tryz.func8 rfl rfl (by kernel_rfl) <| Sq <| Rg <| Vs (Bx 0 rfl) <| Vs (Bx 1 rfl) <| Vs (Al 2 TZ26 rfl) <| Vs (As rfl) <| Nx <| Sq <| Rg <| Vs (LdS TA26 TS26 rfl) <| Vs (LdS TA26 TS26 rfl) <| Vs (Mf rfl) <| Vs (Gd [0, 1] [] (us := [(0, some (⟨4, [vB (zN (p)), vS (zL (p)), vB (zN (q)), vS (zL (q))], true⟩)), (1, some (⟨4, [vB (zN (r)), vS (zL (r)), vB (zN (s)), vS (zL (s))], true⟩))]) rfl (g82 ha hb (in_mv _ _) (in_mv _ _) (sub_den ha hb) (g91 ha.2.2.1 ha.2.2.2 hb.2.2.1 hb.2.2.2)) rfl) <| Vs (Xt rfl) <| Vs (Xt rfl) <| Vs (StS TS26 rfl) <| Vs (As rfl) <| Nx <| Re <| Fi (l := [.agg [boolB (zN (opN (sE p q r s) (sN p q r s) (sD p q r s))), u32S (zL (opN (sE p q r s) (sN p q r s) (sD p q r s))), boolB (zN (opD (sE p q r s) (sN p q r s) (sD p q r s))), u32S (zL (opD (sE p q r s) (sN p q r s) (sD p q r s)))], numB .i64 (sE p q r s)]) (Rc (resVar_cell rfl rfl TA26 TS26 (Nat.le_of_ble_eq_true rfl) rfl) (Rc (resVar_tmp rfl rfl) Rn)) (op_close (sub_spec _ _ _ _)).symm
theorem g40i (n : Bool) (A : List Int) (m : Bool) (D : List Int) (n2 : Bool) (A2 : List Int) (m2 : Bool) (D2 : List Int) (hA : A.length ≤ 9223372036854775807) (hD : D.length ≤ 9223372036854775807) (hA2 : A2.length ≤ 9223372036854775807) (hD2 : D2.length ≤ 9223372036854775807) (oA : ok32 A) (oD : ok32 D) (oA2 : ok32 A2) (oD2 : ok32 D2) (h : (vR n A m D && vR n2 A2 m2 D2) = false) : VF Tryz.prog 10 [.agg [boolB (n), u32S (A), boolB (m), u32S (D)], .agg [boolB (n2), u32S (A2), boolB (m2), u32S (D2)]] (rR 0 0 1) := by
  exact VF_of P_mixed Tryz.func10 rfl rfl (by kernel_rfl) <| Sq <| Rg <| Vs (Bx 0 rfl) <| Vs (Bx 1 rfl) <| Vs (Al 2 TZ26 rfl) <| Vs (As rfl) <| Nx <| Sq <| Rg <| Vs (LdS TA26 TS26 rfl) <| Vs (LdS TA26 TS26 rfl) <| Vs (Mf rfl) <| Vs (Gd [0, 1] [] (us := [(0, some (⟨4, [vB (n), vS (A), vB (m), vS (D)], true⟩)), (1, some (⟨4, [vB (n2), vS (A2), vB (m2), vS (D2)], true⟩))]) rfl (g82i 27 n A m D n2 A2 m2 D2 hA hD hA2 hD2 oA oD oA2 oD2 h) rfl) <| Vs (Xt rfl) <| Vs (Xt rfl) <| Vs (StS TS26 rfl) <| Vs (As rfl) <| Nx <| Re <| Fi (l := [.agg [boolB (zN (0)), u32S (zL (0)), boolB (zN (0)), u32S (zL (0))], numB .i64 (1)]) (Rc (resVar_cell rfl rfl TA26 TS26 (Nat.le_of_ble_eq_true rfl) rfl) (Rc (resVar_tmp rfl rfl) Rn)) rfl
theorem g40 {p q r s : Int} (ha : okR p q) (hb : okR r s) : VF Tryz.prog 10 [.agg [boolB (zN (p)), u32S (zL (p)), boolB (zN (q)), u32S (zL (q))], .agg [boolB (zN (r)), u32S (zL (r)), boolB (zN (s)), u32S (zL (s))]] (rR (qN (mulOk p q r s) (p * r) (q * s)) (qD (mulOk p q r s) (p * r) (q * s)) (qF (mulOk p q r s))) := by
  exact VF_of P_mixed Tryz.func10 rfl rfl (by kernel_rfl) <| Sq <| Rg <| Vs (Bx 0 rfl) <| Vs (Bx 1 rfl) <| Vs (Al 2 TZ26 rfl) <| Vs (As rfl) <| Nx <| Sq <| Rg <| Vs (LdS TA26 TS26 rfl) <| Vs (LdS TA26 TS26 rfl) <| Vs (Mf rfl) <| Vs (Gd [0, 1] [] (us := [(0, some (⟨4, [vB (zN (p)), vS (zL (p)), vB (zN (q)), vS (zL (q))], true⟩)), (1, some (⟨4, [vB (zN (r)), vS (zL (r)), vB (zN (s)), vS (zL (s))], true⟩))]) rfl (g82 ha hb (in_mv _ _) (in_mv _ _) (mul_den (Int.ne_of_gt ha.1) (Int.ne_of_gt hb.1)) (g84 ha.2.2.1 ha.2.2.2 hb.2.2.1 hb.2.2.2)) rfl) <| Vs (Xt rfl) <| Vs (Xt rfl) <| Vs (StS TS26 rfl) <| Vs (As rfl) <| Nx <| Re <| Fi (l := [.agg [boolB (zN (opN (mE p q r s) (mN p r) (mD p q r s))), u32S (zL (opN (mE p q r s) (mN p r) (mD p q r s))), boolB (zN (opD (mE p q r s) (mN p r) (mD p q r s))), u32S (zL (opD (mE p q r s) (mN p r) (mD p q r s)))], numB .i64 (mE p q r s)]) (Rc (resVar_cell rfl rfl TA26 TS26 (Nat.le_of_ble_eq_true rfl) rfl) (Rc (resVar_tmp rfl rfl) Rn)) (op_close (mul_spec _ _ _ _)).symm
theorem g46i (n : Bool) (A : List Int) (m : Bool) (D : List Int) (n2 : Bool) (A2 : List Int) (m2 : Bool) (D2 : List Int) (hA : A.length ≤ 9223372036854775807) (hD : D.length ≤ 9223372036854775807) (hA2 : A2.length ≤ 9223372036854775807) (hD2 : D2.length ≤ 9223372036854775807) (oA : ok32 A) (oD : ok32 D) (oA2 : ok32 A2) (oD2 : ok32 D2) (h : (vR n A m D && vR n2 A2 m2 D2) = false) : VF Tryz.prog 12 [.agg [boolB (n), u32S (A), boolB (m), u32S (D)], .agg [boolB (n2), u32S (A2), boolB (m2), u32S (D2)]] (rR 0 0 1) := by
  exact VF_of P_mixed Tryz.func12 rfl rfl (by kernel_rfl) <| Sq <| Rg <| Vs (Bx 0 rfl) <| Vs (Bx 1 rfl) <| Vs (Al 2 TZ26 rfl) <| Vs (As rfl) <| Nx <| Sq <| Sq <| Rg <| Vs (LdS TA26 TS26 rfl) <| Vs (LdS TA26 TS26 rfl) <| Vs (sq1 6 rfl (.buildS _ 2 _ 26 [.agg [vB (n), vS (A), vB (m), vS (D)], .agg [vB (n2), vS (A2), vB (m2), vS (D2)]] 4 _ [vB (n), vS (A), vB (m), vS (D), vB (n2), vS (A2), vB (m2), vS (D2)] rfl TU71 TZ26 TS26 (List.cons_ne_nil _ _) (by decide) rfl rfl)) <| Vs (Kb (show (vR n A m D && vR n2 A2 m2 D2) = false from h) (Cf rfl rfl (g62 n A m D n2 A2 m2 D2 hA hD hA2 hD2 oA oD oA2 oD2) rfl)) <| Vs (Mv rfl) <| Sk rfl <| Sk rfl <| Sk rfl <| Vs (Pk rfl) <| Nx <| Cz rfl <| Ks <| Tg <| Sq <| Rg <| Vs (LdS TA26 TS26 rfl) <| Vs (LdS TA26 TS26 rfl) <| Vs (Mf rfl) <| Vs (Gd [0, 1] [] (us := [(0, some (⟨4, [vB (n), vS (A), vB (m), vS (D)], true⟩)), (1, some (⟨4, [vB (n2), vS (A2), vB (m2), vS (D2)], true⟩))]) rfl (g82i 33 n A m D n2 A2 m2 D2 hA hD hA2 hD2 oA oD oA2 oD2 h) rfl) <| Vs (Xt rfl) <| Vs (Xt rfl) <| Vs (StS TS26 rfl) <| Vs (As rfl) <| Nx <| Re <| Fi (l := [.agg [boolB (zN (0)), u32S (zL (0)), boolB (zN (0)), u32S (zL (0))], numB .i64 (1)]) (Rc (resVar_cell rfl rfl TA26 TS26 (Nat.le_of_ble_eq_true rfl) rfl) (Rc (resVar_tmp rfl rfl) Rn)) rfl
theorem g46 {p q r s : Int} (ha : okR p q) (hb : okR r s) (h0 : r ≠ 0) : VF Tryz.prog 12 [.agg [boolB (zN (p)), u32S (zL (p)), boolB (zN (q)), u32S (zL (q))], .agg [boolB (zN (r)), u32S (zL (r)), boolB (zN (s)), u32S (zL (s))]] (rR (qN (mulOk p q s r) (p * s) (q * r)) (qD (mulOk p q s r) (p * s) (q * r)) (qF (mulOk p q s r))) := by
  exact VF_of P_mixed Tryz.func12 rfl rfl (by kernel_rfl) <| Sq <| Rg <| Vs (Bx 0 rfl) <| Vs (Bx 1 rfl) <| Vs (Al 2 TZ26 rfl) <| Vs (As rfl) <| Nx <| Sq <| Sq <| Rg <| Vs (LdS TA26 TS26 rfl) <| Vs (LdS TA26 TS26 rfl) <| Vs (sq1 6 rfl (.buildS _ 2 _ 26 [.agg [vB (zN (p)), vS (zL (p)), vB (zN (q)), vS (zL (q))], .agg [vB (zN (r)), vS (zL (r)), vB (zN (s)), vS (zL (s))]] 4 _ [vB (zN (p)), vS (zL (p)), vB (zN (q)), vS (zL (q)), vB (zN (r)), vS (zL (r)), vB (zN (s)), vS (zL (s))] rfl TU71 TZ26 TS26 (List.cons_ne_nil _ _) (by decide) rfl rfl)) <| Vs (Cf rfl rfl (g62q ha hb) rfl) <| Vs (Mv rfl) <| Vs (Fa TF26_0 rfl) <| Vs (LdS TA24 TS24 rfl) <| Vs (Kb (show decide (r = 0) = false from (decide_eq_false h0)) (Cf rfl rfl (g51 (z := r) (hb.2.2.1)) rfl)) <| Vs (Pk rfl) <| Nx <| Cz rfl <| Ks <| Tg <| Sq <| Rg <| Vs (LdS TA26 TS26 rfl) <| Vs (LdS TA26 TS26 rfl) <| Vs (Mf rfl) <| Vs (Gd [0, 1] [] (us := [(0, some (⟨4, [vB (zN (p)), vS (zL (p)), vB (zN (q)), vS (zL (q))], true⟩)), (1, some (⟨4, [vB (zN (r)), vS (zL (r)), vB (zN (s)), vS (zL (s))], true⟩))]) rfl (g82 ha hb (in_mv _ _) (in_mv _ _) (mul_den (Int.ne_of_gt ha.1) h0) (g92 ha.2.2.1 ha.2.2.2 hb.2.2.1 hb.2.2.2)) rfl) <| Vs (Xt rfl) <| Vs (Xt rfl) <| Vs (StS TS26 rfl) <| Vs (As rfl) <| Nx <| Re <| Fi (l := [.agg [boolB (zN (opN (mE p q s r) (mN p s) (mD p q s r))), u32S (zL (opN (mE p q s r) (mN p s) (mD p q s r))), boolB (zN (opD (mE p q s r) (mN p s) (mD p q s r))), u32S (zL (opD (mE p q s r) (mN p s) (mD p q s r)))], numB .i64 (mE p q s r)]) (Rc (resVar_cell rfl rfl TA26 TS26 (Nat.le_of_ble_eq_true rfl) rfl) (Rc (resVar_tmp rfl rfl) Rn)) (op_close (mul_spec _ _ _ _)).symm
theorem g46z {p q s : Int} (ha : okR p q) (hb : okR 0 s) : VF Tryz.prog 12 [.agg [boolB (zN (p)), u32S (zL (p)), boolB (zN (q)), u32S (zL (q))], .agg [boolB (zN (0)), u32S (zL (0)), boolB (zN (s)), u32S (zL (s))]] (rR 0 0 4) := by
  exact VF_of P_mixed Tryz.func12 rfl rfl (by kernel_rfl) <| Sq <| Rg <| Vs (Bx 0 rfl) <| Vs (Bx 1 rfl) <| Vs (Al 2 TZ26 rfl) <| Vs (As rfl) <| Nx <| Sq <| Sq <| Rg <| Vs (LdS TA26 TS26 rfl) <| Vs (LdS TA26 TS26 rfl) <| Vs (sq1 6 rfl (.buildS _ 2 _ 26 [.agg [vB (zN (p)), vS (zL (p)), vB (zN (q)), vS (zL (q))], .agg [vB (zN (0)), vS (zL (0)), vB (zN (s)), vS (zL (s))]] 4 _ [vB (zN (p)), vS (zL (p)), vB (zN (q)), vS (zL (q)), vB (zN (0)), vS (zL (0)), vB (zN (s)), vS (zL (s))] rfl TU71 TZ26 TS26 (List.cons_ne_nil _ _) (by decide) rfl rfl)) <| Vs (Cf rfl rfl (g62q ha hb) rfl) <| Vs (Mv rfl) <| Vs (Fa TF26_0 rfl) <| Vs (LdS TA24 TS24 rfl) <| Vs (Kb (show decide (0 = 0) = true from (decide_eq_true rfl)) (Cf rfl rfl (g51 (z := 0) inT) rfl)) <| Vs (Pk rfl) <| Nx <| Cy rfl <| Sq <| Rg <| Vs (Bd TQ26 rfl) <| Vs (StS TS26 rfl) <| Vs (As rfl) <| Nx <| Re <| Tr <| Fi (l := [.agg [boolB (false), u32S ([]), boolB (false), u32S ([])], numB .i64 (4)]) (Rc (resVar_cell rfl rfl TA26 TS26 (Nat.le_of_ble_eq_true rfl) rfl) (Rc (resVar_tmp rfl rfl) Rn)) (by rw [rR, qB_zero]; rfl)
end Go.VL

/- Walks over the Go functions, printed by a program of this session over the kit's print, and by hand. -/
set_option linter.unusedVariables false
set_option linter.unusedSimpArgs false
namespace Go.VL
open Go.Proofs
theorem g63 {p q r s : Int} (hp : inB p = true) (hq : inB q = true) (hr : inB r = true) (hs : inB s = true) (q0 : 0 < q) (s0 : 0 < s) : VF Tryz.prog 40 [.agg [boolB (zN (p)), u32S (zL (p)), boolB (zN (q)), u32S (zL (q))], .agg [boolB (zN (r)), u32S (zL (r)), boolB (zN (s)), u32S (zL (s))]] (numB .i64 (cmp3 (p * s) (r * q))) := by
  refine VF_of P_mixed Tryz.func40 rfl rfl (by kernel_rfl) <| Sq <| Rg <| Vs (Bx 0 rfl) <| Vs (Bx 1 rfl) <| Vs (As rfl) <| Nx <| Sq <| Rd (by kernel_rfl) <| Vl (Fa TF26_0 rfl) <| Vl (LdS TA24 TS24 rfl) <| Vl (Fa TF26_1 rfl) <| Vl (LdS TA24 TS24 rfl) <| Vl (Fa TF26_0 rfl) <| Vl (LdS TA24 TS24 rfl) <| Vl (Fa TF26_1 rfl) <| Vl (LdS TA24 TS24 rfl) <| Vl (Al 11 TZ24 rfl) <| Vl (Al 12 TZ24 rfl) <| Vl (Al 13 TZ24 rfl) <| Vl (Al 14 TZ24 rfl) <| Vl (StS TS24 rfl) <| Vl (StS TS24 rfl) <| Vl (StS TS24 rfl) <| Vl (StS TS24 rfl) <| ?_
  refine VLog.nil ⟨by kernel_rfl, ?_⟩
  refine Tg <| Sq <| Rg <| Vs (As rfl) <| Nx <| Bk <| VCode.loop (α := (Int) × (Int) × (Int) × (Int) × (Int)) (fun x_ => match x_ with | (n, d, m, f, g) => (15, sl [(5, .ptr 11 (0)), (6, .ptr 12 (0)), (7, .ptr 13 (0)), (8, .ptr 14 (0)), (9, vI .i64 (g))], en [(11, ⟨2, [vB (zN (n)), vS (zL (n))], true⟩), (12, ⟨2, [vB (zN (d)), vS (zL (d))], true⟩), (13, ⟨2, [vB (zN (m)), vS (zL (m))], true⟩), (14, ⟨2, [vB (zN (f)), vS (zL (f))], true⟩)])) (fun x_ => match x_ with | (n, d, m, f, g) => CmpI (cmp3 (p * s) (r * q)) n d m f g) (fun x_ => match x_ with | (n, d, m, f, g) => d.toNat) (p, q, r, s, 1) (CmpI.start q0 s0 hp hq hr hs rfl) Wk ?_
  rintro ⟨n, d, m, f, g⟩ hok
  obtain ⟨in1, in2, in3, in4⟩ := hok.i
  have m1 := fmod_in' in1 in2 hok.pd
  have m2 := fmod_in' in3 in4 hok.pf
  have k1 := fdiv_in in1 (Int.ne_of_gt hok.pd)
  have k2 := fdiv_in in3 (Int.ne_of_gt hok.pf)
  have z1 := hok.pd
  have z2 := hok.pf
  have z3 := (fm_range (n := n) hok.pd).2
  have z4 := (fm_range (n := n) hok.pd).1
  have z5 := hok.g
  change VCode _ _ _ 15 (sl _) (en _) _
  refine Sq <| Bk <| Sq <| Rg <| Vs (LdS TA24 TS24 rfl) <| Vs (LdS TA24 TS24 rfl) <| Vs (C0 rfl rfl (c18 (x := n) (y := d) inT inT (Int.ne_of_gt hok.pd))) <| Vs (Mv rfl) <| Vs (Xt rfl) <| Vs (Xt rfl) <| Vs (Xt rfl) <| Vs (Al 22 TZ24 rfl) <| Vs (Al 23 TZ24 rfl) <| Vs (StS TS24 rfl) <| Vs (StS TS24 rfl) <| Vs (As rfl) <| Nx <| Sq <| Rg <| Vs (LdS TA24 TS24 rfl) <| Vs (LdS TA24 TS24 rfl) <| Vs (C0 rfl rfl (c18 (x := m) (y := f) inT inT (Int.ne_of_gt hok.pf))) <| Vs (Mv rfl) <| Vs (Xt rfl) <| Vs (Xt rfl) <| Vs (Xt rfl) <| Vs (Al 34 TZ24 rfl) <| Vs (Al 35 TZ24 rfl) <| Vs (StS TS24 rfl) <| Vs (StS TS24 rfl) <| Vs (As rfl) <| Nx <| Sq <| Sq <| Rg <| Vs (LdS TA24 TS24 rfl) <| Vs (LdS TA24 TS24 rfl) <| Vs (C0 rfl rfl (c33 (x := (n).fdiv (d)) (y := (m).fdiv (f)) inT inT)) <| Vs (Mv rfl) <| Vs (Xt rfl) <| Vs (Xt rfl) <| Vs (As rfl) <| Vs (As rfl) <| Nx <| Sq <| Rg <| Vs (Mv rfl) <| Vs (Bi rfl) <| Nx <| Cd rfl (fun hc1 => ?_) (fun hc1 => ?_)
  · replace hc1 := bne_iff_ne.1 hc1
    exact Sq <| Rg <| Vs (Mv rfl) <| Vs (Mv rfl) <| Vs (Bo rfl (muI (h := (hok.rng _ _)))) <| Vs (As rfl) <| Nx <| Re <| Tr <| Iq <| Tr <| Or <| Iq <| Fi (l := [numB .i64 ((g * cmp3 ((n).fdiv (d)) ((m).fdiv (f))))]) (Rc (resVar_tmp rfl rfl) Rn) (by rw [← hok.part hc1]; rfl)
  · replace hc1 := bne_eq_false_iff_eq.1 hc1
    refine Ks <| Tg <| Sq <| Bk <| Sq <| Rg <| Vs (LdS TA24 TS24 rfl) <| Vs (Cf rfl rfl (g51 (z := (n).fmod (d)) inT) rfl) <| Vs (Mv rfl) <| Sp 56 rfl (fun hc2 => ?_) (fun hc2 => ?_)
    · replace hc2 := of_decide_eq_true hc2
      refine Vs (LdS TA24 TS24 rfl) <| Vs (Cf rfl rfl (g51 (z := (m).fmod (f)) inT) rfl) <| Vs (Pk rfl) <| Vs (As rfl) <| Nx <| Cd rfl (fun hc3 => ?_) (fun hc3 => ?_)
      · replace hc3 := of_decide_eq_true hc3
        exact Sq <| Rg <| Vs (As rfl) <| Nx <| Re <| Iq <| Tr <| Iq <| Tr <| Or <| Iq <| Fi (l := [numB .i64 (0)]) (Rc (resVar_tmp rfl rfl) Rn) (congrArg (numB .i64) (hok.both hc1 hc2 hc3).symm)
      · replace hc3 := of_decide_eq_false hc3
        refine Sq <| Rg <| Vs (LdS TA24 TS24 rfl) <| Vs (Cf rfl rfl (g51 (z := (n).fmod (d)) inT) rfl) <| Vs (As rfl) <| Nx <| Cd rfl (fun hc4 => ?_) (fun hc4 => ?_)
        · replace hc4 := of_decide_eq_true hc4
          exact Sq <| Rg <| Vs (Mv rfl) <| Vs (Uo rfl nvI) <| Vs (As rfl) <| Nx <| Re <| Iq <| Tr <| Iq <| Tr <| Or <| Iq <| Fi (l := [numB .i64 ((-g))]) (Rc (resVar_tmp rfl rfl) Rn) (congrArg (numB .i64) (hok.left hc1 hc2 hc3).symm)
        · replace hc4 := of_decide_eq_false hc4
          exact absurd hc2 hc4
    · replace hc2 := of_decide_eq_false hc2
      refine Sk rfl <| Sk rfl <| Vs (Pk rfl) <| Vs (As rfl) <| Nx <| Cz rfl <| Sq <| Rg <| Vs (LdS TA24 TS24 rfl) <| Vs (Cf rfl rfl (g51 (z := (n).fmod (d)) inT) rfl) <| Vs (As rfl) <| Nx <| Cd rfl (fun hc5 => ?_) (fun hc5 => ?_)
      · replace hc5 := of_decide_eq_true hc5
        exact absurd hc5 hc2
      · replace hc5 := of_decide_eq_false hc5
        refine Sq <| Rg <| Vs (LdS TA24 TS24 rfl) <| Vs (Cf rfl rfl (g51 (z := (m).fmod (f)) inT) rfl) <| Vs (As rfl) <| Nx <| Cd rfl (fun hc6 => ?_) (fun hc6 => ?_)
        · replace hc6 := of_decide_eq_true hc6
          exact Sq <| Rg <| Vs (Mv rfl) <| Vs (As rfl) <| Nx <| Re <| Iq <| Tr <| Iq <| Tr <| Or <| Iq <| Fi (l := [numB .i64 (g)]) (Rc (resVar_tmp rfl rfl) Rn) (congrArg (numB .i64) (hok.right hc1 hc2 hc6).symm)
        · replace hc6 := of_decide_eq_false hc6
          refine Ks <| Ig <| Tg <| Rd (by kernel_rfl) <| Vl (LdS TA24 TS24 rfl) <| Vl (LdS TA24 TS24 rfl) <| Vl (LdS TA24 TS24 rfl) <| Vl (LdS TA24 TS24 rfl) <| Vl (StS TS24 rfl) <| Vl (StS TS24 rfl) <| Vl (StS TS24 rfl) <| Vl (StS TS24 rfl) <| ?_
          refine VLog.nil ⟨by kernel_rfl, ?_⟩
          exact Ig <| Tg <| Rg <| Vs (Mv rfl) <| Vs (Uo rfl nvI) <| Vs (As rfl) <| VList.nil <| Go (d, n.fmod d, f, m.fmod f, -g) (hok.next hc1 hc2 hc6) Wk
end Go.VL

/- Walks over the Go functions, printed by a program of this session over the kit's print, and by hand. -/
set_option linter.unusedVariables false
set_option linter.unusedSimpArgs false
namespace Go.VL
open Go.Proofs
theorem g36i (n : Bool) (A : List Int) (m : Bool) (D : List Int) (hA : A.length ≤ 9223372036854775807) (hD : D.length ≤ 9223372036854775807) (oA : ok32 A) (oD : ok32 D) (h : vR n A m D = false) : VF Tryz.prog 41 [.agg [boolB (n), u32S (A), boolB (m), u32S (D)]] (numB .i64 0) := by
  exact VF_of P_mixed Tryz.func41 rfl rfl (by kernel_rfl) <| Sq <| Rg <| Vs (Bx 0 rfl) <| Vs (As rfl) <| Nx <| Sq <| Bk <| Sq <| Rg <| Vs (LdS TA26 TS26 rfl) <| Vs (Kb (show vR n A m D = false from h) (Cf rfl rfl (g20 n A m D hA hD oA oD) rfl)) <| Vs (Un rfl) <| Vs (Mv rfl) <| Sk rfl <| Sk rfl <| Sk rfl <| Vs (Pk rfl) <| Vs (As rfl) <| Nx <| Cy rfl <| Sq <| Rg <| Vs (As rfl) <| Nx <| Re <| Iq <| Tr <| Fi (l := [numB .i64 (0)]) (Rc (resVar_tmp rfl rfl) Rn) rfl
theorem g36 {p q : Int} (ha : okR p q) : VF Tryz.prog 41 [.agg [boolB (zN (p)), u32S (zL (p)), boolB (zN (q)), u32S (zL (q))]] (numB .i64 (cmp3 p 0)) := by
  obtain ⟨q0, g0, hp, hq⟩ := ha
  refine VF_of P_mixed Tryz.func41 rfl rfl (by kernel_rfl) <| Sq <| Rg <| Vs (Bx 0 rfl) <| Vs (As rfl) <| Nx <| Sq <| Bk <| Sq <| Rg <| Vs (LdS TA26 TS26 rfl) <| Vs (Cf rfl rfl (g20q ⟨q0, g0, hp, hq⟩) rfl) <| Vs (Un rfl) <| Vs (Mv rfl) <| Vs (Fa TF26_0 rfl) <| Vs (LdS TA24 TS24 rfl) <| Vs (Cf rfl rfl (g51 (z := p) inT) rfl) <| Vs (Pk rfl) <| Vs (As rfl) <| Nx <| Cd rfl (fun hc1 => ?_) (fun hc1 => ?_)
  · replace hc1 := of_decide_eq_true hc1
    exact Sq <| Rg <| Vs (As rfl) <| Nx <| Re <| Iq <| Tr <| Fi (l := [numB .i64 (0)]) (Rc (resVar_tmp rfl rfl) Rn) (sgn_zero hc1)
  · replace hc1 := of_decide_eq_false hc1
    refine Sq <| Rg <| Vs (Fa TF26_0 rfl) <| Vs (Fa TF24_0 rfl) <| Vs (Ld TA4 rfl) <| Vs (As rfl) <| Nx <| Cd rfl (fun hc2 => ?_) (fun hc2 => ?_)
    · replace hc2 := hc2
      exact Sq <| Rg <| Vs (As rfl) <| Nx <| Re <| Iq <| Tr <| Fi (l := [numB .i64 ((-1))]) (Rc (resVar_tmp rfl rfl) Rn) (sgn_neg hc2)
    · replace hc2 := hc2
      exact Ks <| Ig <| Tg <| Sq <| Rg <| Vs (As rfl) <| Nx <| Re <| Fi (l := [numB .i64 (1)]) (Rc (resVar_tmp rfl rfl) Rn) (sgn_pos hp hc1 hc2)
theorem g32i (n : Bool) (A : List Int) (m : Bool) (D : List Int) (hA : A.length ≤ 9223372036854775807) (hD : D.length ≤ 9223372036854775807) (oA : ok32 A) (oD : ok32 D) (k : Int) (h : vR n A m D = false) : VF Tryz.prog 15 [.agg [boolB (n), u32S (A), boolB (m), u32S (D)], numB .i64 (k)] (.tup [intB false [], numB .i64 1]) := by
  exact VF_of P_mixed Tryz.func15 rfl rfl (by kernel_rfl) <| Sq <| Rg <| Vs (Bx 0 rfl) <| Vs (Al 1 TZ24 rfl) <| Vs (As rfl) <| Nx <| Sq <| Sq <| Rg <| Vs (LdS TA26 TS26 rfl) <| Vs (Kb (show vR n A m D = false from h) (Cf rfl rfl (g20 n A m D hA hD oA oD) rfl)) <| Vs (Un rfl) <| Nx <| Cy rfl <| Sq <| Rg <| Vs (Bd TQ24 rfl) <| Vs (StS TS24 rfl) <| Vs (As rfl) <| Nx <| Re <| Tr <| Fi (l := [.agg [boolB (false), u32S ([])], numB .i64 (1)]) (Rc (resVar_cell rfl rfl TA24 TS24 (Nat.le_of_ble_eq_true rfl) rfl) (Rc (resVar_tmp rfl rfl) Rn)) rfl
theorem g32 {p q : Int} (ha : okR p q) {k : Int} (k0 : -9223372036854775808 ≤ k) (k1 : k ≤ 9223372036854775807) : VF Tryz.prog 15 [.agg [boolB (zN (p)), u32S (zL (p)), boolB (zN (q)), u32S (zL (q))], numB .i64 (k)] (zR (flZ p q k)) := by
  obtain ⟨q0, g0, hp, hq⟩ := ha
  have q1 : q ≠ 0 := Int.ne_of_gt q0
  have k2 := fdiv_in hp q1
  refine VF_of P_mixed Tryz.func15 rfl rfl (by kernel_rfl) <| Sq <| Rg <| Vs (Bx 0 rfl) <| Vs (Al 1 TZ24 rfl) <| Vs (As rfl) <| Nx <| Sq <| Sq <| Rg <| Vs (LdS TA26 TS26 rfl) <| Vs (Cf rfl rfl (g20q ⟨q0, g0, hp, hq⟩) rfl) <| Vs (Un rfl) <| Nx <| Cz rfl <| Ks <| Tg <| Sq <| Sq <| Rg <| Vs (Mv rfl) <| Vs (Bi rfl) <| Nx <| Cd rfl (fun hc1 => ?_) (fun hc1 => ?_)
  · replace hc1 := of_decide_eq_true hc1
    exact Sq <| Rg <| Vs (Fa TF26_0 rfl) <| Vs (LdS TA24 TS24 rfl) <| Vs (Fa TF26_1 rfl) <| Vs (LdS TA24 TS24 rfl) <| Vs (C0 rfl rfl (c18 (x := p) (y := q) inT inT (q1))) <| Vs (Mv rfl) <| Vs (Xt rfl) <| Vs (Xt rfl) <| Vs (Xt rfl) <| Vs (Al 17 TZ24 rfl) <| Vs (Al 18 TZ24 rfl) <| Vs (StS TS24 rfl) <| Vs (StS TS24 rfl) <| Vs (As rfl) <| Nx <| Sq <| Rg <| Vs (LdS TA24 TS24 rfl) <| Vs (Mv rfl) <| Vs (C0 rfl rfl (c27 (x := (p).fdiv (q)) (y := k) inT (by first | omega | assumption | (simp; done) | (simp; omega)) (by first | omega | assumption | (simp; done) | (simp; omega)))) <| Vs (Xt rfl) <| Vs (Xt rfl) <| Vs (StS TS24 rfl) <| Vs (As rfl) <| Nx <| Re <| Tr <| Fi (l := [.agg [boolB (zN (shZ ((p).fdiv (q)) (k))), u32S (zL (shZ ((p).fdiv (q)) (k)))], numB .i64 (zE (shZ ((p).fdiv (q)) (k)))]) (Rc (resVar_cell rfl rfl TA24 TS24 (Nat.le_of_ble_eq_true rfl) rfl) (Rc (resVar_tmp rfl rfl) Rn)) (fl_low hc1)
  · replace hc1 := of_decide_eq_false hc1
    refine Ks <| Tg <| Sq <| Rg <| Vs (Fa TF26_0 rfl) <| Vs (LdS TA24 TS24 rfl) <| Vs (Mv rfl) <| Vs (C0 rfl rfl (c27 (x := p) (y := k) inT (by first | omega | assumption | (simp; done) | (simp; omega)) (by first | omega | assumption | (simp; done) | (simp; omega)))) <| Vs (Mv rfl) <| Vs (Xt rfl) <| Vs (Xt rfl) <| Vs (Al 15 TZ24 rfl) <| Vs (StS TS24 rfl) <| Vs (As rfl) <| Nx <| Sq <| Sq <| Rg <| Vs (Mv rfl) <| Vs (Bi rfl) <| Nx <| Cd rfl (fun hc2 => ?_) (fun hc2 => ?_)
    · replace hc2 := bne_iff_ne.1 hc2
      exact Sq <| Rg <| Vs (Bd TQ24 rfl) <| Vs (Mv rfl) <| Vs (StS TS24 rfl) <| Vs (As rfl) <| Nx <| Re <| Tr <| Fi (l := [.agg [boolB (false), u32S ([])], numB .i64 (zE (shZ (p) (k)))]) (Rc (resVar_cell rfl rfl TA24 TS24 (Nat.le_of_ble_eq_true rfl) rfl) (Rc (resVar_tmp rfl rfl) Rn)) (fl_out hc1 hc2)
    · replace hc2 := bne_eq_false_iff_eq.1 hc2
      exact Ks <| Tg <| Sq <| Rg <| Vs (LdS TA24 TS24 rfl) <| Vs (Fa TF26_1 rfl) <| Vs (LdS TA24 TS24 rfl) <| Vs (C0 rfl rfl (c18 (x := shZ (p) (k)) (y := q) (zE_in.1 hc2) inT (q1))) <| Vs (Mv rfl) <| Vs (Xt rfl) <| Vs (Xt rfl) <| Vs (Xt rfl) <| Vs (Al 28 TZ24 rfl) <| Vs (Al 29 TZ24 rfl) <| Vs (StS TS24 rfl) <| Vs (StS TS24 rfl) <| Vs (As rfl) <| Nx <| Sq <| Rg <| Vs (LdS TA24 TS24 rfl) <| Vs (Mv rfl) <| Vs (StS TS24 rfl) <| Vs (As rfl) <| Nx <| Re <| Fi (l := [.agg [boolB (zN ((shZ (p) (k)).fdiv (q))), u32S (zL ((shZ (p) (k)).fdiv (q)))], numB .i64 (0)]) (Rc (resVar_cell rfl rfl TA24 TS24 (Nat.le_of_ble_eq_true rfl) rfl) (Rc (resVar_tmp rfl rfl) Rn)) (fl_in hc1 hc2 q1)
theorem g34i (n : Bool) (A : List Int) (m : Bool) (D : List Int) (hA : A.length ≤ 9223372036854775807) (hD : D.length ≤ 9223372036854775807) (oA : ok32 A) (oD : ok32 D) (h : vR n A m D = false) : VF Tryz.prog 16 [.agg [boolB (n), u32S (A), boolB (m), u32S (D)]] (.tup [qB 0 0, boolB false, numB .i64 1]) := by
  exact VF_of P_mixed Tryz.func16 rfl rfl (by kernel_rfl) <| Sq <| Rg <| Vs (Bx 0 rfl) <| Vs (Al 1 TZ26 rfl) <| Vs (As rfl) <| Vs (As rfl) <| Nx <| Sq <| Bk <| Sq <| Rg <| Vs (LdS TA26 TS26 rfl) <| Vs (Kb (show vR n A m D = false from h) (Cf rfl rfl (g20 n A m D hA hD oA oD) rfl)) <| Vs (Un rfl) <| Vs (As rfl) <| Nx <| Cy rfl <| Sq <| Rg <| Vs (Bd TQ26 rfl) <| Vs (StS TS26 rfl) <| Vs (As rfl) <| Vs (As rfl) <| Nx <| Re <| Iq <| Tr <| Fi (l := [.agg [boolB (false), u32S ([]), boolB (false), u32S ([])], boolB (false), numB .i64 (1)]) (Rc (resVar_cell rfl rfl TA26 TS26 (Nat.le_of_ble_eq_true rfl) rfl) (Rc (resVar_tmp rfl rfl) (Rc (resVar_tmp rfl rfl) Rn))) (by rw [qB_zero]; rfl)
theorem g34 {p q : Int} (ha : okR p q) : VF Tryz.prog 16 [.agg [boolB (zN (p)), u32S (zL (p)), boolB (zN (q)), u32S (zL (q))]] (sqRR p q) := by
  obtain ⟨q0, g0, hp, hq⟩ := ha
  refine VF_of P_mixed Tryz.func16 rfl rfl (by kernel_rfl) <| Sq <| Rg <| Vs (Bx 0 rfl) <| Vs (Al 1 TZ26 rfl) <| Vs (As rfl) <| Vs (As rfl) <| Nx <| Sq <| Bk <| Sq <| Rg <| Vs (LdS TA26 TS26 rfl) <| Vs (Cf rfl rfl (g20q ⟨q0, g0, hp, hq⟩) rfl) <| Vs (Un rfl) <| Vs (As rfl) <| Nx <| Cz rfl <| Sq <| Rg <| Vs (Fa TF26_0 rfl) <| Vs (Fa TF24_0 rfl) <| Vs (Ld TA4 rfl) <| Vs (As rfl) <| Nx <| Cd rfl (fun hc1 => ?_) (fun hc1 => ?_)
  · replace hc1 := hc1
    exact Sq <| Rg <| Vs (Bd TQ26 rfl) <| Vs (StS TS26 rfl) <| Vs (As rfl) <| Vs (As rfl) <| Nx <| Re <| Iq <| Tr <| Fi (l := [.agg [boolB (false), u32S ([]), boolB (false), u32S ([])], boolB (false), numB .i64 (5)]) (Rc (resVar_cell rfl rfl TA26 TS26 (Nat.le_of_ble_eq_true rfl) rfl) (Rc (resVar_tmp rfl rfl) (Rc (resVar_tmp rfl rfl) Rn))) (sq_neg (by have := zN_lt hc1; omega))
  · replace hc1 := hc1
    refine Ks <| Ig <| Tg <| Sq <| Rg <| Vs (Fa TF26_0 rfl) <| Vs (LdS TA24 TS24 rfl) <| Vs (C0 rfl rfl (c44 (x := p) inT (zero_le hp hc1))) <| Vs (Mv rfl) <| Vs (Xt rfl) <| Vs (Xt rfl) <| Vs (Xt rfl) <| Vs (Al 19 TZ24 rfl) <| Vs (StS TS24 rfl) <| Vs (As rfl) <| Vs (As rfl) <| Nx <| Sq <| Rg <| Vs (Fa TF26_1 rfl) <| Vs (LdS TA24 TS24 rfl) <| Vs (C0 rfl rfl (c44 (x := q) inT (Int.le_of_lt q0))) <| Vs (Mv rfl) <| Vs (Xt rfl) <| Vs (Xt rfl) <| Vs (Xt rfl) <| Vs (Al 30 TZ24 rfl) <| Vs (StS TS24 rfl) <| Vs (As rfl) <| Vs (As rfl) <| Nx <| Sq <| Sq <| Rg <| Vs (Mv rfl) <| Vs (Un rfl) <| Vs (Mv rfl) <| Sp 37 rfl (fun hc2 => ?_) (fun hc2 => ?_)
    · replace hc2 := of_decide_eq_false (bnot_t hc2)
      exact Sk rfl <| Sk rfl <| Vs (Pk rfl) <| Nx <| Cy rfl <| Sq <| Rg <| Vs (Bd TQ26 rfl) <| Vs (StS TS26 rfl) <| Vs (As rfl) <| Vs (As rfl) <| Nx <| Re <| Tr <| Fi (l := [.agg [boolB (false), u32S ([]), boolB (false), u32S ([])], boolB (false), numB .i64 (0)]) (Rc (resVar_cell rfl rfl TA26 TS26 (Nat.le_of_ble_eq_true rfl) rfl) (Rc (resVar_tmp rfl rfl) (Rc (resVar_tmp rfl rfl) Rn))) (sq_no (zero_le hp hc1) (fun h => hc2 h.1))
    · replace hc2 := of_decide_eq_true (bnot_f hc2)
      refine Vs (Mv rfl) <| Vs (Un rfl) <| Vs (Pk rfl) <| Nx <| Cd rfl (fun hc3 => ?_) (fun hc3 => ?_)
      · replace hc3 := of_decide_eq_false (bnot_t hc3)
        exact Sq <| Rg <| Vs (Bd TQ26 rfl) <| Vs (StS TS26 rfl) <| Vs (As rfl) <| Vs (As rfl) <| Nx <| Re <| Tr <| Fi (l := [.agg [boolB (false), u32S ([]), boolB (false), u32S ([])], boolB (false), numB .i64 (0)]) (Rc (resVar_cell rfl rfl TA26 TS26 (Nat.le_of_ble_eq_true rfl) rfl) (Rc (resVar_tmp rfl rfl) (Rc (resVar_tmp rfl rfl) Rn))) (sq_no (zero_le hp hc1) (fun h => hc3 h.2))
      · replace hc3 := of_decide_eq_true (bnot_f hc3)
        exact Ks <| Tg <| Sq <| Rg <| Vs (LdS TA24 TS24 rfl) <| Vs (LdS TA24 TS24 rfl) <| Vs (Bd TQ26 rfl) <| Vs (StS TS26 rfl) <| Vs (As rfl) <| Vs (As rfl) <| Nx <| Re <| Fi (l := [.agg [boolB (zN (isq (p))), u32S (zL (isq (p))), boolB (zN (isq (q))), u32S (zL (isq (q)))], boolB (true), numB .i64 (0)]) (Rc (resVar_cell rfl rfl TA26 TS26 (Nat.le_of_ble_eq_true rfl) rfl) (Rc (resVar_tmp rfl rfl) (Rc (resVar_tmp rfl rfl) Rn))) (sq_yes (zero_le hp hc1) hc2 hc3)
theorem g16i (n : Bool) (A : List Int) (m : Bool) (D : List Int) (hA : A.length ≤ 9223372036854775807) (hD : D.length ≤ 9223372036854775807) (h : (validB n A && validB m D) = false) : VF Tryz.prog 61 [.agg [boolB (n), u32S (A)], .agg [boolB (m), u32S (D)]] (rR 0 0 1) := by
  refine VF_of P_mixed Tryz.func61 rfl rfl (by kernel_rfl) <| Sq <| Rg <| Vs (Bx 0 rfl) <| Vs (Bx 1 rfl) <| Vs (Al 2 TZ26 rfl) <| Vs (As rfl) <| Nx <| Sq <| Bk <| Sq <| Rg <| Vs (LdS TA24 TS24 rfl) <| Vs (Cf rfl rfl (f36 n A hA) rfl) <| Vs (Un rfl) <| Vs (Mv rfl) <| Sp 11 rfl (fun hc1 => ?_) (fun hc1 => ?_)
  · replace hc1 := (bnot_t hc1)
    exact Sk rfl <| Sk rfl <| Sk rfl <| Vs (Pk rfl) <| Vs (As rfl) <| Nx <| Cy rfl <| Sq <| Rg <| Vs (Bd TQ26 rfl) <| Vs (StS TS26 rfl) <| Vs (As rfl) <| Nx <| Re <| Iq <| Tr <| Fi (l := [.agg [boolB (false), u32S ([]), boolB (false), u32S ([])], numB .i64 (1)]) (Rc (resVar_cell rfl rfl TA26 TS26 (Nat.le_of_ble_eq_true rfl) rfl) (Rc (resVar_tmp rfl rfl) Rn)) (by rw [rR, qB_zero]; rfl)
  · replace hc1 := (bnot_f hc1)
    refine Vs (LdS TA24 TS24 rfl) <| Vs (Cf rfl rfl (f36 m D hD) rfl) <| Vs (Un rfl) <| Vs (Pk rfl) <| Vs (As rfl) <| Nx <| Cd rfl (fun hc2 => ?_) (fun hc2 => ?_)
    · replace hc2 := (bnot_t hc2)
      exact Sq <| Rg <| Vs (Bd TQ26 rfl) <| Vs (StS TS26 rfl) <| Vs (As rfl) <| Nx <| Re <| Iq <| Tr <| Fi (l := [.agg [boolB (false), u32S ([]), boolB (false), u32S ([])], numB .i64 (1)]) (Rc (resVar_cell rfl rfl TA26 TS26 (Nat.le_of_ble_eq_true rfl) rfl) (Rc (resVar_tmp rfl rfl) Rn)) (by rw [rR, qB_zero]; rfl)
    · replace hc2 := (bnot_f hc2)
      simp [hc1, hc2] at h
theorem g16 {x y : Int} (hx : inB x = true) (hy : inB y = true) : VF Tryz.prog 61 [.agg [boolB (zN (x)), u32S (zL (x))], .agg [boolB (zN (y)), u32S (zL (y))]] (rR (mkN x y) (mkD x y) (mkE y)) := by
  refine VF_of P_mixed Tryz.func61 rfl rfl (by kernel_rfl) <| Sq <| Rg <| Vs (Bx 0 rfl) <| Vs (Bx 1 rfl) <| Vs (Al 2 TZ26 rfl) <| Vs (As rfl) <| Nx <| Sq <| Bk <| Sq <| Rg <| Vs (LdS TA24 TS24 rfl) <| Vs (Cf rfl rfl (c36 (x)) rfl) <| Vs (Un rfl) <| Vs (Mv rfl) <| Vs (LdS TA24 TS24 rfl) <| Vs (Cf rfl rfl (c36 (y)) rfl) <| Vs (Un rfl) <| Vs (Pk rfl) <| Vs (As rfl) <| Nx <| Cz rfl <| Sq <| Rg <| Vs (LdS TA24 TS24 rfl) <| Vs (Cf rfl rfl (g51 (z := y) inT) rfl) <| Vs (As rfl) <| Nx <| Cd rfl (fun hc1 => ?_) (fun hc1 => ?_)
  · replace hc1 := of_decide_eq_true hc1
    exact Sq <| Rg <| Vs (Bd TQ26 rfl) <| Vs (StS TS26 rfl) <| Vs (As rfl) <| Nx <| Re <| Iq <| Tr <| Fi (l := [.agg [boolB (false), u32S ([]), boolB (false), u32S ([])], numB .i64 (4)]) (Rc (resVar_cell rfl rfl TA26 TS26 (Nat.le_of_ble_eq_true rfl) rfl) (Rc (resVar_tmp rfl rfl) Rn)) (mkR0 hc1)
  · replace hc1 := of_decide_eq_false hc1
    refine Ks <| Ig <| Tg <| Sq <| Rg <| Vs (LdS TA24 TS24 rfl) <| Vs (LdS TA24 TS24 rfl) <| Vs (C0 rfl rfl (g52 (x := x) (y := y) inT inT (hc1))) <| Vs (Al 19 TZ26 rfl) <| Vs (StS TS26 rfl) <| Nx <| Sq <| Rd (by kernel_rfl) <| Vl (Fa TF26_0 rfl) <| Vl (LdS TA24 TS24 rfl) <| Vl (C0 rfl rfl (g53 (rdN (x) (y)))) <| Vl (Fa TF26_1 rfl) <| Vl (LdS TA24 TS24 rfl) <| Vl (C0 rfl rfl (g53 (rdD (x) (y)))) <| Vl (Bd TQ26 rfl) <| Vl (StS TS26 rfl) <| Vl (As rfl) <| ?_
    refine VLog.nil ⟨by kernel_rfl, ?_⟩
    exact Tg <| Re <| Fi (l := [.agg [boolB (zN (rdN (x) (y))), u32S (zL (rdN (x) (y))), boolB (zN (rdD (x) (y))), u32S (zL (rdD (x) (y)))], numB .i64 (0)]) (Rc (resVar_cell rfl rfl TA26 TS26 (Nat.le_of_ble_eq_true rfl) rfl) (Rc (resVar_tmp rfl rfl) Rn)) (mkR1 hc1)
theorem g18 {k d : Int} (k0 : -9223372036854775808 ≤ k) (k1 : k ≤ 9223372036854775807) (d0 : -9223372036854775808 ≤ d) (d1 : d ≤ 9223372036854775807) : VF Tryz.prog 35 [numB .i64 (k), numB .i64 (d)] (rR (mkN k d) (mkD k d) (mkE d)) := by
  have i1 := in_i64 k0 k1
  have i2 := in_i64 d0 d1
  exact VF_of P_mixed Tryz.func35 rfl rfl (by kernel_rfl) <| Sq <| Rg <| Vs (Al 0 TZ26 rfl) <| Vs (As rfl) <| Nx <| Sq <| Rg <| Vs (Mv rfl) <| Vs (C0 rfl rfl (c28 (n := k) (by first | omega | assumption | (simp; done) | (simp; omega)) (by first | omega | assumption | (simp; done) | (simp; omega)))) <| Vs (Mv rfl) <| Vs (C0 rfl rfl (c28 (n := d) (by first | omega | assumption | (simp; done) | (simp; omega)) (by first | omega | assumption | (simp; done) | (simp; omega)))) <| Vs (C0 rfl rfl (g16 (x := k) (y := d) inT inT)) <| Vs (Xt rfl) <| Vs (Xt rfl) <| Vs (StS TS26 rfl) <| Vs (As rfl) <| Nx <| Re <| Fi (l := [.agg [boolB (zN (mkN (k) (d))), u32S (zL (mkN (k) (d))), boolB (zN (mkD (k) (d))), u32S (zL (mkD (k) (d)))], numB .i64 (mkE (d))]) (Rc (resVar_cell rfl rfl TA26 TS26 (Nat.le_of_ble_eq_true rfl) rfl) (Rc (resVar_tmp rfl rfl) Rn)) rfl
end Go.VL

/- Walks over the Go functions, printed by a program of this session over the kit's print, and by hand. -/
set_option linter.unusedVariables false
set_option linter.unusedSimpArgs false
namespace Go.VL
open Go.Proofs
theorem g25i (n : Bool) (A : List Int) (m : Bool) (D : List Int) (hA : A.length ≤ 9223372036854775807) (hD : D.length ≤ 9223372036854775807) (oA : ok32 A) (oD : ok32 D) (h : vR n A m D = false) : VF Tryz.prog 18 [.agg [boolB (n), u32S (A), boolB (m), u32S (D)]] (.tup [.lit (.string noneB), numB .i64 1]) := by
  exact VF_of P_mixed Tryz.func18 rfl rfl (by kernel_rfl) <| Sq <| Rg <| Vs (Bx 0 rfl) <| Vs (As rfl) <| Vs (As rfl) <| Nx <| Sq <| Sq <| Rg <| Vs (LdS TA26 TS26 rfl) <| Vs (Kb (show vR n A m D = false from h) (Cf rfl rfl (g20 n A m D hA hD oA oD) rfl)) <| Vs (Un rfl) <| Nx <| Cy rfl <| Sq <| Rg <| Vs (As rfl) <| Vs (As rfl) <| Nx <| Re <| Tr <| Fi (l := [.lit (.string ((⟨#[]⟩ : ByteArray))), numB .i64 (1)]) (Rc (resVar_tmp rfl rfl) (Rc (resVar_tmp rfl rfl) Rn)) rfl
theorem g25 {p q : Int} (ha : okR p q) : VF Tryz.prog 18 [.agg [boolB (zN (p)), u32S (zL (p)), boolB (zN (q)), u32S (zL (q))]] (.tup [.lit (.string (txQ p q)), numB .i64 0]) := by
  obtain ⟨q0, g0, hp, hq⟩ := ha
  refine VF_of P_mixed Tryz.func18 rfl rfl (by kernel_rfl) <| Sq <| Rg <| Vs (Bx 0 rfl) <| Vs (As rfl) <| Vs (As rfl) <| Nx <| Sq <| Sq <| Rg <| Vs (LdS TA26 TS26 rfl) <| Vs (Cf rfl rfl (g20q ⟨q0, g0, hp, hq⟩) rfl) <| Vs (Un rfl) <| Nx <| Cz rfl <| Ks <| Tg <| Sq <| Rg <| Vs (Fa TF26_0 rfl) <| Vs (LdS TA24 TS24 rfl) <| Vs (Cf rfl rfl (c22 (x := p) inT) rfl) <| Vs (Mv rfl) <| Vs (Xt rfl) <| Vs (Xt rfl) <| Vs (As rfl) <| Vs (As rfl) <| Nx <| Sq <| Sq <| Rg <| Vs (Mv rfl) <| Vs (Bi (c := .bool false) rfl) <| Vs (Mv rfl) <| Vs (Fa TF26_1 rfl) <| Vs (LdS TA24 TS24 rfl) <| Vs (Cf rfl rfl (g58 (z := q) inT) rfl) <| Vs (Pk rfl) <| Nx <| Cd rfl (fun hc1 => ?_) (fun hc1 => ?_)
  · replace hc1 := of_decide_eq_true hc1
    exact Sq <| Rg <| Vs (Mv rfl) <| Vs (Mv rfl) <| Vs (As rfl) <| Vs (As rfl) <| Nx <| Re <| Tr <| Fi (l := [.lit (.string (txB (p))), numB .i64 (0)]) (Rc (resVar_tmp rfl rfl) (Rc (resVar_tmp rfl rfl) Rn)) (txQ_one hc1)
  · replace hc1 := of_decide_eq_false hc1
    exact Ks <| Tg <| Sq <| Rg <| Vs (Fa TF26_1 rfl) <| Vs (LdS TA24 TS24 rfl) <| Vs (Cf rfl rfl (c22 (x := q) inT) rfl) <| Vs (Mv rfl) <| Vs (Xt rfl) <| Vs (Xt rfl) <| Vs (As rfl) <| Vs (As rfl) <| Nx <| Sq <| Sq <| Rg <| Vs (Mv rfl) <| Vs (Bi (c := .bool false) rfl) <| Nx <| Cz rfl <| Ks <| Tg <| Sq <| Rg <| Vs (Mv rfl) <| Vs (Bo (c := .string (txB (p) ++ (⟨#[47]⟩ : ByteArray))) rfl (bop_str_add (tx_add1 hp))) <| Vs (Mv rfl) <| Vs (Bo (c := .string (txB (p) ++ (⟨#[47]⟩ : ByteArray) ++ txB (q))) rfl (bop_str_add (tx_add2 hp hq))) <| Vs (As rfl) <| Vs (As rfl) <| Nx <| Re <| Fi (l := [.lit (.string (txB (p) ++ (⟨#[47]⟩ : ByteArray) ++ txB (q))), numB .i64 (0)]) (Rc (resVar_tmp rfl rfl) (Rc (resVar_tmp rfl rfl) Rn)) (txQ_two hc1)
theorem N_indexByte (str : ByteArray) (c : Int) : NF Tryz.prog 104 [.string str, .int .u8 c] (.int .i64 (Lib.indexByte str.data.toList c.toNat.toUInt8)) := by
  refine ⟨rfl, fun W => ?_⟩
  show (callFunc 104 #[.string str, .int .u8 c]).run Tryz.prog W = _
  rw [run_callFunc_extern Tryz.func104 (by kernel_rfl) (by kernel_rfl) (by kernel_rfl) (e := Extern.BytealgIndexByte.indexByte) (by kernel_rfl), Lib.run_indexByteString]
  rfl
theorem g131 (s : ByteArray) (c : Int) : VF Tryz.prog 100 [.lit (.string (s)), numB .u8 (c)] (numB .i64 (Lib.indexByte s.data.toList c.toNat.toUInt8)) := by
  exact VF_of P_mixed Tryz.func100 rfl rfl (by kernel_rfl) <| Sq <| Rg <| Vs (As rfl) <| Nx <| Sq <| Rg <| Vs (Mv rfl) <| Vs (Mv rfl) <| Vs (Cn rfl (N_indexByte _ _)) <| Vs (As rfl) <| Nx <| Re <| Fi (l := [numB .i64 (Lib.indexByte (s).data.toList (c).toNat.toUInt8)]) (Rc (resVar_tmp rfl rfl) Rn) rfl
theorem g129 (s : ByteArray) : VF Tryz.prog 95 [.lit (.string (s)), .lit (.string ((⟨#[47]⟩ : ByteArray)))] (numB .i64 (ixB s)) := by
  refine VF_of P_mixed Tryz.func95 rfl rfl (by kernel_rfl) <| Sq <| Rg <| Vs (As rfl) <| Nx <| Sq <| Rg <| Vs (Mv rfl) <| Vs (Lt TU9 rfl) <| Vs (As rfl) <| Nx <| Sq <| Bk <| Sq <| Rg <| Vs (Mv rfl) <| Vs (Kb (show ((((⟨#[47]⟩ : ByteArray)).size : Int) == 0) = false from rfl) (Bi rfl)) <| Vs (Mv rfl) <| Vs (Mv rfl) <| Vs (Mv rfl) <| Vs (Bi rfl) <| Vs (Pk rfl) <| Vs (As rfl) <| Nx <| Cd rfl (fun hc1 => ?_) (fun hc1 => ?_)
  · replace hc1 := strEq_t hc1
    exact Sq <| Rg <| Vs (As rfl) <| Nx <| Re <| Iq <| Tr <| Fi (l := [numB .i64 (0)]) (Rc (resVar_tmp rfl rfl) Rn) (by rw [← hc1]; rfl)
  · replace hc1 := strEq_f hc1
    exact Sq <| Rg <| Vs (Mv rfl) <| Vs (Kb (show ((((⟨#[47]⟩ : ByteArray)).size : Int) == 1) = true from rfl) (Bi rfl)) <| Vs (As rfl) <| Nx <| Cy rfl <| Sq <| Rg <| Vs (Mv rfl) <| Vs (Mv rfl) <| Vs (Ti (z := (47 : Int)) TU9 rfl rfl (h1 := (by decide))) <| Vs (Cf rfl rfl (g131 _ _) rfl) <| Vs (As rfl) <| Nx <| Re <| Iq <| Tr <| Fi (l := [numB .i64 (Lib.indexByte (s).data.toList ((47 : Int)).toNat.toUInt8)]) (Rc (resVar_tmp rfl rfl) Rn) rfl
theorem g111 (s : ByteArray) (hs : s.size ≤ 9223372036854775807) : VF Tryz.prog 76 [.lit (.string (s)), .lit (.string ((⟨#[47]⟩ : ByteArray)))] (cuR s) := by
  have hx := ixB_lt s
  refine VF_of P_mixed Tryz.func76 rfl rfl (by kernel_rfl) <| Sq <| Rg <| Vs (As rfl) <| Vs (As rfl) <| Vs (As rfl) <| Nx <| Sq <| Sq <| Rg <| Vs (Mv rfl) <| Vs (Mv rfl) <| Vs (Cf rfl rfl (g129 _) rfl) <| Vs (As rfl) <| Nx <| Sq <| Rg <| Vs (Mv rfl) <| Vs (Bi rfl) <| Nx <| Cd rfl (fun hc1 => ?_) (fun hc1 => ?_)
  · replace hc1 := of_decide_eq_true hc1
    refine Sq <| Rd (by kernel_rfl) <| Vl (Mv rfl) <| Vl (Mv rfl) <| Vl (Tt TU9 rfl) <| Vl (Mv rfl) <| Vl (Mv rfl) <| Vl (Mv rfl) <| Vl (Lt TU9 rfl) <| Vl (Bo (c := .int .i64 ((ixB s + 1))) rfl (adI (x := ixB s) (y := 1) (by omega))) <| Vl (Tf TU9 rfl) <| Vl (As rfl) <| Vl (As rfl) <| Vl (As rfl) <| ?_
    refine VLog.nil ⟨by kernel_rfl, ?_⟩
    exact Tg <| Re <| Tr <| Fi (l := [.lit (.string ((s).extract 0 (ixB (s)).toNat)), .lit (.string ((s).extract ((ixB s + 1)).toNat (s).size)), boolB (true)]) (Rc (resVar_tmp rfl rfl) (Rc (resVar_tmp rfl rfl) (Rc (resVar_tmp rfl rfl) Rn))) (cu_yes hc1)
  · replace hc1 := of_decide_eq_false hc1
    exact Ks <| Tg <| Sq <| Rg <| Vs (Mv rfl) <| Vs (As rfl) <| Vs (As rfl) <| Vs (As rfl) <| Nx <| Re <| Fi (l := [.lit (.string (s)), .lit (.string ((⟨#[]⟩ : ByteArray))), boolB (false)]) (Rc (resVar_tmp rfl rfl) (Rc (resVar_tmp rfl rfl) (Rc (resVar_tmp rfl rfl) Rn))) (cu_no hc1)
theorem g72 (s : ByteArray) (hs : s.size ≤ 9223372036854775807) : VF Tryz.prog 45 [.lit (.string (s)), .lit (.string ((⟨#[47]⟩ : ByteArray)))] (cuR s) := by
  exact VF_of P_mixed Tryz.func45 rfl rfl (by kernel_rfl) <| Sq <| Rg <| Vs (As rfl) <| Vs (As rfl) <| Vs (As rfl) <| Nx <| Sq <| Rg <| Vs (Mv rfl) <| Vs (Mv rfl) <| Vs (Cf rfl rfl (g111 _ hs) rfl) <| Vs (Xt rfl) <| Vs (Xt rfl) <| Vs (Xt rfl) <| Vs (As rfl) <| Vs (As rfl) <| Vs (As rfl) <| Nx <| Re <| Fi (l := [.lit (.string (cuA (s))), .lit (.string (cuB (s))), boolB (cuF (s))]) (Rc (resVar_tmp rfl rfl) (Rc (resVar_tmp rfl rfl) (Rc (resVar_tmp rfl rfl) Rn))) rfl
theorem c24 {s : ByteArray} (hs : s.size ≤ 9223372036854775807) : VF Tryz.prog 46 [.lit (.string s)] (.tup [iB (pW s), numB .i64 (pX s)]) := by
  have h := f24 s hs
  rw [prR_W] at h
  exact h
theorem g27 (s : ByteArray) (hs : s.size ≤ 9223372036854775807) : VF Tryz.prog 19 [.lit (.string (s))] (psR s) := by
  have hz := cu_size s
  have w1 := pW_in (cuA s)
  have w2 := pW_in (cuB s)
  refine VF_of P_mixed Tryz.func19 rfl rfl (by kernel_rfl) <| Sq <| Rg <| Vs (Al 0 TZ26 rfl) <| Vs (As rfl) <| Nx <| Sq <| Rg <| Vs (Mv rfl) <| Vs (Cf rfl rfl (g72 _ hs) rfl) <| Vs (Mv rfl) <| Vs (Xt rfl) <| Vs (Xt rfl) <| Vs (Xt rfl) <| Vs (As rfl) <| Vs (As rfl) <| Vs (As rfl) <| Nx <| Sq <| Rg <| Vs (Mv rfl) <| Vs (C0 rfl rfl (c24 (s := cuA (s)) (by first | omega | assumption | (simp; done) | (simp; omega)))) <| Vs (Mv rfl) <| Vs (Xt rfl) <| Vs (Xt rfl) <| Vs (Al 16 TZ24 rfl) <| Vs (StS TS24 rfl) <| Vs (As rfl) <| Nx <| Sq <| Sq <| Rg <| Vs (Mv rfl) <| Vs (Bi rfl) <| Nx <| Cd rfl (fun hc1 => ?_) (fun hc1 => ?_)
  · replace hc1 := bne_iff_ne.1 hc1
    exact Sq <| Rg <| Vs (Bd TQ26 rfl) <| Vs (Mv rfl) <| Vs (StS TS26 rfl) <| Vs (As rfl) <| Nx <| Re <| Tr <| Fi (l := [.agg [boolB (false), u32S ([]), boolB (false), u32S ([])], numB .i64 (pX (cuA (s)))]) (Rc (resVar_cell rfl rfl TA26 TS26 (Nat.le_of_ble_eq_true rfl) rfl) (Rc (resVar_tmp rfl rfl) Rn)) (ps_bad (ps1 hc1) hc1)
  · replace hc1 := bne_eq_false_iff_eq.1 hc1
    refine Ks <| Tg <| Sq <| Sq <| Rg <| Vs (Mv rfl) <| Vs (Un rfl) <| Nx <| Cd rfl (fun hc2 => ?_) (fun hc2 => ?_)
    · replace hc2 := (bnot_t hc2)
      refine Sq <| Rd (by kernel_rfl) <| Vl (LdS TA24 TS24 rfl) <| Vl (C0 rfl rfl (c28 (n := 1) (by first | omega | assumption | (simp; done) | (simp; omega)) (by first | omega | assumption | (simp; done) | (simp; omega)))) <| Vl (Bd TQ26 rfl) <| Vl (StS TS26 rfl) <| Vl (As rfl) <| ?_
      refine VLog.nil ⟨by kernel_rfl, ?_⟩
      exact Tg <| Re <| Tr <| Fi (l := [.agg [boolB (zN (pW (cuA (s)))), u32S (zL (pW (cuA (s)))), boolB (zN (1)), u32S (zL (1))], numB .i64 (0)]) (Rc (resVar_cell rfl rfl TA26 TS26 (Nat.le_of_ble_eq_true rfl) rfl) (Rc (resVar_tmp rfl rfl) Rn)) (ps2 hc1 hc2)
    · replace hc2 := (bnot_f hc2)
      refine Ks <| Tg <| Sq <| Rg <| Vs (Mv rfl) <| Vs (C0 rfl rfl (c24 (s := cuB (s)) (by first | omega | assumption | (simp; done) | (simp; omega)))) <| Vs (Mv rfl) <| Vs (Xt rfl) <| Vs (Xt rfl) <| Vs (Al 28 TZ24 rfl) <| Vs (StS TS24 rfl) <| Vs (As rfl) <| Nx <| Sq <| Sq <| Rg <| Vs (Mv rfl) <| Vs (Bi rfl) <| Nx <| Cd rfl (fun hc3 => ?_) (fun hc3 => ?_)
      · replace hc3 := bne_iff_ne.1 hc3
        exact Sq <| Rg <| Vs (Bd TQ26 rfl) <| Vs (Mv rfl) <| Vs (StS TS26 rfl) <| Vs (As rfl) <| Nx <| Re <| Tr <| Fi (l := [.agg [boolB (false), u32S ([]), boolB (false), u32S ([])], numB .i64 (pX (cuB (s)))]) (Rc (resVar_cell rfl rfl TA26 TS26 (Nat.le_of_ble_eq_true rfl) rfl) (Rc (resVar_tmp rfl rfl) Rn)) (ps_bad (ps3 hc1 hc2 hc3) hc3)
      · replace hc3 := bne_eq_false_iff_eq.1 hc3
        refine Ks <| Tg <| Sq <| Rg <| Vs (LdS TA24 TS24 rfl) <| Vs (LdS TA24 TS24 rfl) <| Vs (Bd TQ26 rfl) <| Vs (Al 36 TZ26 rfl) <| Vs (StS TS26 rfl) <| Nx <| Sq <| Sq <| Rg <| Vs (LdS TA24 TS24 rfl) <| Vs (Cf rfl rfl (g58 (z := pW (cuB (s))) inT) rfl) <| Vs (Mv rfl) <| Sp 45 rfl (fun hc4 => ?_) (fun hc4 => ?_)
        · replace hc4 := of_decide_eq_true hc4
          exact Sk rfl <| Sk rfl <| Sk rfl <| Vs (Pk rfl) <| Nx <| Cy rfl <| Sq <| Rg <| Vs (Bd TQ26 rfl) <| Vs (StS TS26 rfl) <| Vs (As rfl) <| Nx <| Re <| Tr <| Fi (l := [.agg [boolB (false), u32S ([]), boolB (false), u32S ([])], numB .i64 (3)]) (Rc (resVar_cell rfl rfl TA26 TS26 (Nat.le_of_ble_eq_true rfl) rfl) (Rc (resVar_tmp rfl rfl) Rn)) (ps_bad (ps4 hc1 hc2 hc3 (.inl hc4)) (by decide))
        · replace hc4 := of_decide_eq_false hc4
          refine Vs (LdS TA26 TS26 rfl) <| Vs (Cf rfl rfl (g20v (x := pW (cuA (s))) (y := pW (cuB (s))) inT inT) rfl) <| Vs (Un rfl) <| Vs (Pk rfl) <| Nx <| Cd rfl (fun hc5 => ?_) (fun hc5 => ?_)
          · replace hc5 := (bnot_t hc5)
            exact Sq <| Rg <| Vs (Bd TQ26 rfl) <| Vs (StS TS26 rfl) <| Vs (As rfl) <| Nx <| Re <| Tr <| Fi (l := [.agg [boolB (false), u32S ([]), boolB (false), u32S ([])], numB .i64 (3)]) (Rc (resVar_cell rfl rfl TA26 TS26 (Nat.le_of_ble_eq_true rfl) rfl) (Rc (resVar_tmp rfl rfl) Rn)) (ps_bad (ps4 hc1 hc2 hc3 (.inr hc5)) (by decide))
          · replace hc5 := (bnot_f hc5)
            exact Ks <| Tg <| Sq <| Rg <| Vs (LdS TA26 TS26 rfl) <| Vs (StS TS26 rfl) <| Vs (As rfl) <| Nx <| Re <| Fi (l := [.agg [boolB (zN (pW (cuA (s)))), u32S (zL (pW (cuA (s)))), boolB (zN (pW (cuB (s)))), u32S (zL (pW (cuB (s))))], numB .i64 (0)]) (Rc (resVar_cell rfl rfl TA26 TS26 (Nat.le_of_ble_eq_true rfl) rfl) (Rc (resVar_tmp rfl rfl) Rn)) (ps5 hc1 hc2 hc3 hc4 hc5)
end Go.VL
