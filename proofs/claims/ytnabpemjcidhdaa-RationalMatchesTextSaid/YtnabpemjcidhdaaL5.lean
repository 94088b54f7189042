/- RationalMatchesText returns true for every input and leaves the input as it was. No condition. -/
import Derived.Test.YtnabpemjcidhdaaK4
/- Plain laws of rationals: what the functions return stays in bounds. No program. -/
set_option linter.unusedVariables false
namespace Go.VL
section
variable {x y p q r s : Int}
theorem rdS_in (h : inB x = true) : inB (rdS x y) = true := by
  unfold rdS; split
  · exact (in_neg x).trans h
  · exact h
theorem rdN_in (hx : inB x = true) : inB (rdN x y) = true := by
  unfold rdN
  by_cases h : rdG x y = 0
  · rw [h, Int.fdiv_zero]; exact in_zero
  · exact fdiv_in (rdS_in hx) h
theorem rdD_in (hy : inB y = true) : inB (rdD x y) = true := by
  unfold rdD
  by_cases h : rdG x y = 0
  · rw [h, Int.fdiv_zero]; exact in_zero
  · exact fdiv_in (rdS_in hy) h
theorem mkN_in (hx : inB x = true) : inB (mkN x y) = true := by
  unfold mkN; split
  · exact in_zero
  · exact rdN_in hx
theorem mkD_in (hy : inB y = true) : inB (mkD x y) = true := by
  unfold mkD; split
  · exact in_zero
  · exact rdD_in hy
theorem sh_nil (z : Int) : shZ z 0 = z := by simp [shZ]
theorem fl_nil {k : Int} (h : ¬ k > 0) (h1 : k ≥ 0) (hi : inB (p.fdiv q) = true) : zR (flZ p q k) = oneB [iB (p.fdiv q), numB .i64 0] := by
  have : k = 0 := by omega
  subst this
  rw [flZ, if_pos (Int.le_refl 0), sh_nil, zR, zE_in.2 hi]; rfl
theorem fl_ins (z : Int) : ∃ w e : Int, inB w = true ∧ zR z = .tup [iB w, numB .i64 e] := by
  cases h : inB z with
  | true => exact ⟨z, zE z, h, rfl⟩
  | false => exact ⟨0, zE z, in_zero, by rw [zR, zB_zero, ← iB_out (z := z) (fun hc => by rw [zE_in.1 hc] at h; cases h)]⟩
theorem sq_ins (hp : inB p = true) (hq : inB q = true) : inB (sqQn p q) = true ∧ inB (sqQd p q) = true := by
  have hs : ∀ z : Int, inB z = true → inB (isq z) = true := fun z hz => by
    by_cases h : 0 ≤ z
    · exact (sq_in h hz).1
    · have : isq z = 0 := by unfold isq; rw [show z.toNat = 0 by omega]; rfl
      rw [this]; exact in_zero
  unfold sqQn sqQd
  split
  · exact ⟨hs _ hp, hs _ hq⟩
  · exact ⟨in_zero, in_zero⟩
end
end Go.VL

/- Plain laws of rationals: the place of the slash. No program. -/
set_option linter.unusedVariables false
namespace Go.VL
def slA (s : ByteArray) : Int := if 0 ≤ ixB s then ixB s else (s.size : Int)
def SlI (s : ByteArray) (i : Nat) : Prop := ∀ j, j < i → at8 s j ≠ 47
theorem indexByte_at {c : UInt8} : ∀ (l : List UInt8) (i : Nat), i < l.length → (∀ j, j < i → l.getD j 0 ≠ c) → l.getD i 0 = c → Lib.indexByte l c = (i : Int)
  | [], i, h, _, _ => by cases h
  | b :: l, 0, _, _, h => by
    unfold Lib.indexByte
    rw [if_pos (by simpa using h)]; rfl
  | b :: l, i + 1, h, hn, he => by
    have h0 : b ≠ c := hn 0 (by omega)
    have hh : i < l.length := by simpa using h
    have ih := indexByte_at l i hh (fun j hj => hn (j + 1) (by omega)) he
    unfold Lib.indexByte
    rw [if_neg (by simpa using h0), ih]
    rw [if_neg (by simp)]; omega
theorem indexByte_no {c : UInt8} : ∀ (l : List UInt8), (∀ j, j < l.length → l.getD j 0 ≠ c) → Lib.indexByte l c = -1
  | [], _ => by unfold Lib.indexByte; rfl
  | b :: l, hn => by
    have h0 : b ≠ c := hn 0 (by simp)
    have ih := indexByte_no l (fun j hj => hn (j + 1) (by simp; omega))
    unfold Lib.indexByte
    rw [if_neg (by simpa using h0), ih]
    rfl
theorem at8_iff {s : ByteArray} {i : Nat} : at8 s i = 47 ↔ s.data.toList.getD i 0 = (47 : Int).toNat.toUInt8 := by
  have e : s.data.toList.getD i 0 = s.data.getD i 0 := by simp [List.getD_eq_getElem?_getD, Array.getD_eq_getD_getElem?]
  rw [e]
  unfold at8
  constructor
  · intro h
    apply UInt8.toNat_inj.1
    have : (47 : Int).toNat.toUInt8.toNat = 47 := rfl
    omega
  · intro h; rw [h]; rfl
theorem SlI.start {s : ByteArray} : SlI s 0 := fun j hj => by omega
theorem SlI.next {s : ByteArray} {i : Nat} (h : SlI s i) (h2 : ¬ at8 s i = 47) : SlI s (i + 1) := fun j hj => by
  rcases Nat.lt_or_eq_of_le (Nat.le_of_lt_succ hj) with h1 | h1
  · exact h j h1
  · rw [h1]; exact h2
theorem SlI.found {s : ByteArray} {i : Nat} (h : SlI s i) (hi : i < s.size) (h2 : at8 s i = 47) : numB .i64 (slA s) = oneB [numB .i64 (i : Int)] := by
  have e : ixB s = (i : Int) := indexByte_at _ i (by simpa using hi) (fun j hj hc => h j hj (at8_iff.2 hc)) (at8_iff.1 h2)
  rw [slA, e, if_pos (by omega)]; rfl
theorem SlI.done {s : ByteArray} {i : Nat} (h : SlI s i) (hi : ¬ i < s.size) : numB .i64 (slA s) = oneB [numB .i64 (s.size : Int)] := by
  have hl : s.data.toList.length = s.size := by simp
  have e : ixB s = -1 := indexByte_no _ (fun j hj hc => h j (by omega) (at8_iff.2 hc))
  rw [slA, e, if_neg (by omega)]; rfl
section
variable {s : ByteArray}
theorem slA_rng (s : ByteArray) : 0 ≤ slA s ∧ slA s ≤ s.size := by
  have := ixB_lt s
  unfold slA; split <;> omega
theorem slA_a (s : ByteArray) : s.extract 0 (slA s).toNat = cuA s := by
  unfold slA cuA
  split
  · rfl
  · rw [Int.toNat_natCast]; exact ByteArray.extract_zero_size
theorem slA_b (h : ¬ slA s = s.size) : s.extract (slA s + 1).toNat s.size = cuB s ∧ cuF s = true := by
  unfold slA at h ⊢
  unfold cuB cuF
  split at h
  · rename_i h1; rw [if_pos h1, if_pos h1]; exact ⟨rfl, decide_eq_true h1⟩
  · exact absurd rfl h
theorem slA_e (h : slA s = s.size) : cuF s = false := by
  have := ixB_lt s
  unfold slA at h
  unfold cuF
  split at h
  · omega
  · exact decide_eq_false (by assumption)
end
theorem ps_in (s : ByteArray) : inB (psP s) = true ∧ inB (psQ s) = true := by
  unfold psP psQ
  split
  · refine ⟨pW_in _, ?_⟩
    split
    · exact pW_in _
    · exact in_one
  · exact ⟨in_zero, in_zero⟩
end Go.VL

/- Walks over the Go functions, printed by a program of this session over the kit's print, and by hand. -/
set_option linter.unusedVariables false
set_option linter.unusedSimpArgs false
set_option maxRecDepth 100000
namespace Go.VL
open Go.Proofs
theorem g69 {z : Int} (hz : inB z = true) : VF Try.prog 69 [.agg [boolB (zN (z)), u32S (zL (z))]] (iB (-z)) := by
  refine VF_of P_mixed Try.func69 rfl rfl (by kernel_rfl) <| Sq <| Rg <| Vs (Bx 0 rfl) <| Vs (Al 1 TZ24 rfl) <| Nx <| Sq <| Sq <| Rg <| Vs (LdS TA24 TS24 rfl) <| Vs (Cf rfl rfl (g55 (z := z) inT) rfl) <| Nx <| Cd rfl (fun hc1 => ?_) (fun hc1 => ?_)
  · replace hc1 := of_decide_eq_true hc1
    exact Sq <| Rg <| Vs (LdS TA24 TS24 rfl) <| Vs (StS TS24 rfl) <| Nx <| Re <| Tr <| Fi (l := [.agg [boolB (zN (z)), u32S (zL (z))]]) (Rc (resVar_cell rfl rfl TA24 TS24 (Nat.le_of_ble_eq_true rfl) rfl) Rn) (retZ (by omega))
  · replace hc1 := of_decide_eq_false hc1
    exact Ks <| Tg <| Sq <| Rg <| Vs (Fa TF24_0 rfl) <| Vs (Ld TA4 rfl) <| Vs (Un rfl) <| Vs (Fa TF24_1 rfl) <| Vs (Ld TA22 rfl) <| Vs (Bd TQ24 rfl) <| Vs (StS TS24 rfl) <| Nx <| Re <| Fi (l := [.agg [boolB ((!zN (z))), u32S (zL (z))]]) (Rc (resVar_cell rfl rfl TA24 TS24 (Nat.le_of_ble_eq_true rfl) rfl) Rn) (negR (mt (by have := zL_nil hz; omega) hc1))
theorem g56 {x y : Int} (hx : inB x = true) (hy : inB y = true) (h0 : y ≠ 0) : VF Try.prog 56 [.agg [boolB (zN (x)), u32S (zL (x))], .agg [boolB (zN (y)), u32S (zL (y))]] (qB (rdN x y) (rdD x y)) := by
  have nx : inB (-x) = true := (in_neg x).trans hx
  have ny : inB (-y) = true := (in_neg y).trans hy
  have gi := rdG_in hx hy
  have gn := rdG_ne x h0
  refine VF_of P_mixed Try.func56 rfl rfl (by kernel_rfl) <| Sq <| Rg <| Vs (Bx 0 rfl) <| Vs (Bx 1 rfl) <| Vs (Al 2 TZ27 rfl) <| Nx <| Sq <| Rg <| Vs (LdS TA24 TS24 rfl) <| Vs (LdS TA24 TS24 rfl) <| Vs (C0 rfl rfl (d32 (x := x) (y := y) inT inT)) <| Vs (Mv rfl) <| Vs (Xt rfl) <| Vs (Xt rfl) <| Vs (Al 9 TZ24 rfl) <| Vs (StS TS24 rfl) <| Vs (As rfl) <| Nx <| Sq <| Sq <| Rg <| Vs (Fa TF24_0 rfl) <| Vs (Ld TA4 rfl) <| Nx <| Cd rfl (fun hc1 => ?_) (fun hc1 => ?_)
  · (try simp at hc1)
    have hy0 : y < 0 := zN_lt hc1
    exact Sq <| Rg <| Vs (LdS TA24 TS24 rfl) <| Vs (C0 rfl rfl (g69 (z := x) inT)) <| Vs (StS TS24 rfl) <| Nx <| Rg <| Vs (LdS TA24 TS24 rfl) <| Vs (C0 rfl rfl (g69 (z := y) inT)) <| Vs (StS TS24 rfl) <| Nx <| Sq <| Rg <| Vs (LdS TA24 TS24 rfl) <| Vs (LdS TA24 TS24 rfl) <| Vs (C0 rfl rfl (d19 (x := -(x)) (y := rdG (x) (y)) inT inT (by first | with_reducible assumption | omega))) <| Vs (Mv rfl) <| Vs (Xt rfl) <| Vs (Xt rfl) <| Vs (Xt rfl) <| Vs (Al 27 TZ24 rfl) <| Vs (Al 28 TZ24 rfl) <| Vs (StS TS24 rfl) <| Vs (StS TS24 rfl) <| Vs (As rfl) <| Nx <| Sq <| Rg <| Vs (LdS TA24 TS24 rfl) <| Vs (LdS TA24 TS24 rfl) <| Vs (C0 rfl rfl (d19 (x := -(y)) (y := rdG (x) (y)) inT inT (by first | with_reducible assumption | omega))) <| Vs (Mv rfl) <| Vs (Xt rfl) <| Vs (Xt rfl) <| Vs (Xt rfl) <| Vs (Al 39 TZ24 rfl) <| Vs (Al 40 TZ24 rfl) <| Vs (StS TS24 rfl) <| Vs (StS TS24 rfl) <| Vs (As rfl) <| Nx <| Sq <| Rg <| Vs (LdS TA24 TS24 rfl) <| Vs (LdS TA24 TS24 rfl) <| Vs (Bd TQ27 rfl) <| Vs (StS TS27 rfl) <| Nx <| Re <| Fi (l := [.agg [boolB (zN ((-(x)).fdiv (rdG (x) (y)))), u32S (zL ((-(x)).fdiv (rdG (x) (y)))), boolB (zN ((-(y)).fdiv (rdG (x) (y)))), u32S (zL ((-(y)).fdiv (rdG (x) (y))))]]) (Rc (resVar_cell rfl rfl TA27 TS27 (Nat.le_of_ble_eq_true rfl) rfl) Rn) (rdR1 hy0)
  · (try simp at hc1)
    have hy0 : ¬ y < 0 := zN_ge hy hc1
    exact Ks <| Tg <| Sq <| Rg <| Vs (LdS TA24 TS24 rfl) <| Vs (LdS TA24 TS24 rfl) <| Vs (C0 rfl rfl (d19 (x := x) (y := rdG (x) (y)) inT inT (by first | with_reducible assumption | omega))) <| Vs (Mv rfl) <| Vs (Xt rfl) <| Vs (Xt rfl) <| Vs (Xt rfl) <| Vs (Al 21 TZ24 rfl) <| Vs (Al 22 TZ24 rfl) <| Vs (StS TS24 rfl) <| Vs (StS TS24 rfl) <| Vs (As rfl) <| Nx <| Sq <| Rg <| Vs (LdS TA24 TS24 rfl) <| Vs (LdS TA24 TS24 rfl) <| Vs (C0 rfl rfl (d19 (x := y) (y := rdG (x) (y)) inT inT (by first | with_reducible assumption | omega))) <| Vs (Mv rfl) <| Vs (Xt rfl) <| Vs (Xt rfl) <| Vs (Xt rfl) <| Vs (Al 33 TZ24 rfl) <| Vs (Al 34 TZ24 rfl) <| Vs (StS TS24 rfl) <| Vs (StS TS24 rfl) <| Vs (As rfl) <| Nx <| Sq <| Rg <| Vs (LdS TA24 TS24 rfl) <| Vs (LdS TA24 TS24 rfl) <| Vs (Bd TQ27 rfl) <| Vs (StS TS27 rfl) <| Nx <| Re <| Fi (l := [.agg [boolB (zN ((x).fdiv (rdG (x) (y)))), u32S (zL ((x).fdiv (rdG (x) (y)))), boolB (zN ((y).fdiv (rdG (x) (y)))), u32S (zL ((y).fdiv (rdG (x) (y))))]]) (Rc (resVar_cell rfl rfl TA27 TS27 (Nat.le_of_ble_eq_true rfl) rfl) Rn) (rdR3 hy0)
theorem g17i (n : Bool) (A : List Int) (m : Bool) (D : List Int) (hA : A.length ≤ 9223372036854775807) (hD : D.length ≤ 9223372036854775807) (h : (validB n A && validB m D) = false) : VF Try.prog 17 [.agg [boolB (n), u32S (A)], .agg [boolB (m), u32S (D)]] (rR 0 0 1) := by
  refine VF_of P_mixed Try.func17 rfl rfl (by kernel_rfl) <| Sq <| Rg <| Vs (Bx 0 rfl) <| Vs (Bx 1 rfl) <| Vs (Al 2 TZ27 rfl) <| Vs (As rfl) <| Nx <| Sq <| Rg <| Vs (LdS TA24 TS24 rfl) <| Vs (Cf rfl rfl (f26 n A hA) rfl) <| Vs (As rfl) <| Nx <| Sq <| Rg <| Vs (LdS TA24 TS24 rfl) <| Vs (Cf rfl rfl (f26 m D hD) rfl) <| Vs (As rfl) <| Nx <| Sq <| Sq <| Rg <| Vs (Mv rfl) <| Vs (Un rfl) <| Vs (Mv rfl) <| Sp 14 rfl (fun hc1 => ?_) (fun hc1 => ?_)
  · replace hc1 := (bnot_t hc1)
    exact Sk rfl <| Sk rfl <| Vs (Pk rfl) <| Nx <| Cy rfl <| Sq <| Rg <| Vs (Bd TQ27 rfl) <| Vs (StS TS27 rfl) <| Vs (As rfl) <| Nx <| Re <| Tr <| Fi (l := [.agg [boolB (false), u32S ([]), boolB (false), u32S ([])], numB .i64 (1)]) (Rc (resVar_cell rfl rfl TA27 TS27 (Nat.le_of_ble_eq_true rfl) rfl) (Rc (resVar_tmp rfl rfl) Rn)) (by rw [rR, qB_zero]; rfl)
  · replace hc1 := (bnot_f hc1)
    refine Vs (Mv rfl) <| Vs (Un rfl) <| Vs (Pk rfl) <| Nx <| Cd rfl (fun hc2 => ?_) (fun hc2 => ?_)
    · replace hc2 := (bnot_t hc2)
      exact Sq <| Rg <| Vs (Bd TQ27 rfl) <| Vs (StS TS27 rfl) <| Vs (As rfl) <| Nx <| Re <| Tr <| Fi (l := [.agg [boolB (false), u32S ([]), boolB (false), u32S ([])], numB .i64 (1)]) (Rc (resVar_cell rfl rfl TA27 TS27 (Nat.le_of_ble_eq_true rfl) rfl) (Rc (resVar_tmp rfl rfl) Rn)) (by rw [rR, qB_zero]; rfl)
    · replace hc2 := (bnot_f hc2)
      simp [hc1, hc2] at h
theorem g17 {x y : Int} (hx : inB x = true) (hy : inB y = true) : VF Try.prog 17 [.agg [boolB (zN (x)), u32S (zL (x))], .agg [boolB (zN (y)), u32S (zL (y))]] (rR (mkN x y) (mkD x y) (mkE y)) := by
  refine VF_of P_mixed Try.func17 rfl rfl (by kernel_rfl) <| Sq <| Rg <| Vs (Bx 0 rfl) <| Vs (Bx 1 rfl) <| Vs (Al 2 TZ27 rfl) <| Vs (As rfl) <| Nx <| Sq <| Rg <| Vs (LdS TA24 TS24 rfl) <| Vs (Cf rfl rfl (d26 (x)) rfl) <| Vs (As rfl) <| Nx <| Sq <| Rg <| Vs (LdS TA24 TS24 rfl) <| Vs (Cf rfl rfl (d26 (y)) rfl) <| Vs (As rfl) <| Nx <| Sq <| Sq <| Rg <| Vs (Mv rfl) <| Vs (Un rfl) <| Vs (Mv rfl) <| Vs (Mv rfl) <| Vs (Un rfl) <| Vs (Pk rfl) <| Nx <| Cz rfl <| Ks <| Tg <| Sq <| Sq <| Rg <| Vs (LdS TA24 TS24 rfl) <| Vs (Cf rfl rfl (g55 (z := y) inT) rfl) <| Nx <| Cd rfl (fun hc1 => ?_) (fun hc1 => ?_)
  · replace hc1 := of_decide_eq_true hc1
    exact Sq <| Rg <| Vs (Bd TQ27 rfl) <| Vs (StS TS27 rfl) <| Vs (As rfl) <| Nx <| Re <| Tr <| Fi (l := [.agg [boolB (false), u32S ([]), boolB (false), u32S ([])], numB .i64 (4)]) (Rc (resVar_cell rfl rfl TA27 TS27 (Nat.le_of_ble_eq_true rfl) rfl) (Rc (resVar_tmp rfl rfl) Rn)) (mkR0 hc1)
  · replace hc1 := of_decide_eq_false hc1
    exact Ks <| Tg <| Sq <| Rg <| Vs (LdS TA24 TS24 rfl) <| Vs (LdS TA24 TS24 rfl) <| Vs (C0 rfl rfl (g56 (x := x) (y := y) inT inT (by first | with_reducible assumption | omega))) <| Vs (StS TS27 rfl) <| Vs (As rfl) <| Nx <| Re <| Fi (l := [.agg [boolB (zN (rdN (x) (y))), u32S (zL (rdN (x) (y))), boolB (zN (rdD (x) (y))), u32S (zL (rdD (x) (y)))], numB .i64 (0)]) (Rc (resVar_cell rfl rfl TA27 TS27 (Nat.le_of_ble_eq_true rfl) rfl) (Rc (resVar_tmp rfl rfl) Rn)) (mkR1 hc1)
theorem g19 {k d : Int} (k0 : -9223372036854775808 ≤ k) (k1 : k ≤ 9223372036854775807) (d0 : -9223372036854775808 ≤ d) (d1 : d ≤ 9223372036854775807) : VF Try.prog 19 [numB .i64 (k), numB .i64 (d)] (rR (mkN k d) (mkD k d) (mkE d)) := by
  have i1 := in_i64 k0 k1
  have i2 := in_i64 d0 d1
  exact VF_of P_mixed Try.func19 rfl rfl (by kernel_rfl) <| Sq <| Rg <| Vs (Al 0 TZ27 rfl) <| Vs (As rfl) <| Nx <| Sq <| Rg <| Vs (Mv rfl) <| Vs (C0 rfl rfl (d37 (n := k) (by first | omega | assumption | (simp; done) | (simp; omega)) (by first | omega | assumption | (simp; done) | (simp; omega)))) <| Vs (Mv rfl) <| Vs (C0 rfl rfl (d37 (n := d) (by first | omega | assumption | (simp; done) | (simp; omega)) (by first | omega | assumption | (simp; done) | (simp; omega)))) <| Vs (C0 rfl rfl (g17 (x := k) (y := d) inT inT)) <| Vs (Xt rfl) <| Vs (Xt rfl) <| Vs (StS TS27 rfl) <| Vs (As rfl) <| Nx <| Re <| Fi (l := [.agg [boolB (zN (mkN (k) (d))), u32S (zL (mkN (k) (d))), boolB (zN (mkD (k) (d))), u32S (zL (mkD (k) (d)))], numB .i64 (mkE (d))]) (Rc (resVar_cell rfl rfl TA27 TS27 (Nat.le_of_ble_eq_true rfl) rfl) (Rc (resVar_tmp rfl rfl) Rn)) rfl
end Go.VL

/- Walks over the Go functions, printed by a program of this session over the kit's print, and by hand. -/
set_option linter.unusedVariables false
set_option linter.unusedSimpArgs false
set_option maxRecDepth 100000
namespace Go.VL
open Go.Proofs
theorem g37i (n : Bool) (A : List Int) (m : Bool) (D : List Int) (hA : A.length ≤ 9223372036854775807) (hD : D.length ≤ 9223372036854775807) (oA : ok32 A) (oD : ok32 D) (h : vR n A m D = false) : VF Try.prog 37 [.agg [boolB (n), u32S (A), boolB (m), u32S (D)]] (numB .i64 0) := by
  exact VF_of P_mixed Try.func37 rfl rfl (by kernel_rfl) <| Sq <| Rg <| Vs (Bx 0 rfl) <| Vs (As rfl) <| Nx <| Sq <| Rg <| Vs (LdS TA27 TS27 rfl) <| Vs (Kb (show vR n A m D = false from h) (Cf rfl rfl (g21 n A m D hA hD oA oD) rfl)) <| Vs (As rfl) <| Nx <| Sq <| Sq <| Rg <| Vs (Mv rfl) <| Vs (Un rfl) <| Vs (Mv rfl) <| Sk rfl <| Sk rfl <| Sk rfl <| Vs (Pk rfl) <| Nx <| Cy rfl <| Sq <| Rg <| Vs (As rfl) <| Nx <| Re <| Tr <| Fi (l := [numB .i64 (0)]) (Rc (resVar_tmp rfl rfl) Rn) rfl
theorem g37 {p q : Int} (ha : okR p q) : VF Try.prog 37 [.agg [boolB (zN (p)), u32S (zL (p)), boolB (zN (q)), u32S (zL (q))]] (numB .i64 (cmp3 p 0)) := by
  obtain ⟨q0, g0, hp, hq⟩ := ha
  refine VF_of P_mixed Try.func37 rfl rfl (by kernel_rfl) <| Sq <| Rg <| Vs (Bx 0 rfl) <| Vs (As rfl) <| Nx <| Sq <| Rg <| Vs (LdS TA27 TS27 rfl) <| Vs (Cf rfl rfl (g21q ⟨q0, g0, hp, hq⟩) rfl) <| Vs (As rfl) <| Nx <| Sq <| Sq <| Rg <| Vs (Mv rfl) <| Vs (Un rfl) <| Vs (Mv rfl) <| Vs (Fa TF27_0 rfl) <| Vs (LdS TA24 TS24 rfl) <| Vs (Cf rfl rfl (g55 (z := p) inT) rfl) <| Vs (Pk rfl) <| Nx <| Cd rfl (fun hc1 => ?_) (fun hc1 => ?_)
  · replace hc1 := of_decide_eq_true hc1
    exact Sq <| Rg <| Vs (As rfl) <| Nx <| Re <| Tr <| Fi (l := [numB .i64 (0)]) (Rc (resVar_tmp rfl rfl) Rn) (sgn_zero hc1)
  · replace hc1 := of_decide_eq_false hc1
    refine Ks <| Tg <| Sq <| Sq <| Rg <| Vs (Fa TF27_0 rfl) <| Vs (Fa TF24_0 rfl) <| Vs (Ld TA4 rfl) <| Nx <| Cd rfl (fun hc2 => ?_) (fun hc2 => ?_)
    · replace hc2 := hc2
      exact Sq <| Rg <| Vs (As rfl) <| Nx <| Re <| Tr <| Fi (l := [numB .i64 ((-1))]) (Rc (resVar_tmp rfl rfl) Rn) (sgn_neg hc2)
    · replace hc2 := hc2
      exact Ks <| Tg <| Sq <| Rg <| Vs (As rfl) <| Nx <| Re <| Fi (l := [numB .i64 (1)]) (Rc (resVar_tmp rfl rfl) Rn) (sgn_pos hp hc1 hc2)
theorem g67 {p q r s : Int} (hp : inB p = true) (hq : inB q = true) (hr : inB r = true) (hs : inB s = true) (q0 : 0 < q) (s0 : 0 < s) : VF Try.prog 67 [.agg [boolB (zN (p)), u32S (zL (p))], .agg [boolB (zN (q)), u32S (zL (q))], .agg [boolB (zN (r)), u32S (zL (r))], .agg [boolB (zN (s)), u32S (zL (s))]] (numB .i64 (cmp3 (p * s) (r * q))) := by
  refine VF_of P_mixed Try.func67 rfl rfl (by kernel_rfl) <| Sq <| Rg <| Vs (Bx 0 rfl) <| Vs (Bx 1 rfl) <| Vs (Bx 2 rfl) <| Vs (Bx 3 rfl) <| Vs (As rfl) <| Nx <| Bk <| VCode.loop (α := (Int) × (Int) × (Int) × (Int)) (fun x_ => match x_ with | (n, d, m, f) => (4, sl [(4, .ptr 0 (0)), (5, .ptr 1 (0)), (6, .ptr 2 (0)), (7, .ptr 3 (0))], en [(0, ⟨2, [vB (zN (n)), vS (zL (n))], true⟩), (1, ⟨2, [vB (zN (d)), vS (zL (d))], true⟩), (2, ⟨2, [vB (zN (m)), vS (zL (m))], true⟩), (3, ⟨2, [vB (zN (f)), vS (zL (f))], true⟩)])) (fun x_ => match x_ with | (n, d, m, f) => CmpI (cmp3 (p * s) (r * q)) n d m f 1) (fun x_ => match x_ with | (n, d, m, f) => (d + f).toNat) (p, q, r, s) (CmpI.start q0 s0 hp hq hr hs rfl) Wk ?_
  rintro ⟨n, d, m, f⟩ hok
  obtain ⟨in1, in2, in3, in4⟩ := hok.i
  have m1 := fmod_in' in1 in2 hok.pd
  have m2 := fmod_in' in3 in4 hok.pf
  have k1 := fdiv_in in1 (Int.ne_of_gt hok.pd)
  have k2 := fdiv_in in3 (Int.ne_of_gt hok.pf)
  have z1 := hok.pd
  have z2 := hok.pf
  have z3 := (fm_range (n := n) hok.pd).2
  have z4 := (fm_range (n := n) hok.pd).1
  have z6 := (fm_range (n := m) hok.pf).2
  have z7 := (fm_range (n := m) hok.pf).1
  change VCode _ _ _ 4 (sl _) (en _) _
  refine Bk <| Sq <| Rg <| Vs (LdS TA24 TS24 rfl) <| Vs (LdS TA24 TS24 rfl) <| Vs (C0 rfl rfl (d19 (x := n) (y := d) inT inT (by first | with_reducible assumption | omega))) <| Vs (Mv rfl) <| Vs (Xt rfl) <| Vs (Xt rfl) <| Vs (Xt rfl) <| Vs (Al 11 TZ24 rfl) <| Vs (Al 12 TZ24 rfl) <| Vs (StS TS24 rfl) <| Vs (StS TS24 rfl) <| Vs (As rfl) <| Nx <| Sq <| Rg <| Vs (LdS TA24 TS24 rfl) <| Vs (LdS TA24 TS24 rfl) <| Vs (C0 rfl rfl (d19 (x := m) (y := f) inT inT (by first | with_reducible assumption | omega))) <| Vs (Mv rfl) <| Vs (Xt rfl) <| Vs (Xt rfl) <| Vs (Xt rfl) <| Vs (Al 23 TZ24 rfl) <| Vs (Al 24 TZ24 rfl) <| Vs (StS TS24 rfl) <| Vs (StS TS24 rfl) <| Vs (As rfl) <| Nx <| Sq <| Rg <| Vs (LdS TA24 TS24 rfl) <| Vs (LdS TA24 TS24 rfl) <| Vs (C0 rfl rfl (d34 (x := (n).fdiv (d)) (y := (m).fdiv (f)) inT inT)) <| Vs (Mv rfl) <| Vs (Xt rfl) <| Vs (Xt rfl) <| Vs (As rfl) <| Vs (As rfl) <| Nx <| Sq <| Sq <| Rg <| Vs (Mv rfl) <| Vs (Bi rfl) <| Nx <| Cd rfl (fun hc1 => ?_) (fun hc1 => ?_)
  · replace hc1 := bne_iff_ne.1 hc1
    exact Sq <| Rg <| Vs (Mv rfl) <| Vs (As rfl) <| Nx <| Re <| Tr <| Iq <| Or <| Iq <| Fi (l := [numB .i64 (cmp3 ((n).fdiv (d)) ((m).fdiv (f)))]) (Rc (resVar_tmp rfl rfl) Rn) (by rw [← hok.part hc1, Int.one_mul]; rfl)
  · replace hc1 := bne_eq_false_iff_eq.1 hc1
    refine Ks <| Tg <| Sq <| Sq <| Rg <| Vs (LdS TA24 TS24 rfl) <| Vs (Cf rfl rfl (g55 (z := (n).fmod (d)) inT) rfl) <| Vs (Mv rfl) <| Sp 42 rfl (fun hc2 => ?_) (fun hc2 => ?_)
    · replace hc2 := of_decide_eq_true hc2
      refine Vs (LdS TA24 TS24 rfl) <| Vs (Cf rfl rfl (g55 (z := (m).fmod (f)) inT) rfl) <| Vs (Pk rfl) <| Nx <| Cd rfl (fun hc3 => ?_) (fun hc3 => ?_)
      · replace hc3 := of_decide_eq_true hc3
        exact Sq <| Rg <| Vs (As rfl) <| Nx <| Re <| Tr <| Iq <| Or <| Iq <| Fi (l := [numB .i64 (0)]) (Rc (resVar_tmp rfl rfl) Rn) (congrArg (numB .i64) (hok.both hc1 hc2 hc3).symm)
      · replace hc3 := of_decide_eq_false hc3
        refine Ks <| Tg <| Sq <| Sq <| Rg <| Vs (LdS TA24 TS24 rfl) <| Vs (Cf rfl rfl (g55 (z := (n).fmod (d)) inT) rfl) <| Nx <| Cd rfl (fun hc4 => ?_) (fun hc4 => ?_)
        · replace hc4 := of_decide_eq_true hc4
          exact Sq <| Rg <| Vs (As rfl) <| Nx <| Re <| Tr <| Iq <| Or <| Iq <| Fi (l := [numB .i64 ((-1))]) (Rc (resVar_tmp rfl rfl) Rn) (congrArg (numB .i64) (hok.left hc1 hc2 hc3).symm)
        · replace hc4 := of_decide_eq_false hc4
          exact absurd hc2 hc4
    · replace hc2 := of_decide_eq_false hc2
      refine Sk rfl <| Sk rfl <| Vs (Pk rfl) <| Nx <| Cz rfl <| Ks <| Tg <| Sq <| Sq <| Rg <| Vs (LdS TA24 TS24 rfl) <| Vs (Cf rfl rfl (g55 (z := (n).fmod (d)) inT) rfl) <| Nx <| Cd rfl (fun hc5 => ?_) (fun hc5 => ?_)
      · replace hc5 := of_decide_eq_true hc5
        exact absurd hc5 hc2
      · replace hc5 := of_decide_eq_false hc5
        refine Ks <| Tg <| Sq <| Sq <| Rg <| Vs (LdS TA24 TS24 rfl) <| Vs (Cf rfl rfl (g55 (z := (m).fmod (f)) inT) rfl) <| Nx <| Cd rfl (fun hc6 => ?_) (fun hc6 => ?_)
        · replace hc6 := of_decide_eq_true hc6
          exact Sq <| Rg <| Vs (As rfl) <| Nx <| Re <| Tr <| Iq <| Or <| Iq <| Fi (l := [numB .i64 (1)]) (Rc (resVar_tmp rfl rfl) Rn) (congrArg (numB .i64) (hok.right hc1 hc2 hc6).symm)
        · replace hc6 := of_decide_eq_false hc6
          refine Ks <| Tg <| Rd (by kernel_rfl) <| Vl (LdS TA24 TS24 rfl) <| Vl (LdS TA24 TS24 rfl) <| Vl (LdS TA24 TS24 rfl) <| Vl (LdS TA24 TS24 rfl) <| Vl (StS TS24 rfl) <| Vl (StS TS24 rfl) <| Vl (StS TS24 rfl) <| Vl (StS TS24 rfl) <| ?_
          refine VLog.nil ⟨by kernel_rfl, ?_⟩
          exact Ig <| Go (f, m.fmod f, d, n.fmod d) (hok.swap hc1 hc2 hc6) Wk
theorem g66 (n : Bool) (A : List Int) (m : Bool) (D : List Int) (n2 : Bool) (A2 : List Int) (m2 : Bool) (D2 : List Int) (hA : A.length ≤ 9223372036854775807) (hD : D.length ≤ 9223372036854775807) (hA2 : A2.length ≤ 9223372036854775807) (hD2 : D2.length ≤ 9223372036854775807) (oA : ok32 A) (oD : ok32 D) (oA2 : ok32 A2) (oD2 : ok32 D2) : VF Try.prog 66 [.agg [boolB (n), u32S (A), boolB (m), u32S (D)], .agg [boolB (n2), u32S (A2), boolB (m2), u32S (D2)]] (boolB (vR n A m D && vR n2 A2 m2 D2)) := by
  refine VF_of P_mixed Try.func66 rfl rfl (by kernel_rfl) <| Sq <| Rg <| Vs (Bx 0 rfl) <| Vs (Bx 1 rfl) <| Vs (As rfl) <| Nx <| Sq <| Rg <| Vs (LdS TA27 TS27 rfl) <| Vs (Cf rfl rfl (g21 n A m D hA hD oA oD) rfl) <| Vs (As rfl) <| Nx <| Sq <| Rg <| Vs (LdS TA27 TS27 rfl) <| Vs (Cf rfl rfl (g21 n2 A2 m2 D2 hA2 hD2 oA2 oD2) rfl) <| Vs (As rfl) <| Nx <| Sq <| Rg <| Vs (Mv rfl) <| Vs (Mv rfl) <| Sp 12 rfl (fun hc1 => ?_) (fun hc1 => ?_)
  · replace hc1 := hc1
    exact Vs (Mv rfl) <| Vs (Pk rfl) <| Vs (As rfl) <| Nx <| Re <| Fi (l := [boolB (vR n2 A2 m2 D2)]) (Rc (resVar_tmp rfl rfl) Rn) (by rw [hc1]; rfl)
  · replace hc1 := hc1
    exact Sk rfl <| Vs (Pk rfl) <| Vs (As rfl) <| Nx <| Re <| Fi (l := [boolB (false)]) (Rc (resVar_tmp rfl rfl) Rn) (by rw [hc1]; rfl)
theorem g66q {p q r s : Int} (ha : okR p q) (hb : okR r s) : VF Try.prog 66 [qB p q, qB r s] (boolB true) := by
  have := g66 (zN p) (zL p) (zN q) (zL q) (zN r) (zL r) (zN s) (zL s) (len_zL' _) (len_zL' _) (len_zL' _) (len_zL' _) (ok32_zL _) (ok32_zL _) (ok32_zL _) (ok32_zL _)
  rw [vR_ok ha, vR_ok hb] at this
  exact this
theorem g31i (n : Bool) (A : List Int) (m : Bool) (D : List Int) (n2 : Bool) (A2 : List Int) (m2 : Bool) (D2 : List Int) (hA : A.length ≤ 9223372036854775807) (hD : D.length ≤ 9223372036854775807) (hA2 : A2.length ≤ 9223372036854775807) (hD2 : D2.length ≤ 9223372036854775807) (oA : ok32 A) (oD : ok32 D) (oA2 : ok32 A2) (oD2 : ok32 D2) (h : (vR n A m D && vR n2 A2 m2 D2) = false) : VF Try.prog 31 [.agg [boolB (n), u32S (A), boolB (m), u32S (D)], .agg [boolB (n2), u32S (A2), boolB (m2), u32S (D2)]] (.tup [numB .i64 0, numB .i64 1]) := by
  exact VF_of P_mixed Try.func31 rfl rfl (by kernel_rfl) <| Sq <| Rg <| Vs (Bx 0 rfl) <| Vs (Bx 1 rfl) <| Vs (As rfl) <| Vs (As rfl) <| Nx <| Sq <| Sq <| Rg <| Vs (LdS TA27 TS27 rfl) <| Vs (LdS TA27 TS27 rfl) <| Vs (Kb (show (vR n A m D && vR n2 A2 m2 D2) = false from h) (Cf rfl rfl (g66 n A m D n2 A2 m2 D2 hA hD hA2 hD2 oA oD oA2 oD2) rfl)) <| Vs (Un rfl) <| Nx <| Cy rfl <| Sq <| Rg <| Vs (As rfl) <| Vs (As rfl) <| Nx <| Re <| Tr <| Fi (l := [numB .i64 (0), numB .i64 (1)]) (Rc (resVar_tmp rfl rfl) (Rc (resVar_tmp rfl rfl) Rn)) rfl
theorem g31 {p q r s : Int} (ha : okR p q) (hb : okR r s) : VF Try.prog 31 [.agg [boolB (zN (p)), u32S (zL (p)), boolB (zN (q)), u32S (zL (q))], .agg [boolB (zN (r)), u32S (zL (r)), boolB (zN (s)), u32S (zL (s))]] (.tup [numB .i64 (cmp3 (p * s) (r * q)), numB .i64 0]) := by
  obtain ⟨q0, g0, hp, hq⟩ := ha
  obtain ⟨s0, g1, hr, hs⟩ := hb
  exact VF_of P_mixed Try.func31 rfl rfl (by kernel_rfl) <| Sq <| Rg <| Vs (Bx 0 rfl) <| Vs (Bx 1 rfl) <| Vs (As rfl) <| Vs (As rfl) <| Nx <| Sq <| Sq <| Rg <| Vs (LdS TA27 TS27 rfl) <| Vs (LdS TA27 TS27 rfl) <| Vs (Cf rfl rfl (g66q ⟨q0, g0, hp, hq⟩ ⟨s0, g1, hr, hs⟩) rfl) <| Vs (Un rfl) <| Nx <| Cz rfl <| Ks <| Tg <| Sq <| Rg <| Vs (Fa TF27_0 rfl) <| Vs (LdS TA24 TS24 rfl) <| Vs (Fa TF27_1 rfl) <| Vs (LdS TA24 TS24 rfl) <| Vs (Fa TF27_0 rfl) <| Vs (LdS TA24 TS24 rfl) <| Vs (Fa TF27_1 rfl) <| Vs (LdS TA24 TS24 rfl) <| Vs (Cf rfl rfl (g67 (p := p) (q := q) (r := r) (s := s) inT inT inT inT (by first | omega | assumption | (simp; done) | (simp; omega)) (by first | omega | assumption | (simp; done) | (simp; omega))) rfl) <| Vs (As rfl) <| Vs (As rfl) <| Nx <| Re <| Fi (l := [numB .i64 (cmp3 ((p) * (s)) ((r) * (q))), numB .i64 (0)]) (Rc (resVar_tmp rfl rfl) (Rc (resVar_tmp rfl rfl) Rn)) rfl
theorem g33i (n : Bool) (A : List Int) (m : Bool) (D : List Int) (hA : A.length ≤ 9223372036854775807) (hD : D.length ≤ 9223372036854775807) (oA : ok32 A) (oD : ok32 D) (k : Int) (h : vR n A m D = false) : VF Try.prog 33 [.agg [boolB (n), u32S (A), boolB (m), u32S (D)], numB .i64 (k)] (.tup [intB false [], numB .i64 1]) := by
  exact VF_of P_mixed Try.func33 rfl rfl (by kernel_rfl) <| Sq <| Rg <| Vs (Bx 0 rfl) <| Vs (Al 1 TZ24 rfl) <| Vs (As rfl) <| Nx <| Sq <| Rg <| Vs (LdS TA27 TS27 rfl) <| Vs (Kb (show vR n A m D = false from h) (Cf rfl rfl (g21 n A m D hA hD oA oD) rfl)) <| Vs (As rfl) <| Nx <| Sq <| Sq <| Rg <| Vs (Mv rfl) <| Vs (Un rfl) <| Nx <| Cy rfl <| Sq <| Rg <| Vs (Bd TQ24 rfl) <| Vs (StS TS24 rfl) <| Vs (As rfl) <| Nx <| Re <| Tr <| Fi (l := [.agg [boolB (false), u32S ([])], numB .i64 (1)]) (Rc (resVar_cell rfl rfl TA24 TS24 (Nat.le_of_ble_eq_true rfl) rfl) (Rc (resVar_tmp rfl rfl) Rn)) rfl
theorem g33 {p q : Int} (ha : okR p q) {k : Int} (k0 : -9223372036854775808 ≤ k) (k1 : k ≤ 9223372036854775807) : VF Try.prog 33 [.agg [boolB (zN (p)), u32S (zL (p)), boolB (zN (q)), u32S (zL (q))], numB .i64 (k)] (zR (flZ p q k)) := by
  obtain ⟨q0, g0, hp, hq⟩ := ha
  have q1 : q ≠ 0 := Int.ne_of_gt q0
  have k2 := fdiv_in hp q1
  refine VF_of P_mixed Try.func33 rfl rfl (by kernel_rfl) <| Sq <| Rg <| Vs (Bx 0 rfl) <| Vs (Al 1 TZ24 rfl) <| Vs (As rfl) <| Nx <| Sq <| Rg <| Vs (LdS TA27 TS27 rfl) <| Vs (Cf rfl rfl (g21q ⟨q0, g0, hp, hq⟩) rfl) <| Vs (As rfl) <| Nx <| Sq <| Sq <| Rg <| Vs (Mv rfl) <| Vs (Un rfl) <| Nx <| Cz rfl <| Ks <| Tg <| Sq <| Rg <| Vs (Fa TF27_0 rfl) <| Vs (LdS TA24 TS24 rfl) <| Vs (Al 10 TZ24 rfl) <| Vs (StS TS24 rfl) <| Nx <| Sq <| Sq <| Rg <| Vs (Mv rfl) <| Vs (Bi rfl) <| Nx <| Cd rfl (fun hc1 => ?_) (fun hc1 => ?_)
  · replace hc1 := of_decide_eq_true hc1
    refine Sq <| Rg <| Vs (LdS TA24 TS24 rfl) <| Vs (Mv rfl) <| Vs (C0 rfl rfl (d46 (x := p) (y := k) inT (by first | omega | assumption | (simp; done) | (simp; omega)) (by first | omega | assumption | (simp; done) | (simp; omega)))) <| Vs (Mv rfl) <| Vs (Xt rfl) <| Vs (Xt rfl) <| Vs (Al 20 TZ24 rfl) <| Vs (StS TS24 rfl) <| Vs (As rfl) <| Nx <| Sq <| Sq <| Rg <| Vs (Mv rfl) <| Vs (Bi rfl) <| Nx <| Cd rfl (fun hc2 => ?_) (fun hc2 => ?_)
    · replace hc2 := bne_iff_ne.1 hc2
      exact Sq <| Rg <| Vs (Bd TQ24 rfl) <| Vs (Mv rfl) <| Vs (StS TS24 rfl) <| Vs (As rfl) <| Nx <| Re <| Tr <| Tr <| Fi (l := [.agg [boolB (false), u32S ([])], numB .i64 (zE (shZ (p) (k)))]) (Rc (resVar_cell rfl rfl TA24 TS24 (Nat.le_of_ble_eq_true rfl) rfl) (Rc (resVar_tmp rfl rfl) Rn)) (fl_out (by omega) hc2)
    · replace hc2 := bne_eq_false_iff_eq.1 hc2
      refine Ks <| Tg <| Rg <| Vs (LdS TA24 TS24 rfl) <| Vs (StS TS24 rfl) <| Nx <| Sq <| Rg <| Vs (LdS TA24 TS24 rfl) <| Vs (Fa TF27_1 rfl) <| Vs (LdS TA24 TS24 rfl) <| Vs (C0 rfl rfl (d19 (x := shZ (p) (k)) (y := q) (by first | with_reducible exact hp | with_reducible exact zE_in.1 hc2) inT (by first | with_reducible assumption | omega))) <| Vs (Mv rfl) <| Vs (Xt rfl) <| Vs (Xt rfl) <| Vs (Xt rfl) <| Vs (Al 35 TZ24 rfl) <| Vs (Al 36 TZ24 rfl) <| Vs (StS TS24 rfl) <| Vs (StS TS24 rfl) <| Vs (As rfl) <| Nx <| Sq <| Sq <| Rg <| Vs (Mv rfl) <| Vs (Bi rfl) <| Nx <| Cd rfl (fun hc3 => ?_) (fun hc3 => ?_)
      · replace hc3 := of_decide_eq_true hc3
        exact Sq <| Rg <| Vs (LdS TA24 TS24 rfl) <| Vs (StS TS24 rfl) <| Vs (As rfl) <| Nx <| Re <| Tr <| Fi (l := [.agg [boolB (zN ((shZ (p) (k)).fdiv (q))), u32S (zL ((shZ (p) (k)).fdiv (q)))], numB .i64 (0)]) (Rc (resVar_cell rfl rfl TA24 TS24 (Nat.le_of_ble_eq_true rfl) rfl) (Rc (resVar_tmp rfl rfl) Rn)) (fl_in (by omega) hc2 q1)
      · replace hc3 := of_decide_eq_false hc3
        omega
  · replace hc1 := of_decide_eq_false hc1
    refine Ks <| Tg <| Sq <| Rg <| Vs (LdS TA24 TS24 rfl) <| Vs (Fa TF27_1 rfl) <| Vs (LdS TA24 TS24 rfl) <| Vs (C0 rfl rfl (d19 (x := p) (y := q) (by first | with_reducible exact hp | with_reducible exact zE_in.1 hc2) inT (by first | with_reducible assumption | omega))) <| Vs (Mv rfl) <| Vs (Xt rfl) <| Vs (Xt rfl) <| Vs (Xt rfl) <| Vs (Al 22 TZ24 rfl) <| Vs (Al 23 TZ24 rfl) <| Vs (StS TS24 rfl) <| Vs (StS TS24 rfl) <| Vs (As rfl) <| Nx <| Sq <| Sq <| Rg <| Vs (Mv rfl) <| Vs (Bi rfl) <| Nx <| Cd rfl (fun hc4 => ?_) (fun hc4 => ?_)
    · replace hc4 := of_decide_eq_true hc4
      exact Sq <| Rg <| Vs (LdS TA24 TS24 rfl) <| Vs (StS TS24 rfl) <| Vs (As rfl) <| Nx <| Re <| Tr <| Fi (l := [.agg [boolB (zN ((p).fdiv (q))), u32S (zL ((p).fdiv (q)))], numB .i64 (0)]) (Rc (resVar_cell rfl rfl TA24 TS24 (Nat.le_of_ble_eq_true rfl) rfl) (Rc (resVar_tmp rfl rfl) Rn)) (fl_nil hc1 hc4 k2)
    · replace hc4 := of_decide_eq_false hc4
      exact Ks <| Tg <| Sq <| Rg <| Vs (LdS TA24 TS24 rfl) <| Vs (Mv rfl) <| Vs (C0 rfl rfl (d46 (x := (p).fdiv (q)) (y := k) inT (by first | omega | assumption | (simp; done) | (simp; omega)) (by first | omega | assumption | (simp; done) | (simp; omega)))) <| Vs (Xt rfl) <| Vs (Xt rfl) <| Vs (StS TS24 rfl) <| Vs (As rfl) <| Nx <| Re <| Fi (l := [.agg [boolB (zN (shZ ((p).fdiv (q)) (k))), u32S (zL (shZ ((p).fdiv (q)) (k)))], numB .i64 (zE (shZ ((p).fdiv (q)) (k)))]) (Rc (resVar_cell rfl rfl TA24 TS24 (Nat.le_of_ble_eq_true rfl) rfl) (Rc (resVar_tmp rfl rfl) Rn)) (fl_low (by omega))
theorem g35i (n : Bool) (A : List Int) (m : Bool) (D : List Int) (hA : A.length ≤ 9223372036854775807) (hD : D.length ≤ 9223372036854775807) (oA : ok32 A) (oD : ok32 D) (h : vR n A m D = false) : VF Try.prog 35 [.agg [boolB (n), u32S (A), boolB (m), u32S (D)]] (.tup [qB 0 0, boolB false, numB .i64 1]) := by
  exact VF_of P_mixed Try.func35 rfl rfl (by kernel_rfl) <| Sq <| Rg <| Vs (Bx 0 rfl) <| Vs (Al 1 TZ27 rfl) <| Vs (As rfl) <| Vs (As rfl) <| Nx <| Sq <| Rg <| Vs (LdS TA27 TS27 rfl) <| Vs (Kb (show vR n A m D = false from h) (Cf rfl rfl (g21 n A m D hA hD oA oD) rfl)) <| Vs (As rfl) <| Nx <| Sq <| Sq <| Rg <| Vs (Mv rfl) <| Vs (Un rfl) <| Nx <| Cy rfl <| Sq <| Rg <| Vs (Bd TQ27 rfl) <| Vs (StS TS27 rfl) <| Vs (As rfl) <| Vs (As rfl) <| Nx <| Re <| Tr <| Fi (l := [.agg [boolB (false), u32S ([]), boolB (false), u32S ([])], boolB (false), numB .i64 (1)]) (Rc (resVar_cell rfl rfl TA27 TS27 (Nat.le_of_ble_eq_true rfl) rfl) (Rc (resVar_tmp rfl rfl) (Rc (resVar_tmp rfl rfl) Rn))) (by rw [qB_zero]; rfl)
theorem g35 {p q : Int} (ha : okR p q) : VF Try.prog 35 [.agg [boolB (zN (p)), u32S (zL (p)), boolB (zN (q)), u32S (zL (q))]] (sqRR p q) := by
  obtain ⟨q0, g0, hp, hq⟩ := ha
  refine VF_of P_mixed Try.func35 rfl rfl (by kernel_rfl) <| Sq <| Rg <| Vs (Bx 0 rfl) <| Vs (Al 1 TZ27 rfl) <| Vs (As rfl) <| Vs (As rfl) <| Nx <| Sq <| Rg <| Vs (LdS TA27 TS27 rfl) <| Vs (Cf rfl rfl (g21q ⟨q0, g0, hp, hq⟩) rfl) <| Vs (As rfl) <| Nx <| Sq <| Sq <| Rg <| Vs (Mv rfl) <| Vs (Un rfl) <| Nx <| Cz rfl <| Ks <| Tg <| Sq <| Sq <| Rg <| Vs (Fa TF27_0 rfl) <| Vs (Fa TF24_0 rfl) <| Vs (Ld TA4 rfl) <| Nx <| Cd rfl (fun hc1 => ?_) (fun hc1 => ?_)
  · replace hc1 := hc1
    exact Sq <| Rg <| Vs (Bd TQ27 rfl) <| Vs (StS TS27 rfl) <| Vs (As rfl) <| Vs (As rfl) <| Nx <| Re <| Tr <| Fi (l := [.agg [boolB (false), u32S ([]), boolB (false), u32S ([])], boolB (false), numB .i64 (5)]) (Rc (resVar_cell rfl rfl TA27 TS27 (Nat.le_of_ble_eq_true rfl) rfl) (Rc (resVar_tmp rfl rfl) (Rc (resVar_tmp rfl rfl) Rn))) (sq_neg (by have := zN_lt hc1; omega))
  · replace hc1 := hc1
    refine Ks <| Tg <| Sq <| Rg <| Vs (Fa TF27_0 rfl) <| Vs (LdS TA24 TS24 rfl) <| Vs (C0 rfl rfl (d45 (x := p) inT (zero_le hp hc1))) <| Vs (Mv rfl) <| Vs (Xt rfl) <| Vs (Xt rfl) <| Vs (Xt rfl) <| Vs (Al 19 TZ24 rfl) <| Vs (StS TS24 rfl) <| Vs (As rfl) <| Vs (As rfl) <| Nx <| Sq <| Rg <| Vs (Fa TF27_1 rfl) <| Vs (LdS TA24 TS24 rfl) <| Vs (C0 rfl rfl (d45 (x := q) inT (Int.le_of_lt q0))) <| Vs (Mv rfl) <| Vs (Xt rfl) <| Vs (Xt rfl) <| Vs (Xt rfl) <| Vs (Al 30 TZ24 rfl) <| Vs (StS TS24 rfl) <| Vs (As rfl) <| Vs (As rfl) <| Nx <| Sq <| Sq <| Rg <| Vs (Mv rfl) <| Vs (Un rfl) <| Vs (Mv rfl) <| Sp 37 rfl (fun hc2 => ?_) (fun hc2 => ?_)
    · replace hc2 := of_decide_eq_false (bnot_t hc2)
      exact Sk rfl <| Sk rfl <| Vs (Pk rfl) <| Nx <| Cy rfl <| Sq <| Rg <| Vs (Bd TQ27 rfl) <| Vs (StS TS27 rfl) <| Vs (As rfl) <| Vs (As rfl) <| Nx <| Re <| Tr <| Fi (l := [.agg [boolB (false), u32S ([]), boolB (false), u32S ([])], boolB (false), numB .i64 (0)]) (Rc (resVar_cell rfl rfl TA27 TS27 (Nat.le_of_ble_eq_true rfl) rfl) (Rc (resVar_tmp rfl rfl) (Rc (resVar_tmp rfl rfl) Rn))) (sq_no (zero_le hp hc1) (fun h => hc2 h.1))
    · replace hc2 := of_decide_eq_true (bnot_f hc2)
      refine Vs (Mv rfl) <| Vs (Un rfl) <| Vs (Pk rfl) <| Nx <| Cd rfl (fun hc3 => ?_) (fun hc3 => ?_)
      · replace hc3 := of_decide_eq_false (bnot_t hc3)
        exact Sq <| Rg <| Vs (Bd TQ27 rfl) <| Vs (StS TS27 rfl) <| Vs (As rfl) <| Vs (As rfl) <| Nx <| Re <| Tr <| Fi (l := [.agg [boolB (false), u32S ([]), boolB (false), u32S ([])], boolB (false), numB .i64 (0)]) (Rc (resVar_cell rfl rfl TA27 TS27 (Nat.le_of_ble_eq_true rfl) rfl) (Rc (resVar_tmp rfl rfl) (Rc (resVar_tmp rfl rfl) Rn))) (sq_no (zero_le hp hc1) (fun h => hc3 h.2))
      · replace hc3 := of_decide_eq_true (bnot_f hc3)
        exact Ks <| Tg <| Sq <| Rg <| Vs (LdS TA24 TS24 rfl) <| Vs (LdS TA24 TS24 rfl) <| Vs (Bd TQ27 rfl) <| Vs (StS TS27 rfl) <| Vs (As rfl) <| Vs (As rfl) <| Nx <| Re <| Fi (l := [.agg [boolB (zN (isq (p))), u32S (zL (isq (p))), boolB (zN (isq (q))), u32S (zL (isq (q)))], boolB (true), numB .i64 (0)]) (Rc (resVar_cell rfl rfl TA27 TS27 (Nat.le_of_ble_eq_true rfl) rfl) (Rc (resVar_tmp rfl rfl) (Rc (resVar_tmp rfl rfl) Rn))) (sq_yes (zero_le hp hc1) hc2 hc3)
end Go.VL

/- Walks over the Go functions, printed by a program of this session over the kit's print, and by hand. -/
set_option linter.unusedVariables false
set_option linter.unusedSimpArgs false
set_option maxRecDepth 100000
namespace Go.VL
open Go.Proofs
theorem g26i (n : Bool) (A : List Int) (m : Bool) (D : List Int) (hA : A.length ≤ 9223372036854775807) (hD : D.length ≤ 9223372036854775807) (oA : ok32 A) (oD : ok32 D) (h : vR n A m D = false) : VF Try.prog 26 [.agg [boolB (n), u32S (A), boolB (m), u32S (D)]] (.tup [.lit (.string noneB), numB .i64 1]) := by
  exact VF_of P_mixed Try.func26 rfl rfl (by kernel_rfl) <| Sq <| Rg <| Vs (Bx 0 rfl) <| Vs (As rfl) <| Vs (As rfl) <| Nx <| Sq <| Rg <| Vs (LdS TA27 TS27 rfl) <| Vs (Kb (show vR n A m D = false from h) (Cf rfl rfl (g21 n A m D hA hD oA oD) rfl)) <| Vs (As rfl) <| Nx <| Sq <| Sq <| Rg <| Vs (Mv rfl) <| Vs (Un rfl) <| Nx <| Cy rfl <| Sq <| Rg <| Vs (As rfl) <| Vs (As rfl) <| Nx <| Re <| Tr <| Fi (l := [.lit (.string ((⟨#[]⟩ : ByteArray))), numB .i64 (1)]) (Rc (resVar_tmp rfl rfl) (Rc (resVar_tmp rfl rfl) Rn)) rfl
theorem g26 {p q : Int} (ha : okR p q) : VF Try.prog 26 [.agg [boolB (zN (p)), u32S (zL (p)), boolB (zN (q)), u32S (zL (q))]] (.tup [.lit (.string (txQ p q)), numB .i64 0]) := by
  obtain ⟨q0, g0, hp, hq⟩ := ha
  refine VF_of P_mixed Try.func26 rfl rfl (by kernel_rfl) <| Sq <| Rg <| Vs (Bx 0 rfl) <| Vs (As rfl) <| Vs (As rfl) <| Nx <| Sq <| Rg <| Vs (LdS TA27 TS27 rfl) <| Vs (Cf rfl rfl (g21q ⟨q0, g0, hp, hq⟩) rfl) <| Vs (As rfl) <| Nx <| Sq <| Sq <| Rg <| Vs (Mv rfl) <| Vs (Un rfl) <| Nx <| Cz rfl <| Ks <| Tg <| Sq <| Rg <| Vs (Fa TF27_0 rfl) <| Vs (LdS TA24 TS24 rfl) <| Vs (Cf rfl rfl (d23 (x := p) inT) rfl) <| Vs (Mv rfl) <| Vs (Xt rfl) <| Vs (Xt rfl) <| Vs (As rfl) <| Vs (As rfl) <| Nx <| Sq <| Sq <| Rg <| Vs (Mv rfl) <| Vs (Bi (c := .bool false) rfl) <| Vs (Mv rfl) <| Vs (Fa TF27_1 rfl) <| Vs (LdS TA24 TS24 rfl) <| Vs (Cf rfl rfl (g61 (z := q) inT) rfl) <| Vs (Pk rfl) <| Nx <| Cd rfl (fun hc1 => ?_) (fun hc1 => ?_)
  · replace hc1 := of_decide_eq_true hc1
    exact Sq <| Rg <| Vs (Mv rfl) <| Vs (Mv rfl) <| Vs (As rfl) <| Vs (As rfl) <| Nx <| Re <| Tr <| Fi (l := [.lit (.string (txB (p))), numB .i64 (0)]) (Rc (resVar_tmp rfl rfl) (Rc (resVar_tmp rfl rfl) Rn)) (txQ_one hc1)
  · replace hc1 := of_decide_eq_false hc1
    exact Ks <| Tg <| Sq <| Rg <| Vs (Fa TF27_1 rfl) <| Vs (LdS TA24 TS24 rfl) <| Vs (Cf rfl rfl (d23 (x := q) inT) rfl) <| Vs (Mv rfl) <| Vs (Xt rfl) <| Vs (Xt rfl) <| Vs (As rfl) <| Vs (As rfl) <| Nx <| Sq <| Sq <| Rg <| Vs (Mv rfl) <| Vs (Bi (c := .bool false) rfl) <| Nx <| Cz rfl <| Ks <| Tg <| Sq <| Rg <| Vs (Mv rfl) <| Vs (Bo (c := .string (txB (p) ++ (⟨#[47]⟩ : ByteArray))) rfl (bop_str_add (tx_add1 hp))) <| Vs (Mv rfl) <| Vs (Bo (c := .string (txB (p) ++ (⟨#[47]⟩ : ByteArray) ++ txB (q))) rfl (bop_str_add (tx_add2 hp hq))) <| Vs (As rfl) <| Vs (As rfl) <| Nx <| Re <| Fi (l := [.lit (.string (txB (p) ++ (⟨#[47]⟩ : ByteArray) ++ txB (q))), numB .i64 (0)]) (Rc (resVar_tmp rfl rfl) (Rc (resVar_tmp rfl rfl) Rn)) (txQ_two hc1)
theorem g74 (s : ByteArray) (hs : s.size ≤ 9223372036854775807) : VF Try.prog 74 [.lit (.string (s))] (numB .i64 (slA s)) := by
  refine VF_of P_mixed Try.func74 rfl rfl (by kernel_rfl) <| Sq <| Rg <| Vs (As rfl) <| Nx <| Sq <| Sq <| Rg <| Vs (As rfl) <| Nx <| Bk <| VCode.loop (α := (Nat)) (fun i => (0, sl [(0, .b (.lit (.string (s)))), (3, vI .i64 ((i : Int)))], en [])) (fun i => i ≤ s.size ∧ SlI s i) (fun i => s.size - i) (0) ⟨by omega, SlI.start⟩ Wk ?_
  intro i hok
  change VCode _ _ _ 0 (sl _) (en _) _
  refine Sq <| Sq <| Rg <| Vs (Mv rfl) <| Vs (Mv rfl) <| Vs (Lt TU9 rfl) <| Vs (Bi rfl) <| Nx <| Cd rfl (fun hc1 => ?_) (fun hc1 => ?_)
  · replace hc1 := of_decide_eq_true hc1
    refine Ks <| Tg <| Sq <| Bk <| Sq <| Rg <| Vs (Mv rfl) <| Vs (Mv rfl) <| Vs (TiN (q := i) TU9 rfl) <| Vs (Bi rfl) <| Nx <| Cd rfl (fun hc2 => ?_) (fun hc2 => ?_)
    · replace hc2 := eq_of_beq hc2
      exact Sq <| Rg <| Vs (Mv rfl) <| Vs (As rfl) <| Nx <| Re <| Iq <| Tr <| Or <| Iq <| Tr <| Fi (l := [numB .i64 ((i : Int))]) (Rc (resVar_tmp rfl rfl) Rn) (hok.2.found (by omega) hc2)
    · replace hc2 := ne_of_beq_false hc2
      exact Ks <| Ig <| Tg <| Rg <| Vs (Mv rfl) <| Vs (Bo rfl adI) <| Vs (As rfl) <| VList.nil <| Go (i + 1) ⟨by omega, hok.2.next hc2⟩ Wk
  · replace hc1 := of_decide_eq_false hc1
    exact Ke <| Te <| Oe <| Ih <| Tg <| Sq <| Rg <| Vs (Mv rfl) <| Vs (Lt TU9 rfl) <| Vs (As rfl) <| Nx <| Re <| Fi (l := [numB .i64 (((s).size : Int))]) (Rc (resVar_tmp rfl rfl) Rn) (hok.2.done (by omega))
theorem c75 {s : ByteArray} (hs : s.size ≤ 9223372036854775807) : VF Try.prog 75 [.lit (.string s)] (.tup [iB (pW s), numB .i64 (pX s)]) := d25 hs
theorem c75a {s : ByteArray} (hs : s.size ≤ 9223372036854775807) : VF Try.prog 75 [.lit (.string (s.extract 0 (slA s).toNat))] (.tup [iB (pW (cuA s)), numB .i64 (pX (cuA s))]) := by
  rw [slA_a]; exact c75 (by have := (cu_size s).1; omega)
theorem c75b {s : ByteArray} (hs : s.size ≤ 9223372036854775807) (h : ¬ slA s = s.size) : VF Try.prog 75 [.lit (.string (s.extract (slA s + 1).toNat s.size))] (.tup [iB (pW (cuB s)), numB .i64 (pX (cuB s))]) := by
  rw [(slA_b h).1]; exact c75 (by have := (cu_size s).2; omega)
theorem g28 (s : ByteArray) (hs : s.size ≤ 9223372036854775807) : VF Try.prog 28 [.lit (.string (s))] (psR s) := by
  obtain ⟨y0, y1⟩ := slA_rng s
  have hz := cu_size s
  have w1 := pW_in (cuA s)
  have w2 := pW_in (cuB s)
  refine VF_of P_mixed Try.func28 rfl rfl (by kernel_rfl) <| Sq <| Rg <| Vs (Al 0 TZ27 rfl) <| Vs (As rfl) <| Nx <| Sq <| Rg <| Vs (Mv rfl) <| Vs (Cf rfl rfl (g74 _ hs) rfl) <| Vs (As rfl) <| Nx <| Sq <| Rg <| Vs (Mv rfl) <| Vs (Mv rfl) <| Vs (Tt TU9 rfl) <| Vs (C0 rfl rfl (c75a hs)) <| Vs (Mv rfl) <| Vs (Xt rfl) <| Vs (Xt rfl) <| Vs (Al 12 TZ24 rfl) <| Vs (StS TS24 rfl) <| Vs (As rfl) <| Nx <| Sq <| Sq <| Rg <| Vs (Mv rfl) <| Vs (Bi rfl) <| Nx <| Cd rfl (fun hc1 => ?_) (fun hc1 => ?_)
  · replace hc1 := bne_iff_ne.1 hc1
    exact Sq <| Rg <| Vs (Bd TQ27 rfl) <| Vs (Mv rfl) <| Vs (StS TS27 rfl) <| Vs (As rfl) <| Nx <| Re <| Tr <| Fi (l := [.agg [boolB (false), u32S ([]), boolB (false), u32S ([])], numB .i64 (pX (cuA s))]) (Rc (resVar_cell rfl rfl TA27 TS27 (Nat.le_of_ble_eq_true rfl) rfl) (Rc (resVar_tmp rfl rfl) Rn)) (ps_bad (ps1 hc1) hc1)
  · replace hc1 := bne_eq_false_iff_eq.1 hc1
    refine Ks <| Tg <| Sq <| Rg <| Vs (C0 rfl rfl (d37 (n := 1) (by first | omega | assumption | (simp; done) | (simp; omega)) (by first | omega | assumption | (simp; done) | (simp; omega)))) <| Vs (Al 18 TZ24 rfl) <| Vs (StS TS24 rfl) <| Nx <| Sq <| Sq <| Rg <| Vs (Mv rfl) <| Vs (Mv rfl) <| Vs (Lt TU9 rfl) <| Vs (Bi rfl) <| Nx <| Cd rfl (fun hc2 => ?_) (fun hc2 => ?_)
    · replace hc2 := eq_of_beq hc2
      have hf := slA_e hc2
      exact Sq <| Rg <| Vs (LdS TA24 TS24 rfl) <| Vs (LdS TA24 TS24 rfl) <| Vs (Bd TQ27 rfl) <| Vs (StS TS27 rfl) <| Vs (As rfl) <| Nx <| Re <| Tr <| Fi (l := [.agg [boolB (zN (pW (cuA s))), u32S (zL (pW (cuA s))), boolB (zN (1)), u32S (zL (1))], numB .i64 (0)]) (Rc (resVar_cell rfl rfl TA27 TS27 (Nat.le_of_ble_eq_true rfl) rfl) (Rc (resVar_tmp rfl rfl) Rn)) (ps2 hc1 hf)
    · replace hc2 := ne_of_beq_false hc2
      have hf := (slA_b hc2).2
      refine Ks <| Tg <| Sq <| Rg <| Vs (Mv rfl) <| Vs (Mv rfl) <| Vs (Bo rfl adI) <| Vs (Tf TU9 rfl) <| Vs (C0 rfl rfl (c75b hs hc2)) <| Vs (Mv rfl) <| Vs (Xt rfl) <| Vs (Xt rfl) <| Vs (Al 32 TZ24 rfl) <| Vs (StS TS24 rfl) <| Vs (As rfl) <| Nx <| Sq <| Sq <| Rg <| Vs (Mv rfl) <| Vs (Bi rfl) <| Nx <| Cd rfl (fun hc3 => ?_) (fun hc3 => ?_)
      · replace hc3 := bne_iff_ne.1 hc3
        exact Sq <| Rg <| Vs (Bd TQ27 rfl) <| Vs (Mv rfl) <| Vs (StS TS27 rfl) <| Vs (As rfl) <| Nx <| Re <| Tr <| Fi (l := [.agg [boolB (false), u32S ([]), boolB (false), u32S ([])], numB .i64 (pX (cuB s))]) (Rc (resVar_cell rfl rfl TA27 TS27 (Nat.le_of_ble_eq_true rfl) rfl) (Rc (resVar_tmp rfl rfl) Rn)) (ps_bad (ps3 hc1 hf hc3) hc3)
      · replace hc3 := bne_eq_false_iff_eq.1 hc3
        refine Ks <| Tg <| Sq <| Rg <| Vs (LdS TA24 TS24 rfl) <| Vs (LdS TA24 TS24 rfl) <| Vs (Bd TQ27 rfl) <| Vs (Al 40 TZ27 rfl) <| Vs (StS TS27 rfl) <| Nx <| Sq <| Sq <| Rg <| Vs (LdS TA27 TS27 rfl) <| Vs (Cf rfl rfl (g21v (x := pW (cuA s)) (y := pW (cuB s)) inT inT) rfl) <| Vs (Un rfl) <| Vs (Mv rfl) <| Sp 50 rfl (fun hc4 => ?_) (fun hc4 => ?_)
        · replace hc4 := (bnot_t hc4)
          exact Sk rfl <| Sk rfl <| Vs (Pk rfl) <| Nx <| Cy rfl <| Sq <| Rg <| Vs (Bd TQ27 rfl) <| Vs (StS TS27 rfl) <| Vs (As rfl) <| Nx <| Re <| Tr <| Fi (l := [.agg [boolB (false), u32S ([]), boolB (false), u32S ([])], numB .i64 (3)]) (Rc (resVar_cell rfl rfl TA27 TS27 (Nat.le_of_ble_eq_true rfl) rfl) (Rc (resVar_tmp rfl rfl) Rn)) (ps_bad (ps4 hc1 hf hc3 (.inr hc4)) (by decide))
        · replace hc4 := (bnot_f hc4)
          refine Vs (LdS TA24 TS24 rfl) <| Vs (Cf rfl rfl (g61 (z := pW (cuB s)) inT) rfl) <| Vs (Pk rfl) <| Nx <| Cd rfl (fun hc5 => ?_) (fun hc5 => ?_)
          · replace hc5 := of_decide_eq_true hc5
            exact Sq <| Rg <| Vs (Bd TQ27 rfl) <| Vs (StS TS27 rfl) <| Vs (As rfl) <| Nx <| Re <| Tr <| Fi (l := [.agg [boolB (false), u32S ([]), boolB (false), u32S ([])], numB .i64 (3)]) (Rc (resVar_cell rfl rfl TA27 TS27 (Nat.le_of_ble_eq_true rfl) rfl) (Rc (resVar_tmp rfl rfl) Rn)) (ps_bad (ps4 hc1 hf hc3 (.inl hc5)) (by decide))
          · replace hc5 := of_decide_eq_false hc5
            exact Ks <| Tg <| Sq <| Rg <| Vs (LdS TA27 TS27 rfl) <| Vs (StS TS27 rfl) <| Vs (As rfl) <| Nx <| Re <| Fi (l := [.agg [boolB (zN (pW (cuA s))), u32S (zL (pW (cuA s))), boolB (zN (pW (cuB s))), u32S (zL (pW (cuB s)))], numB .i64 (0)]) (Rc (resVar_cell rfl rfl TA27 TS27 (Nat.le_of_ble_eq_true rfl) rfl) (Rc (resVar_tmp rfl rfl) Rn)) (ps5 hc1 hf hc3 hc5 hc4)
end Go.VL

/- Walks over the Go functions, printed by a program of this session over the kit's print, and by hand. -/
set_option linter.unusedVariables false
set_option linter.unusedSimpArgs false
set_option maxRecDepth 100000
namespace Go.VL
open Go.Proofs
theorem g5w {n : Bool} {A : List Int} {m : Bool} {D : List Int} {s t : ByteArray} {e p q g : Int} (i1 : inB p = true) (i2 : inB q = true) (h25 : VF Try.prog 25 [ratB n A m D] (.tup [.lit (.string t), numB .i64 e])) (h26 : VF Try.prog 26 [ratB n A m D] (.tup [.lit (.string t), numB .i64 e])) (h27 : VF Try.prog 27 [.lit (.string s)] (rR p q g)) (h28 : VF Try.prog 28 [.lit (.string s)] (rR p q g)) : VF Try.prog 5 [.agg [boolB (n), u32S (A), boolB (m), u32S (D)], .lit (.string (s))] (boolB true) := by
  refine VF_of P_mixed Try.func5 rfl rfl (by kernel_rfl) <| Sq <| Rg <| Vs (Bx 0 rfl) <| Vs (As rfl) <| Nx <| Sq <| Rg <| Vs (Cf rfl rfl (g15) rfl) <| Vs (As rfl) <| Nx <| Sq <| Sq <| Rg <| Vs (Mv rfl) <| Vs (Lt TU9 rfl) <| Vs (Bi rfl) <| Nx <| Cd rfl (fun hc1 => ?_) (fun hc1 => ?_)
  · replace hc1 := of_decide_eq_true hc1
    exact Sq <| Rg <| Vs (Mv rfl) <| Vs (As rfl) <| Nx <| Re <| Tr <| Fi (l := [boolB (true)]) (Rc (resVar_tmp rfl rfl) Rn) rfl
  · replace hc1 := of_decide_eq_false hc1
    exact Ks <| Tg <| Sq <| Rg <| Vs (LdS TA27 TS27 rfl) <| Vs (C0 rfl rfl (h25)) <| Vs (Mv rfl) <| Vs (Xt rfl) <| Vs (Xt rfl) <| Vs (As rfl) <| Vs (As rfl) <| Nx <| Sq <| Rg <| Vs (LdS TA27 TS27 rfl) <| Vs (C0 rfl rfl (h26)) <| Vs (Mv rfl) <| Vs (Xt rfl) <| Vs (Xt rfl) <| Vs (As rfl) <| Vs (As rfl) <| Nx <| Sq <| Rg <| Vs (Mv rfl) <| Vs (C0 rfl rfl (h27)) <| Vs (Mv rfl) <| Vs (Xt rfl) <| Vs (Xt rfl) <| Vs (Al 26 TZ27 rfl) <| Vs (StS TS27 rfl) <| Vs (As rfl) <| Nx <| Sq <| Rg <| Vs (Mv rfl) <| Vs (C0 rfl rfl (h28)) <| Vs (Mv rfl) <| Vs (Xt rfl) <| Vs (Xt rfl) <| Vs (Al 34 TZ27 rfl) <| Vs (StS TS27 rfl) <| Vs (As rfl) <| Nx <| Sq <| Rg <| Vs (Mv rfl) <| Vs (Mv rfl) <| Vs (Mv rfl) <| Vs (Mv rfl) <| Vs (Bo (c := .bool true) rfl (bop_str_refl _)) <| Vs (Pk rfl) <| Vs (Mv rfl) <| Vs (Mv rfl) <| Vs (Mv rfl) <| Vs (Kb (show (e == e) = true from (decide_eq_true rfl)) (Bi rfl)) <| Vs (Pk rfl) <| Vs (Mv rfl) <| Vs (LdS TA27 TS27 rfl) <| Vs (LdS TA27 TS27 rfl) <| Vs (Cf rfl rfl (g22t (p := p) (q := q) inT inT) rfl) <| Vs (Pk rfl) <| Vs (Mv rfl) <| Vs (Mv rfl) <| Vs (Mv rfl) <| Vs (Kb (show (g == g) = true from (decide_eq_true rfl)) (Bi rfl)) <| Vs (Pk rfl) <| Vs (As rfl) <| Nx <| Re <| Fi (l := [boolB (true)]) (Rc (resVar_tmp rfl rfl) Rn) rfl
theorem g5 (n : Bool) (A : List Int) (m : Bool) (D : List Int) (hA : A.length ≤ 9223372036854775807) (hD : D.length ≤ 9223372036854775807) (oA : ok32 A) (oD : ok32 D) (s : ByteArray) (hs : s.size ≤ 9223372036854775807) : VF Try.prog 5 [ratB n A m D, .lit (.string s)] (boolB true) := by
  have hp := ps_in s
  cases h : vR n A m D with
  | false => exact g5w hp.1 hp.2 (g25i n A m D hA hD oA oD h) (g26i n A m D hA hD oA oD h) (g27 s hs) (g28 s hs)
  | true =>
    obtain ⟨p, q, e1, e2, e3, e4, ok⟩ := as_q oA oD h
    rw [e1, e2, e3, e4]
    exact g5w hp.1 hp.2 (g25 ok) (g26 ok) (g27 s hs) (g28 s hs)
end Go.VL

set_option linter.unusedVariables false
set_option linter.unusedSimpArgs false
set_option maxRecDepth 100000
namespace Go.Proofs.Ytnabpemjcidhdaa
open Go.ChangeShapes Go.WideShapes Go.ChangeAt Go.RowKit Go.VL

theorem rationalMatchesText_lifted (os : Os) (started : os.Started) (H : Type) (enc : TypeId × Value → H) :
    ReturnsInHanded {} Try.checked os 5 .any (Rows.rationalMatchesTextSpec.pre6 enc Try.prog Try.f5 Rows.rationalMatchesTextRow.domain false) (Rows.rationalMatchesTextSpec.post enc Try.prog Try.f5 false true false false) := by
  refine returnsInHanded_of_change (C := Try.checked) Try_own started (by kernel_rfl) Try.func5
    (ChangeSpec.witness6 (enc := enc) (C := Try.checked) false ⟨#[], #[.agg #[.bool false, .slice none 0 0, .bool false, .slice none 0 0], .string ⟨#[]⟩], []⟩ 8 (by kernel_rfl) (by kernel_rfl) (by kernel_rfl) (by kernel_rfl)) ?_
  intro W base args ds gs before hval0 hW hcnd _
  have hval : ∀ (j : Nat) t v, Try.f5.params[j]? = some t → args[j]? = some v → Value.okWide Try.prog W .any base t v := hval0
  have hW' := hW
  obtain ⟨p, q, hA0, hV, rfl, hfz, hnd⟩ := hW
  have hA : DataW.TrodAll enc Try.prog W 0 (fun _ => true) true Try.f5.params.toList args.toList ds p := hA0
  have hA1 := hA
  rw [Try.params5] at hA hval
  obtain ⟨v0, v1, d0, d1, p0, p1, rfl, rfl, rfl, h0, h1⟩ := trodAll_two hA
  obtain ⟨rfl, rfl⟩ := trodVars_none hV
  obtain ⟨n0, A0, m0, D0, r0, ⟨o0, s0⟩, l0, k0⟩ := open_rat (hval 0 27 v0 rfl rfl) h0
  obtain ⟨s1, r1, l1⟩ := open_str (hval 1 9 v1 rfl rfl) h1
  simp only [List.append_nil] at hW'
  have hlt : ∀ x ∈ p0 ++ p1, x.block < W.heap.size := fun x hx => hW'.lt x hx
  have hread : ∀ t ∈ Try.f5.params.toList, Try.prog.readableRec t = true ∧ t < Try.prog.types.size := by rw [Try.params5]; exact types_cons T27 (types_cons T9 (types_nil))
  refine ((g5 n0 A0 m0 D0 l0 k0 o0 s0 s1 l1).runs (xs := [v0, v1]) rfl (reps_cons r0 (reps_cons r1 reps_nil))).mono fun e W' ⟨he, hb⟩ => ?_
  subst he
  exact ⟨_, rfl, post_of_below (pa := _) (pv := []) hW' (fun _ _ _ => trodAll_mk1 shut_true) (fun sp hsp => args_stay Try_laidOut hb hread hA1 hlt hsp) (fun _ _ => rfl) (by simp) hb (ok_one (by kernel_rfl) rfl ok_true)⟩

theorem rationalMatchesText_facts : joinedFacts Try.pinned.checked.prog 5 Try.f5 Rows.rationalMatchesTextSpec Rows.rationalMatchesTextRow = true := by
  unfold joinedFacts
  rw [head_may, head_lifts, head_make]
  kernel_rfl

theorem rationalMatchesText_holds : Rows.RationalMatchesTextSaid :=
  OpenClaim.holds_of_wide 5 Try.f5 rfl rfl rfl rfl rfl rfl rfl ⟨rfl, rfl, rfl, rfl, rfl⟩ rfl rfl rfl rfl rfl (by kernel_rfl) Try.func5 rationalMatchesText_facts
    (of_decide_eq_true (by kernel_rfl)) (by unfold Func.isWrapper; rw [if_neg (of_decide_eq_false (by kernel_rfl))]; exact ⟨rfl, rfl⟩)
    (fun os started H enc _ => rationalMatchesText_lifted os started H enc)

end Go.Proofs.Ytnabpemjcidhdaa
