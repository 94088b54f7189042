/- A small program logic over the translated Go code, plain laws, and walks over the functions: several texts in one. No condition. -/
import Derived.Laws.Strings
import Derived.ProofKit
import Derived.Test.YtlhdjfjebhffjaaK1
/- Plain laws of taking a multiple of the divisor away from the dividend, and of adding the divisor back. No program here. -/
set_option linter.unusedVariables false
set_option linter.unusedSimpArgs false
namespace Go.VL

/-- After i words: c the carry of the product, w what was borrowed. -/
structure TakeInv (U V O : List Int) (q : Int) (j i : Nat) (c w : Int) : Prop where
  le : i ≤ V.length
  len : O.length = U.length
  ok : ok32 O
  c0 : 0 ≤ c
  c1 : c < 4294967296
  w0 : 0 ≤ w
  w1 : w ≤ 1
  same : ∀ k, j + i ≤ k → O.getD k 0 = U.getD k 0
  eq : val O + 4294967296 ^ j * (q * val (V.take i)) = val U + 4294967296 ^ (j + i) * (c + w)
theorem TakeInv.start {U V : List Int} {q : Int} {j : Nat} (h : ok32 U) : TakeInv U V U q j 0 0 0 := ⟨Nat.zero_le _, rfl, h, by omega, by omega, by omega, by omega, fun _ _ => rfl, by simp [val]⟩
theorem take_prod {q v c : Int} (hq : 0 ≤ q ∧ q < 4294967296) (hv : 0 ≤ v ∧ v < 4294967296) (hc : 0 ≤ c ∧ c < 4294967296) : 0 ≤ q * v + c ∧ q * v + c < 18446744073709551616 ∧ (q * v + c) / 4294967296 < 4294967296 := by
  have := mul_small hq hv
  omega
theorem TakeInv.step {U V O : List Int} {q c w p t : Int} {j i : Nat} (hV : ok32 V) (hq : 0 ≤ q ∧ q < 4294967296) (h : TakeInv U V O q j i c w) (hi : i < V.length) (hj : j + V.length < U.length) (hp : p = q * V.getD i 0 + c)
    (ht : t = ((O.getD (j + i) 0 - p % 4294967296) % 18446744073709551616 - w) % 18446744073709551616) : TakeInv U V (O.set (j + i) (t % 4294967296)) q j (i + 1) (p / 4294967296) (t / 9223372036854775808) := by
  have hv := ok32_getD hV i
  have ho := ok32_getD h.ok (j + i)
  have hc := take_prod hq hv ⟨h.c0, h.c1⟩
  rw [← hp] at hc
  have hw0 := h.w0
  have hw1 := h.w1
  have hlen := h.len
  have e0 : t % 4294967296 + p % 4294967296 + w = O.getD (j + i) 0 + 4294967296 * (t / 9223372036854775808) := by omega
  refine ⟨hi, by simpa using hlen, ok32_set h.ok _ (by omega), by omega, by omega, by omega, by omega, fun k hk => ?_, ?_⟩
  · rw [getD_set_ne (by omega)]; exact h.same k (by omega)
  · rw [val_set _ _ _ (by omega), val_take_step V i, ← Nat.add_assoc, Int.pow_succ]
    have e := h.eq
    rw [Int.pow_add] at e ⊢
    generalize (4294967296 : Int) ^ j = a at e ⊢
    generalize (4294967296 : Int) ^ i = b at e ⊢
    have e1 : a * (q * (val (V.take i) + b * V.getD i 0)) = a * (q * val (V.take i)) + a * b * (q * V.getD i 0) := by
      rw [Int.mul_add, Int.mul_add]; congr 1
      rw [Int.mul_assoc, Int.mul_left_comm q]
    have e2 : a * b * (t % 4294967296 - O.getD (j + i) 0) + a * b * (q * V.getD i 0) + a * b * (c + w) = a * b * 4294967296 * (p / 4294967296 + t / 9223372036854775808) := by
      rw [Int.mul_assoc (a * b) 4294967296, ← Int.mul_add, ← Int.mul_add]
      congr 1; omega
    rw [e1]
    omega
/-- The top word: nothing was borrowed. -/
theorem TakeInv.good {U V O : List Int} {q c w t : Int} {j i : Nat} (h : TakeInv U V O q j i c w) (hi : i = V.length) (hj : j + V.length < U.length)
    (ht : t = ((O.getD (j + i) 0 - c) % 18446744073709551616 - w) % 18446744073709551616) (hb : t / 9223372036854775808 = 0) : val (O.set (j + i) (t % 4294967296)) + 4294967296 ^ j * (q * val V) = val U ∧ ok32 (O.set (j + i) (t % 4294967296)) := by
  have ho := ok32_getD h.ok (j + i)
  have hc0 := h.c0
  have hc1 := h.c1
  have hw0 := h.w0
  have hw1 := h.w1
  have hlen := h.len
  refine ⟨?_, ok32_set h.ok _ (by omega)⟩
  have e := h.eq
  rw [hi, List.take_of_length_le (Nat.le_refl _)] at e
  rw [val_set _ _ _ (by omega), hi]
  rw [hi] at ht ho
  have e1 : t % 4294967296 - O.getD (j + V.length) 0 = -(c + w) := by omega
  rw [e1, Int.mul_neg]
  omega
/-- The top word: something was borrowed. -/
theorem TakeInv.bad {U V O : List Int} {q c w t : Int} {j i : Nat} (h : TakeInv U V O q j i c w) (hi : i = V.length) (hj : j + V.length < U.length)
    (ht : t = ((O.getD (j + i) 0 - c) % 18446744073709551616 - w) % 18446744073709551616) (hb : t / 9223372036854775808 ≠ 0) :
    val (O.set (j + i) (t % 4294967296)) + 4294967296 ^ j * (q * val V) = val U + 4294967296 ^ (j + V.length) * 4294967296 ∧ ok32 (O.set (j + i) (t % 4294967296)) := by
  have ho := ok32_getD h.ok (j + i)
  have hc0 := h.c0
  have hc1 := h.c1
  have hw0 := h.w0
  have hw1 := h.w1
  have hlen := h.len
  refine ⟨?_, ok32_set h.ok _ (by omega)⟩
  have e := h.eq
  rw [hi, List.take_of_length_le (Nat.le_refl _)] at e
  rw [val_set _ _ _ (by omega), hi]
  rw [hi] at ht ho
  have e1 : t % 4294967296 - O.getD (j + V.length) 0 = 4294967296 - (c + w) := by omega
  rw [e1, Int.mul_sub]
  omega

/-- Adding back: after i words, c carried. -/
structure BackInv (U V O : List Int) (j i : Nat) (c : Int) : Prop where
  le : i ≤ V.length
  len : O.length = U.length
  ok : ok32 O
  c0 : 0 ≤ c
  c1 : c ≤ 1
  same : ∀ k, j + i ≤ k → O.getD k 0 = U.getD k 0
  eq : val O + 4294967296 ^ (j + i) * c = val U + 4294967296 ^ j * val (V.take i)
theorem BackInv.start {U V : List Int} {j : Nat} (h : ok32 U) : BackInv U V U j 0 0 := ⟨Nat.zero_le _, rfl, h, by omega, by omega, fun _ _ => rfl, by simp [val]⟩
theorem BackInv.step {U V O : List Int} {c t : Int} {j i : Nat} (hV : ok32 V) (h : BackInv U V O j i c) (hi : i < V.length) (hj : j + V.length < U.length) (ht : t = O.getD (j + i) 0 + V.getD i 0 + c) :
    BackInv U V (O.set (j + i) (t % 4294967296)) j (i + 1) (t / 4294967296) := by
  have hv := ok32_getD hV i
  have ho := ok32_getD h.ok (j + i)
  have hc0 := h.c0
  have hc1 := h.c1
  have hlen := h.len
  refine ⟨hi, by simpa using hlen, ok32_set h.ok _ (by omega), by omega, by omega, fun k hk => (by rw [getD_set_ne (by omega)]; exact h.same k (by omega)), ?_⟩
  rw [val_set _ _ _ (by omega), val_take_step V i, ← Nat.add_assoc, Int.pow_succ]
  have e := h.eq
  rw [Int.pow_add] at e ⊢
  generalize (4294967296 : Int) ^ j = a at e ⊢
  generalize (4294967296 : Int) ^ i = b at e ⊢
  have e1 : a * b * (t % 4294967296 - O.getD (j + i) 0) + a * b * 4294967296 * (t / 4294967296) = a * b * V.getD i 0 + a * b * c := by
    rw [Int.mul_assoc (a * b) 4294967296, ← Int.mul_add, ← Int.mul_add]
    congr 1; omega
  rw [Int.mul_add, ← Int.mul_assoc a b]
  omega
/-- The top word: it runs over when what is left would be too great. -/
theorem BackInv.fin {U V O : List Int} {c : Int} {j i : Nat} (h : BackInv U V O j i c) (hi : i = V.length) (hj : j + V.length < U.length) (hover : 4294967296 ≤ O.getD (j + i) 0 + c) :
    val (O.set (j + i) ((O.getD (j + i) 0 + c) % 4294967296)) + 4294967296 ^ (j + V.length) * 4294967296 = val U + 4294967296 ^ j * val V ∧ ok32 (O.set (j + i) ((O.getD (j + i) 0 + c) % 4294967296)) := by
  have ho := ok32_getD h.ok (j + i)
  have hc0 := h.c0
  have hc1 := h.c1
  have hlen := h.len
  refine ⟨?_, ok32_set h.ok _ (by omega)⟩
  have e := h.eq
  rw [hi, List.take_of_length_le (Nat.le_refl _)] at e
  rw [val_set _ _ _ (by omega), hi]
  rw [hi] at hover ho
  have e1 : (O.getD (j + V.length) 0 + c) % 4294967296 - O.getD (j + V.length) 0 = c - 4294967296 := by omega
  rw [e1, Int.mul_sub]
  omega

/-- A number in so many words. -/
def pad (n : Nat) (v : Int) : List Int := dg v ++ List.replicate (n - (dg v).length) 0
theorem ok32_take_val {L : List Int} (h : ok32 L) : ∃ k, k ≤ L.length ∧ dg (val L) = L.take k ∧ ∀ i, k ≤ i → i < L.length → L.getD i 0 = 0 := by
  have key : ∀ m, m ≤ L.length → (∀ i, m ≤ i → i < L.length → L.getD i 0 = 0) → ∃ k, k ≤ L.length ∧ dg (val L) = L.take k ∧ ∀ i, k ≤ i → i < L.length → L.getD i 0 = 0 := by
    intro m
    induction m with
    | zero => intro hm hz; exact ⟨0, by omega, dg_take h (by omega) hz (.inl rfl), hz⟩
    | succ m ih =>
      intro hm hz
      by_cases h0 : L.getD m 0 = 0
      · exact ih (by omega) (fun i h1 h2 => by
          by_cases hi : i = m
          · rw [hi]; exact h0
          · exact hz i (by omega) h2)
      · exact ⟨m + 1, hm, dg_take h hm hz (.inr (by simpa using h0)), hz⟩
  exact key L.length (Nat.le_refl _) (fun i h1 h2 => by omega)
theorem pad_val {L : List Int} (h : ok32 L) : pad L.length (val L) = L := by
  obtain ⟨k, h1, h2, h3⟩ := ok32_take_val h
  unfold pad
  rw [h2, List.length_take, Nat.min_eq_left h1]
  apply List.ext_getElem?
  intro i
  by_cases hi : i < k
  · rw [List.getElem?_append_left (by simp; omega), List.getElem?_take_of_lt hi]
  · rw [List.getElem?_append_right (by simp; omega), List.length_take, Nat.min_eq_left h1, List.getElem?_replicate]
    by_cases hl : i < L.length
    · rw [if_pos (by omega), getD_get hl, h3 i (by omega) hl]
    · rw [if_neg (by omega), List.getElem?_eq_none (by omega)]
theorem pad_len {n : Nat} {v : Int} (h0 : 0 ≤ v) (h : v < 4294967296 ^ n) : (pad n v).length = n ∧ ok32 (pad n v) ∧ val (pad n v) = v := by
  have h1 := (len_dg h0 n).2 h
  refine ⟨by simp [pad]; omega, ok32_append.2 ⟨ok32_dg v, ok32_replicate _⟩, ?_⟩
  rw [pad, val_append, val_dg h0, val_replicate]; simp

theorem val_zeros : ∀ {L : List Int}, (∀ k, k < L.length → L.getD k 0 = 0) → val L = 0
  | [], _ => rfl
  | x :: r, h => by
    have h0 := h 0 (by simp)
    have ih := val_zeros (L := r) (fun k hk => by have := h (k + 1) (by simpa using hk); simpa using this)
    simp at h0
    simp [val, h0, ih]
theorem val_window {L : List Int} {m : Nat} (hL : ok32 L) (hm : m < L.length) (hz : ∀ k, m < k → L.getD k 0 = 0) : val L < 4294967296 ^ m * (L.getD m 0 + 1) := by
  have h1 := val_split L m (by omega)
  have h2 := val_drop_step L m hm
  have h3 : val (L.drop (m + 1)) = 0 := val_zeros (fun k hk => by
    rw [List.getD_eq_getElem?_getD, List.getElem?_drop, ← List.getD_eq_getElem?_getD]
    exact hz _ (by omega))
  have h4 := val_lt (ok32_take hL m)
  rw [List.length_take, Nat.min_eq_left (by omega)] at h4
  rw [h3, Int.mul_zero, Int.add_zero] at h2
  have e : 4294967296 ^ m * (L.getD m 0 + 1) = 4294967296 ^ m * L.getD m 0 + 4294967296 ^ m := by rw [Int.mul_add, Int.mul_one]
  rw [h1, h2, e]
  omega
/-- What is taken away: d times the divisor, at word j. -/
def took (U V : List Int) (j : Nat) : Int := val U - 4294967296 ^ j * (val (U.drop j) / val V * val V)
theorem took_range {U V : List Int} {j : Nat} (oU : ok32 U) (oV : ok32 V) (hj : j ≤ U.length) (hV : 0 < val V) : 0 ≤ took U V j ∧ took U V j < 4294967296 ^ U.length := by
  have h1 := val_split U j hj
  have h2 := val_nonneg (ok32_take oU j)
  have h3 := val_nonneg (ok32_drop oU j)
  have h4 := Int.mul_ediv_add_emod (val (U.drop j)) (val V)
  have h5 := Int.emod_nonneg (val (U.drop j)) (show val V ≠ 0 by omega)
  have h6 := val_lt oU
  have hp := pow_pos j
  rw [Int.mul_comm] at h4
  have h7 : 0 ≤ val (U.drop j) / val V * val V := Int.mul_nonneg (Int.ediv_nonneg h3 (by omega)) (by omega)
  have h8 : 4294967296 ^ j * (val (U.drop j) / val V * val V) ≤ 4294967296 ^ j * val (U.drop j) := Int.mul_le_mul_of_nonneg_left (by omega) (by omega)
  have h9 : 0 ≤ 4294967296 ^ j * (val (U.drop j) / val V * val V) := Int.mul_nonneg (by omega) h7
  unfold took
  omega
theorem div_eq_of {U V q : Int} (hV : 0 < V) (h1 : q * V ≤ U) (h2 : U < (q + 1) * V) : U / V = q := by
  have h3 := Int.mul_ediv_add_emod U V
  have h4 := Int.emod_nonneg U (show V ≠ 0 by omega)
  have h5 := Int.emod_lt_of_pos U hV
  have h6 : q * V < (U / V + 1) * V := by rw [Int.add_mul, Int.one_mul, Int.mul_comm (U / V)]; omega
  have h7 : U / V * V < (q + 1) * V := by rw [Int.mul_comm (U / V)]; omega
  have h8 := Int.lt_of_mul_lt_mul_right h6 (Int.le_of_lt hV)
  have h9 := Int.lt_of_mul_lt_mul_right h7 (Int.le_of_lt hV)
  omega
theorem take_good {U V O : List Int} {q : Int} {j : Nat} (oU : ok32 U) (oV : ok32 V) (oO : ok32 O) (hlen : O.length = U.length) (hj : j ≤ U.length) (hV : 0 < val V) (hr : val (U.drop j) < (q + 1) * val V) (h : val O + 4294967296 ^ j * (q * val V) = val U) :
    val (U.drop j) / val V = q ∧ O = pad U.length (took U V j) := by
  have h1 := val_split U j hj
  have h2 := val_lt (ok32_take oU j)
  have h3 := val_nonneg oO
  rw [List.length_take, Nat.min_eq_left hj] at h2
  have hp := pow_pos j
  have hle : q * val V ≤ val (U.drop j) := by
    apply Classical.byContradiction
    intro hc
    have : 4294967296 ^ j * (val (U.drop j) + 1) ≤ 4294967296 ^ j * (q * val V) := Int.mul_le_mul_of_nonneg_left (by omega) (by omega)
    rw [Int.mul_add] at this
    omega
  have hd := div_eq_of hV hle hr
  refine ⟨hd, ?_⟩
  rw [took, hd, show val U - 4294967296 ^ j * (q * val V) = val O by omega, ← hlen, pad_val oO]
theorem take_over {U V W O : List Int} {q c : Int} {j : Nat} (oU : ok32 U) (oV : ok32 V) (hj : j + V.length < U.length) (hl : (q - 1) * val V ≤ val (U.drop j)) (hz : ∀ k, j + V.length < k → U.getD k 0 = 0) (hlen : W.length = U.length)
    (hW : val W + 4294967296 ^ j * (q * val V) = val U + 4294967296 ^ (j + V.length) * 4294967296) (hWz : ∀ k, j + V.length < k → W.getD k 0 = 0) (hB : BackInv W V O j V.length c) : 4294967296 ≤ O.getD (j + V.length) 0 + c := by
  have e := hB.eq
  rw [List.take_of_length_le (Nat.le_refl _)] at e
  have h1 := val_split U j (by omega)
  have h2 := val_nonneg (ok32_take oU j)
  have hp := pow_pos j
  have hpn := pow_pos (j + V.length)
  have h3 : 4294967296 ^ j * ((q - 1) * val V) ≤ 4294967296 ^ j * val (U.drop j) := Int.mul_le_mul_of_nonneg_left hl (by omega)
  rw [Int.sub_mul, Int.one_mul, Int.mul_sub] at h3
  have hw := val_window (m := j + V.length) hB.ok (by rw [hB.len, hlen]; exact hj) (fun k hk => by rw [hB.same k (by omega)]; exact hWz k hk)
  have h4 : 4294967296 ^ (j + V.length) * 4294967296 < 4294967296 ^ (j + V.length) * (O.getD (j + V.length) 0 + c + 1) := by
    rw [Int.mul_add, Int.mul_add] 
    rw [Int.mul_add] at hw
    omega
  have := Int.lt_of_mul_lt_mul_left h4 (by omega)
  omega
theorem take_bad {U V W O : List Int} {q : Int} {j : Nat} (oU : ok32 U) (oV : ok32 V) (oW : ok32 W) (oO : ok32 O) (hj : j + V.length < U.length) (hV : 0 < val V) (hl : (q - 1) * val V ≤ val (U.drop j)) (hlenW : W.length = U.length) (hlen : O.length = U.length)
    (hW : val W + 4294967296 ^ j * (q * val V) = val U + 4294967296 ^ (j + V.length) * 4294967296) (hWz : ∀ k, j + V.length < k → W.getD k 0 = 0) (hO : val O + 4294967296 ^ (j + V.length) * 4294967296 = val W + 4294967296 ^ j * val V) :
    val (U.drop j) / val V = q - 1 ∧ O = pad U.length (took U V j) ∧ 1 ≤ q := by
  have h1 := val_split U j (by omega)
  have h2 := val_nonneg (ok32_take oU j)
  have hp := pow_pos j
  have hw := val_window (m := j + V.length) oW (by rw [hlenW]; exact hj) hWz
  have ho := ok32_getD oW (j + V.length)
  have hpn := pow_pos (j + V.length)
  have h3 : 4294967296 ^ (j + V.length) * (W.getD (j + V.length) 0 + 1) ≤ 4294967296 ^ (j + V.length) * 4294967296 := Int.mul_le_mul_of_nonneg_left (by omega) (by omega)
  have hlt : val (U.drop j) < q * val V := by
    refine Int.lt_of_mul_lt_mul_left (a := 4294967296 ^ j) ?_ (by omega)
    omega
  have hd := div_eq_of hV hl (by rw [show q - 1 + 1 = q by omega]; exact hlt)
  refine ⟨hd, ?_, ?_⟩
  · rw [took, hd, show val U - 4294967296 ^ j * ((q - 1) * val V) = val O by rw [Int.sub_mul, Int.one_mul, Int.mul_sub]; omega, ← hlen, pad_val oO]
  · have := Int.ediv_nonneg (val_nonneg (ok32_drop oU j)) (Int.le_of_lt hV)
    omega

/-- The estimate of a digit, as the code makes it. -/
def digL : Nat → Int → Int → Int → Int → Int → Int
  | 0, _, _, _, q, _ => q
  | f + 1, v1, v2, u2, q, r => if 4294967296 ≤ q ∨ r * 4294967296 + u2 < q * v2 then (if 4294967296 ≤ r + v1 then q - 1 else digL f v1 v2 u2 (q - 1) (r + v1)) else q
def digF (v1 v2 u2 top : Int) : Int := digL ((top / v1).toNat + 1) v1 v2 u2 (top / v1) (top % v1)
theorem digL_go {f : Nat} {v1 v2 u2 q r : Int} (hf : 0 < f) (ht : 4294967296 ≤ q ∨ r * 4294967296 + u2 < q * v2) (hr : r + v1 < 4294967296) : digL f v1 v2 u2 q r = digL (f - 1) v1 v2 u2 (q - 1) (r + v1) := by
  obtain ⟨g, rfl⟩ := Nat.exists_eq_succ_of_ne_zero (Nat.ne_of_gt hf)
  rw [digL, if_pos ht, if_neg (by omega)]; rfl
theorem digL_break {f : Nat} {v1 v2 u2 q r : Int} (hf : 0 < f) (ht : 4294967296 ≤ q ∨ r * 4294967296 + u2 < q * v2) (hr : 4294967296 ≤ r + v1) : digL f v1 v2 u2 q r = q - 1 := by
  obtain ⟨g, rfl⟩ := Nat.exists_eq_succ_of_ne_zero (Nat.ne_of_gt hf)
  rw [digL, if_pos ht, if_pos hr]
theorem digL_stop {f : Nat} {v1 v2 u2 q r : Int} (hf : 0 < f) (ht : ¬ (4294967296 ≤ q ∨ r * 4294967296 + u2 < q * v2)) : digL f v1 v2 u2 q r = q := by
  obtain ⟨g, rfl⟩ := Nat.exists_eq_succ_of_ne_zero (Nat.ne_of_gt hf)
  rw [digL, if_neg ht]
theorem DigInv.pos {U V v1 v2 u1 u2 top p q r : Int} (h : DigFix U V v1 v2 u1 u2 top p) (i : DigInv U V v1 v2 u2 top p q r) (ht : 4294967296 ≤ q ∨ r * 4294967296 + u2 < q * v2) : 0 < q := by
  rcases ht with ht | ht
  · omega
  · apply Classical.byContradiction
    intro hc
    have h1 := i.q0
    have h2 := i.r0
    have h3 := h.u2b
    have : q = 0 := by omega
    subst this
    simp at ht
    omega
theorem digL_spec {U V v1 v2 u1 u2 top p : Int} (h : DigFix U V v1 v2 u1 u2 top p) : ∀ (f : Nat) (q r : Int), DigInv U V v1 v2 u2 top p q r → q < f → 0 ≤ digL f v1 v2 u2 q r ∧ digL f v1 v2 u2 q r < 4294967296 ∧ (digL f v1 v2 u2 q r - 1) * V ≤ U ∧ U < (digL f v1 v2 u2 q r + 1) * V := by
  intro f
  induction f with
  | zero => intro q r i hf; have := i.q0; omega
  | succ f ih =>
    intro q r i hf
    by_cases ht : 4294967296 ≤ q ∨ r * 4294967296 + u2 < q * v2
    · have hq := i.pos h ht
      by_cases hr : r + v1 < 4294967296
      · rw [digL_go (by omega) ht hr]
        exact ih (q - 1) (r + v1) (i.step h ht hr).1 (by omega)
      · rw [digL_break (by omega) ht (by omega)]
        obtain ⟨b1, b2, b3, b4⟩ := i.broke h ht (by omega)
        exact ⟨by omega, b2, b4, by rw [show q - 1 + 1 = q by omega]; exact b3⟩
    · rw [digL_stop (by omega) ht]
      exact ⟨i.q0, by omega, i.fin h (by omega) (by omega), i.least⟩
theorem digF_spec {U V v1 v2 u1 u2 top p : Int} (h : DigFix U V v1 v2 u1 u2 top p) : 0 ≤ digF v1 v2 u2 top ∧ digF v1 v2 u2 top < 4294967296 ∧ (digF v1 v2 u2 top - 1) * V ≤ U ∧ U < (digF v1 v2 u2 top + 1) * V := by
  have i := DigInv.start h rfl rfl
  have := i.q0
  exact digL_spec h _ _ _ i (by omega)
theorem DigInv.qle {U V v1 v2 u1 u2 top p q r : Int} (h : DigFix U V v1 v2 u1 u2 top p) (i : DigInv U V v1 v2 u2 top p q r) : q ≤ 4294967297 := by
  apply Classical.byContradiction
  intro hc
  have h1 := i.split
  have h2 := i.r0
  have h3 := h.tb
  have h4 := h.v1l
  have h5 : 4294967298 * v1 ≤ q * v1 := Int.mul_le_mul_of_nonneg_right (by omega) (by omega)
  omega
end Go.VL

/- Plain laws of the long division: the whole. No program here. -/
set_option linter.unusedVariables false
set_option linter.unusedSimpArgs false
namespace Go.VL

theorem word_zero {O : List Int} {m k : Nat} (oO : ok32 O) (h : val O < 4294967296 ^ m) (hk : m ≤ k) : O.getD k 0 = 0 := by
  by_cases hl : k < O.length
  · have h1 := val_split O k (by omega)
    have h2 := val_drop_step O k hl
    have h3 := val_nonneg (ok32_take oO k)
    have h4 := val_nonneg (ok32_drop oO (k + 1))
    have h5 := ok32_getD oO k
    have h6 := pow_mono hk
    have hp := pow_pos k
    apply Classical.byContradiction
    intro hc
    have h7 : 4294967296 ^ k * 1 ≤ 4294967296 ^ k * val (O.drop k) := Int.mul_le_mul_of_nonneg_left (by omega) (by omega)
    omega
  · exact getD_out (by omega)
theorem drop_lt {O : List Int} {V : Int} {j : Nat} (oO : ok32 O) (hj : j ≤ O.length) (h : val O < 4294967296 ^ (j + 1) * V) : val (O.drop j) < 4294967296 * V := by
  have h1 := val_split O j hj
  have h3 := val_nonneg (ok32_take oO j)
  have hp := pow_pos j
  rw [Int.pow_succ, Int.mul_assoc] at h
  exact Int.lt_of_mul_lt_mul_left (a := 4294967296 ^ j) (by omega) (by omega)
/-- Two numbers from their leading words. -/
theorem lead {L : List Int} (oL : ok32 L) {m : Nat} (hm : m ≤ L.length) : val (L.drop m) * 4294967296 ^ m ≤ val L ∧ val L < (val (L.drop m) + 1) * 4294967296 ^ m := by
  have h1 := val_split L m hm
  have h2 := val_lt (ok32_take oL m)
  have h3 := val_nonneg (ok32_take oL m)
  rw [List.length_take, Nat.min_eq_left hm] at h2
  rw [Int.add_mul, Int.one_mul, Int.mul_comm (val (L.drop m))]
  omega
theorem digFix {O V : List Int} {j : Nat} (oO : ok32 O) (oV : ok32 V) (hn : 2 ≤ V.length) (hj : j + V.length < O.length) (hlt : val O < 4294967296 ^ (j + 1) * val V) (hv1 : 2147483648 ≤ V.getD (V.length - 1) 0) :
    DigFix (val (O.drop j)) (val V) (V.getD (V.length - 1) 0) (V.getD (V.length - 2) 0) (O.getD (j + V.length - 1) 0) (O.getD (j + V.length - 2) 0) (O.getD (j + V.length) 0 * 4294967296 + O.getD (j + V.length - 1) 0) (4294967296 ^ (V.length - 2)) := by
  have hp := pow_pos (V.length - 2)
  have v1 := ok32_getD oV (V.length - 1)
  have v2 := ok32_getD oV (V.length - 2)
  have u0 := ok32_getD oO (j + V.length)
  have u1 := ok32_getD oO (j + V.length - 1)
  have u2 := ok32_getD oO (j + V.length - 2)
  have hU := drop_lt oO (by omega) hlt
  have eV : val (V.drop (V.length - 2)) = V.getD (V.length - 1) 0 * 4294967296 + V.getD (V.length - 2) 0 := by
    have a1 := val_drop_step V (V.length - 2) (by omega)
    have a2 := val_drop_step V (V.length - 1) (by omega)
    rw [show V.length - 2 + 1 = V.length - 1 by omega] at a1
    rw [List.drop_eq_nil_of_le (show V.length ≤ V.length - 1 + 1 by omega)] at a2
    simp only [val] at a2
    omega
  have hVlt := val_lt oV
  have hz : val (O.drop (j + V.length + 1)) = 0 := val_zeros (fun k hk => by
    rw [List.getD_eq_getElem?_getD, List.getElem?_drop, ← List.getD_eq_getElem?_getD]
    refine word_zero (m := j + 1 + V.length) oO ?_ (by omega)
    have hpj := pow_pos (j + 1)
    have := Int.mul_lt_mul_of_pos_left hVlt hpj
    rw [Int.pow_add]
    omega)
  have eO : val ((O.drop j).drop (V.length - 2)) = (O.getD (j + V.length) 0 * 4294967296 + O.getD (j + V.length - 1) 0) * 4294967296 + O.getD (j + V.length - 2) 0 := by
    rw [List.drop_drop]
    have a1 := val_drop_step O (j + V.length - 2) (by omega)
    have a2 := val_drop_step O (j + V.length - 1) (by omega)
    have a3 := val_drop_step O (j + V.length) (by omega)
    rw [show j + V.length - 2 + 1 = j + V.length - 1 by omega] at a1
    rw [show j + V.length - 1 + 1 = j + V.length by omega] at a2
    rw [hz] at a3
    rw [show j + (V.length - 2) = j + V.length - 2 by omega]
    omega
  obtain ⟨l1, l2⟩ := lead oV (m := V.length - 2) (by omega)
  obtain ⟨l3, l4⟩ := lead (ok32_drop oO j) (m := V.length - 2) (by simp; omega)
  rw [eV] at l1 l2
  rw [eO] at l3 l4
  generalize V.getD (V.length - 1) 0 = x1 at *
  generalize V.getD (V.length - 2) 0 = x2 at *
  generalize O.getD (j + V.length - 1) 0 = y1 at *
  generalize O.getD (j + V.length - 2) 0 = y2 at *
  generalize O.getD (j + V.length) 0 = y0 at *
  generalize (4294967296 : Int) ^ (V.length - 2) = p at *
  refine ⟨hp, hv1, v1.2, v2, u2, u1, by omega, ?_, l3, l4, l1, l2, hU⟩
  have h5 : ((y0 * 4294967296 + y1) * 4294967296 + y2) * p < (4294967296 * (x1 * 4294967296 + x2 + 1)) * p := by
    rw [Int.mul_assoc 4294967296]; omega
  have h6 := Int.lt_of_mul_lt_mul_right h5 (Int.le_of_lt hp)
  omega

theorem digFix' {O V : List Int} {j a b c d e : Nat} (oO : ok32 O) (oV : ok32 V) (hn : 2 ≤ V.length) (hj : j + V.length < O.length) (hlt : val O < 4294967296 ^ (j + 1) * val V) (hv1 : 2147483648 ≤ V.getD (V.length - 1) 0)
    (ha : a = V.length - 1) (hb : b = V.length - 2) (hc : c = j + V.length) (hd : d = j + V.length - 1) (he : e = j + V.length - 2) :
    DigFix (val (O.drop j)) (val V) (V.getD a 0) (V.getD b 0) (O.getD d 0) (O.getD e 0) (O.getD c 0 * 4294967296 + O.getD d 0) (4294967296 ^ (V.length - 2)) := by
  subst ha; subst hb; subst hc; subst hd; subst he
  exact digFix oO oV hn hj hlt hv1
theorem one_word {B : List Int} (h : B.length = 1) : val B = B.getD 0 0 := by
  match B, h with
  | [x], _ => simp [val]
structure DivInv (A : Int) (V O Q : List Int) (m J : Nat) : Prop where
  le : J ≤ m
  qlen : Q.length = m
  olen : O.length = m + V.length
  ok : ok32 O
  qok : ok32 (Q.drop J)
  eq : A = val V * (4294967296 ^ J * val (Q.drop J)) + val O
  lt : val O < 4294967296 ^ J * val V
theorem DivInv.start {A : Int} {V O Q : List Int} {m : Nat} (hq : Q.length = m) (ho : O.length = m + V.length) (oO : ok32 O) (he : val O = A) (hl : A < 4294967296 ^ m * val V) : DivInv A V O Q m m := by
  have hd : Q.drop m = [] := List.drop_eq_nil_of_le (by omega)
  exact ⟨Nat.le_refl _, hq, ho, oO, by rw [hd]; exact ok32_nil, by rw [hd, he]; simp [val], by rw [he]; exact hl⟩
theorem DivInv.digit {A : Int} {V O Q : List Int} {m j : Nat} (oV : ok32 V) (hV : 0 < val V) (h : DivInv A V O Q m (j + 1)) : 0 ≤ val (O.drop j) / val V ∧ val (O.drop j) / val V < 4294967296 := by
  have h1 := drop_lt h.ok (by rw [h.olen]; have := h.le; omega) h.lt
  have h2 := val_nonneg (ok32_drop h.ok j)
  exact ⟨Int.ediv_nonneg h2 (by omega), Int.ediv_lt_of_lt_mul hV h1⟩
theorem DivInv.high {A : Int} {V O Q : List Int} {m j k : Nat} (oV : ok32 V) (h : DivInv A V O Q m (j + 1)) (hk : j + V.length < k) : O.getD k 0 = 0 := by
  refine word_zero (m := j + 1 + V.length) h.ok ?_ (by omega)
  have h1 := h.lt
  have h2 := Int.mul_lt_mul_of_pos_left (val_lt oV) (pow_pos (j + 1))
  rw [Int.pow_add]
  omega
theorem DivInv.step {A : Int} {V O Q : List Int} {m j : Nat} (oV : ok32 V) (hV : 0 < val V) (h : DivInv A V O Q m (j + 1)) : DivInv A V (pad O.length (took O V j)) (Q.set j (val (O.drop j) / val V)) m j := by
  have hle := h.le
  have holen := h.olen
  have hqlen := h.qlen
  have hj : j ≤ O.length := by omega
  obtain ⟨d0, d1⟩ := h.digit oV hV
  obtain ⟨t0, t1⟩ := took_range h.ok oV hj hV
  obtain ⟨p1, p2, p3⟩ := pad_len t0 t1
  have hds : (Q.set j (val (O.drop j) / val V)).drop j = (val (O.drop j) / val V) :: Q.drop (j + 1) := drop_set_self _ _ _ (by omega)
  refine ⟨by omega, by simpa using hqlen, by rw [p1, holen], p2, by rw [hds]; exact ok32_cons.2 ⟨⟨d0, d1⟩, h.qok⟩, ?_, ?_⟩
  · rw [hds, p3, took]
    have e := h.eq
    simp only [val]
    rw [Int.pow_succ] at e
    generalize (4294967296 : Int) ^ j = b at *
    generalize val (O.drop j) / val V = d at *
    generalize val (Q.drop (j + 1)) = x at *
    generalize val V = v at *
    have e1 : v * (b * (d + 4294967296 * x)) = b * (d * v) + v * (b * 4294967296 * x) := by
      rw [Int.mul_add, Int.mul_add, Int.mul_left_comm v b d, Int.mul_comm v d, Int.mul_assoc b 4294967296]
    omega
  · rw [p3, took]
    have h1 := val_split O j hj
    have h2 := val_lt (ok32_take h.ok j)
    rw [List.length_take, Nat.min_eq_left hj] at h2
    have h4 := Int.mul_ediv_add_emod (val (O.drop j)) (val V)
    have h5 := Int.emod_lt_of_pos (val (O.drop j)) hV
    have hp := pow_pos j
    rw [Int.mul_comm] at h4
    generalize (4294967296 : Int) ^ j = b at *
    have h6 : b * (val (O.drop j) - val (O.drop j) / val V * val V + 1) ≤ b * val V := Int.mul_le_mul_of_nonneg_left (by omega) (by omega)
    rw [Int.mul_add, Int.mul_sub] at h6
    omega
theorem DivInv.fin {A B : Int} {V O Q : List Int} {m s : Nat} (h : DivInv (A * 2 ^ s) V O Q m 0) (hB : 0 < B) (hV : val V = B * 2 ^ s) (hA : 0 ≤ A) : ok32 Q ∧ val Q = A / B ∧ val O / 2 ^ s = A % B := by
  have e := h.eq
  have ok := h.qok
  have lt := h.lt
  rw [List.drop_zero] at e ok
  simp only [Int.pow_zero, Int.one_mul] at e lt
  have h2 := two_pow_pos s
  have hq := val_nonneg ok
  have ho := val_nonneg h.ok
  rw [hV] at e lt
  have e2 : val O = (A - B * val Q) * 2 ^ s := by rw [Int.sub_mul, e, Int.mul_right_comm B]; omega
  rw [e2] at lt ho
  have l1 : A - B * val Q < B := Int.lt_of_mul_lt_mul_right lt (by omega)
  have l0 : 0 ≤ A - B * val Q := by
    apply Classical.byContradiction
    intro hc
    have : (A - B * val Q) * 2 ^ s ≤ (-1) * 2 ^ s := Int.mul_le_mul_of_nonneg_right (by omega) (by omega)
    omega
  have hd : A / B = val Q := div_eq_of hB (by rw [Int.mul_comm]; omega) (by rw [Int.add_mul, Int.one_mul, Int.mul_comm (val Q)]; omega)
  refine ⟨ok, hd.symm, ?_⟩
  rw [e2, Int.mul_ediv_cancel _ (by omega)]
  have := Int.mul_ediv_add_emod A B
  rw [hd] at this
  omega
/-- The divisor is shifted until its top digit is 1. -/
theorem shifted {B : List Int} {q s : Nat} (nB : norm B) (hq : q + 1 = B.length) (hs : s + blen (B.getD q 0).toNat = 32) : (dg (val B * 2 ^ s)).length = B.length ∧ 2147483648 ≤ (dg (val B * 2 ^ s)).getD q 0 ∧ val (dg (val B * 2 ^ s)) = val B * 2 ^ s ∧ s < 32 := by
  have hx := ok32_getD nB.1 q
  have hx0 : B.getD q 0 ≠ 0 := by
    rcases nB.2 with h5 | h5
    · omega
    · rwa [show B.length - 1 = q by omega] at h5
  have hb1 : blen (B.getD q 0).toNat ≠ 0 := by rw [blen_pos (by omega)]; omega
  have hs32 : s < 32 := by omega
  have h2 := two_pow_pos s
  have hv := val_nonneg nB.1
  have hv0 : 0 ≤ val B * 2 ^ s := Int.mul_nonneg hv (by omega)
  have hvd := val_dg hv0
  -- the top word's size
  have hlo : ¬ (B.getD q 0).toNat < 2 ^ (blen (B.getD q 0).toNat - 1) := fun hc => by
    have := (blen_lt (blen (B.getD q 0).toNat - 1) _).2 hc
    omega
  have hhi := (blen_lt (blen (B.getD q 0).toNat) _).1 (Nat.le_refl _)
  have c1 : ((2 ^ (blen (B.getD q 0).toNat - 1) : Nat) : Int) = 2 ^ (blen (B.getD q 0).toNat - 1) := Int.natCast_pow 2 _
  have c2 : ((2 ^ blen (B.getD q 0).toNat : Nat) : Int) = 2 ^ blen (B.getD q 0).toNat := Int.natCast_pow 2 _
  have t1 : 2147483648 ≤ B.getD q 0 * 2 ^ s := by
    have : (2 : Int) ^ (blen (B.getD q 0).toNat - 1) * 2 ^ s ≤ B.getD q 0 * 2 ^ s := Int.mul_le_mul_of_nonneg_right (by omega) (by omega)
    rw [← Int.pow_add, show blen (B.getD q 0).toNat - 1 + s = 31 by omega] at this
    exact this
  have t2 : (B.getD q 0 + 1) * 2 ^ s ≤ 4294967296 := by
    have : (B.getD q 0 + 1) * 2 ^ s ≤ 2 ^ blen (B.getD q 0).toNat * 2 ^ s := Int.mul_le_mul_of_nonneg_right (by omega) (by omega)
    rw [← Int.pow_add, show blen (B.getD q 0).toNat + s = 32 by omega] at this
    exact this
  have d1 : val (B.drop q) = B.getD q 0 := by
    rw [val_drop_step B q (by omega), List.drop_eq_nil_of_le (by omega)]; simp [val]
  obtain ⟨l1, l2⟩ := lead nB.1 (m := q) (by omega)
  rw [d1] at l1 l2
  have hp := pow_pos q
  have g1 : 2147483648 * 4294967296 ^ q ≤ val B * 2 ^ s := by
    have a1 := Int.mul_le_mul_of_nonneg_right l1 (Int.le_of_lt h2)
    have a2 := Int.mul_le_mul_of_nonneg_right t1 (Int.le_of_lt hp)
    rw [Int.mul_right_comm] at a1
    omega
  have g2 : val B * 2 ^ s < 4294967296 ^ (q + 1) := by
    have a1 := Int.mul_lt_mul_of_pos_right l2 h2
    have a2 := Int.mul_le_mul_of_nonneg_right t2 (Int.le_of_lt hp)
    rw [Int.mul_right_comm] at a1
    rw [Int.pow_succ, Int.mul_comm (4294967296 ^ q)]
    omega
  have len1 := (len_dg hv0 (q + 1)).2 g2
  have len2 : ¬ (dg (val B * 2 ^ s)).length ≤ q := fun hc => by
    have := (len_dg hv0 q).1 hc
    omega
  have len : (dg (val B * 2 ^ s)).length = q + 1 := by omega
  refine ⟨by omega, ?_, hvd, hs32⟩
  have d2 : val ((dg (val B * 2 ^ s)).drop q) = (dg (val B * 2 ^ s)).getD q 0 := by
    rw [val_drop_step _ q (by omega), List.drop_eq_nil_of_le (by omega)]; simp [val]
  obtain ⟨_, l4⟩ := lead (ok32_dg (val B * 2 ^ s)) (m := q) (by omega)
  rw [d2, hvd] at l4
  apply Classical.byContradiction
  intro hc
  have : ((dg (val B * 2 ^ s)).getD q 0 + 1) * 4294967296 ^ q ≤ 2147483648 * 4294967296 ^ q := Int.mul_le_mul_of_nonneg_right (by omega) (Int.le_of_lt hp)
  omega
theorem copy_pad {L : List Int} {n : Nat} (h : L.length ≤ n) : L.take (Nat.min L.length n) ++ (List.replicate n 0).drop (Nat.min L.length n) = L ++ List.replicate (n - L.length) 0 := by
  have : Nat.min L.length n = L.length := Nat.min_eq_left h
  rw [this, List.take_of_length_le (Nat.le_refl _), List.drop_replicate]
theorem div_start {A B : List Int} {s n m m' : Nat} (nA : norm A) (nB : norm B) (h0 : B.length ≠ 0) (hBA : B.length ≤ A.length) (hs : s < 32) (hv : val (dg (val B * 2 ^ s)) = val B * 2 ^ s) (hl : (dg (val B * 2 ^ s)).length = B.length) (hn : n = A.length + 1) (hm : m = A.length - B.length + 1) (hm' : m' = m) :
    DivInv (val A * 2 ^ s) (dg (val B * 2 ^ s)) ((dg (val A * 2 ^ s)).take (Nat.min (dg (val A * 2 ^ s)).length n) ++ (List.replicate n 0).drop (Nat.min (dg (val A * 2 ^ s)).length n)) (List.replicate m' 0) m m := by
  subst hm'
  have h2 := two_pow_pos s
  have h3 := two_pow_lt hs
  have vA := val_nonneg nA.1
  have ltA := val_lt nA.1
  have gB := val_ge nB h0
  have hA0 : 0 ≤ val A * 2 ^ s := Int.mul_nonneg vA (by omega)
  have hA1 : val A * 2 ^ s < 4294967296 ^ A.length * 2 ^ s := Int.mul_lt_mul_of_pos_right ltA h2
  have hp := pow_pos A.length
  have h32 : (2 : Int) ^ s ≤ 4294967296 := by omega
  have hA2 : (4294967296 : Int) ^ A.length * 2 ^ s ≤ 4294967296 ^ A.length * 4294967296 := Int.mul_le_mul_of_nonneg_left h32 (Int.le_of_lt hp)
  have hA3 : val A * 2 ^ s < 4294967296 ^ n := by rw [hn, Int.pow_succ]; omega
  obtain ⟨p1, p2, p3⟩ := pad_len hA0 hA3
  have hpad : (dg (val A * 2 ^ s)).take (Nat.min (dg (val A * 2 ^ s)).length n) ++ (List.replicate n 0).drop (Nat.min (dg (val A * 2 ^ s)).length n) = pad n (val A * 2 ^ s) := by
    rw [copy_pad ((len_dg hA0 n).2 hA3), pad]
  rw [hpad]
  refine DivInv.start (by simp) (by rw [p1, hl, hn]; omega) p2 p3 ?_
  rw [hv]
  have e : (4294967296 : Int) ^ A.length = 4294967296 ^ m' * 4294967296 ^ (B.length - 1) := by rw [← Int.pow_add]; congr 1; omega
  have hpm := pow_pos m'
  have h5 : 4294967296 ^ (B.length - 1) * 2 ^ s ≤ val B * 2 ^ s := Int.mul_le_mul_of_nonneg_right gB (by omega)
  have h6 := Int.mul_le_mul_of_nonneg_left h5 (Int.le_of_lt hpm)
  rw [← Int.mul_assoc, ← e] at h6
  omega
end Go.VL

/- Plain laws of the integers' operations, by their numbers. No program here. -/
set_option linter.unusedVariables false
set_option linter.unusedSimpArgs false
namespace Go.VL

def okQ (ok : Bool) (x y : Int) : Bool := ok && (!decide (y = 0)) && inB (x.fdiv y)
def dmE (ok : Bool) (x y : Int) : Int := if ok = true then (if y = 0 then 4 else zE (x.fdiv y)) else 1
theorem fdiv_same {n : Bool} {a b : Int} (ha : 0 ≤ a) (hb : 0 < b) : (sg n a).fdiv (sg n b) = a / b ∧ (sg n a).fmod (sg n b) = sg n (a % b) := by
  have e := Int.mul_ediv_add_emod a b
  have r0 := Int.emod_nonneg a (show b ≠ 0 by omega)
  have r1 := Int.emod_lt_of_pos a hb
  cases n
  · exact (Int.fdiv_fmod_unique (by simpa [sg] using hb)).2 ⟨by simp [sg]; omega, by simpa [sg] using r0, by simpa [sg] using r1⟩
  · exact (Int.fdiv_fmod_unique' (by simp [sg]; omega)).2 ⟨by simp [sg, Int.neg_mul]; omega, by simp [sg]; omega, by simp [sg]; omega⟩
theorem fdiv_even {n m : Bool} {a b : Int} (h : ¬ n = m) (ha : 0 ≤ a) (hb : 0 < b) (hr : a % b = 0) : (sg n a).fdiv (sg m b) = -(a / b) ∧ (sg n a).fmod (sg m b) = sg m (a % b) := by
  have e := Int.mul_ediv_add_emod a b
  cases n <;> cases m <;> simp at h
  · exact (Int.fdiv_fmod_unique' (by simp [sg]; omega)).2 ⟨by simp [sg, Int.neg_mul, Int.mul_neg, hr]; omega, (by first | (simp [sg, hr]; done) | (simp [sg, hr]; omega)), (by first | (simp [sg, hr]; done) | (simp [sg, hr]; omega))⟩
  · exact (Int.fdiv_fmod_unique (by simpa [sg] using hb)).2 ⟨by simp [sg, Int.mul_neg, hr]; omega, (by first | (simp [sg, hr]; done) | (simp [sg, hr]; omega)), (by first | (simp [sg, hr]; done) | (simp [sg, hr]; omega))⟩
theorem fdiv_odd {n m : Bool} {a b : Int} (h : ¬ n = m) (ha : 0 ≤ a) (hb : 0 < b) (hr : a % b ≠ 0) : (sg n a).fdiv (sg m b) = -(a / b + 1) ∧ (sg n a).fmod (sg m b) = sg m (b - a % b) := by
  have e := Int.mul_ediv_add_emod a b
  have r0 := Int.emod_nonneg a (show b ≠ 0 by omega)
  have r1 := Int.emod_lt_of_pos a hb
  have e1 : b * (a / b + 1) = b * (a / b) + b := by rw [Int.mul_add, Int.mul_one]
  cases n <;> cases m <;> simp at h
  · exact (Int.fdiv_fmod_unique' (by simp [sg]; omega)).2 ⟨by simp only [sg, if_true, Bool.false_eq_true, if_false, Int.neg_mul, Int.mul_neg, Int.neg_neg]; omega, by simp [sg]; omega, by simp [sg]; omega⟩
  · exact (Int.fdiv_fmod_unique (by simpa [sg] using hb)).2 ⟨by simp only [sg, if_true, Bool.false_eq_true, if_false, Int.mul_neg]; omega, by simp [sg]; omega, by simp [sg]; omega⟩
abbrev dmR (ok : Bool) (x y : Int) : B := .tup [intB (gN (okQ ok x y) (x.fdiv y)) (gL (okQ ok x y) (x.fdiv y)), intB (gN (okQ ok x y) (x.fmod y)) (gL (okQ ok x y) (x.fmod y)), numB .i64 (dmE ok x y)]
theorem g_false {g : Bool} {z : Int} (h : g = false) : gN g z = false ∧ gL g z = [] := by subst h; simp [gN, gL]
theorem g_true {g : Bool} {z : Int} (h : g = true) : gN g z = zN z ∧ gL g z = zL z := by subst h; simp [gN, gL]
theorem zE_in {z : Int} : zE z = 0 ↔ inB z = true := by unfold zE; split <;> simp_all
theorem dmR_bad {ok : Bool} {x y : Int} (h : ok = false) : dmR ok x y = .tup [intB false [], intB false [], numB .i64 1] := by
  have hg : okQ ok x y = false := by rw [okQ, h]; rfl
  obtain ⟨a1, a2⟩ := g_false (z := x.fdiv y) hg
  obtain ⟨b1, b2⟩ := g_false (z := x.fmod y) hg
  rw [dmR, a1, a2, b1, b2, dmE, if_neg (by rw [h]; simp)]
theorem dmR_zero {ok : Bool} {x y : Int} (h : ok = true) (hy : y = 0) : dmR ok x y = .tup [intB false [], intB false [], numB .i64 4] := by
  have hg : okQ ok x y = false := by rw [okQ, h, hy]; simp
  obtain ⟨a1, a2⟩ := g_false (z := x.fdiv y) hg
  obtain ⟨b1, b2⟩ := g_false (z := x.fmod y) hg
  rw [dmR, a1, a2, b1, b2, dmE, if_pos h, if_pos hy]
theorem dmR_big {ok : Bool} {x y : Int} (h : ok = true) (hy : y ≠ 0) (hb : zE (x.fdiv y) ≠ 0) : dmR ok x y = .tup [intB false [], intB false [], numB .i64 (zE (x.fdiv y))] := by
  have hi : inB (x.fdiv y) = false := by
    cases hq : inB (x.fdiv y) with
    | false => rfl
    | true => exact absurd (zE_in.2 hq) hb
  have hg : okQ ok x y = false := by rw [okQ, hi]; simp
  obtain ⟨a1, a2⟩ := g_false (z := x.fdiv y) hg
  obtain ⟨b1, b2⟩ := g_false (z := x.fmod y) hg
  rw [dmR, a1, a2, b1, b2, dmE, if_pos h, if_neg hy]
theorem dmR_ok {ok : Bool} {x y : Int} (h : ok = true) (hy : y ≠ 0) (hb : zE (x.fdiv y) = 0) : dmR ok x y = .tup [intB (zN (x.fdiv y)) (zL (x.fdiv y)), intB (zN (x.fmod y)) (zL (x.fmod y)), numB .i64 0] := by
  have hg : okQ ok x y = true := by rw [okQ, h, zE_in.1 hb]; simp [hy]
  obtain ⟨a1, a2⟩ := g_true (z := x.fdiv y) hg
  obtain ⟨b1, b2⟩ := g_true (z := x.fmod y) hg
  rw [dmR, a1, a2, b1, b2, dmE, if_pos h, if_neg hy, hb]
theorem sg_zero {n : Bool} {v : Int} : sg n v = 0 ↔ v = 0 := by unfold sg; split <;> omega
theorem len_le {v : Int} {L : List Int} (oL : ok32 L) (h0 : 0 ≤ v) (h : v ≤ val L) : (dg v).length ≤ L.length := (len_dg h0 _).2 (by have := val_lt oL; omega)
end Go.VL

/- Plain laws of shifting an integer, and of the greatest common divisor. No program here. -/
set_option linter.unusedVariables false
set_option linter.unusedSimpArgs false
namespace Go.VL

/-- z 2^k, rounded down. -/
def shZ (z k : Int) : Int := if 0 ≤ k then z * 2 ^ k.toNat else z.fdiv (2 ^ (-k).toNat)
theorem zR_zero : zR 0 = .tup [intB false [], numB .i64 0] := by
  have h : inB 0 = true := by simp [inB, limit]
  simp [zN, zL, zE, h, dg_zero]
theorem zR_big {z : Int} (h : limit ≤ z.natAbs) : zR z = .tup [intB false [], numB .i64 2] := by
  have h1 : inB z = false := by simp [inB]; omega
  simp [zN, zL, zE, h1]
theorem limit_two : limit = 2 ^ 4096 := (pow_two_words 128).symm
theorem two_mono {m n : Nat} (hmn : m ≤ n) : (2 : Int) ^ m ≤ 2 ^ n := by
  obtain ⟨k, rfl⟩ := Nat.exists_eq_add_of_le hmn
  rw [Int.pow_add]
  have h1 := two_pow_pos m
  have h2 := two_pow_pos k
  have h3 := Int.mul_le_mul_of_nonneg_left (show (1 : Int) ≤ 2 ^ k by omega) (Int.le_of_lt h1)
  omega
theorem sg_shl {n : Bool} {v k : Int} (hk : 0 ≤ k) : shZ (sg n v) k = sg n (v * 2 ^ k.toNat) := by
  unfold shZ; rw [if_pos hk]; cases n <;> simp [sg, Int.neg_mul]
theorem shl_big {n : Bool} {v k : Int} (hv : 0 < v) (hk : 4096 < k) : limit ≤ ((shZ (sg n v) k).natAbs : Int) := by
  have h2 := two_pow_pos k.toNat
  have h0 : 0 ≤ v * 2 ^ k.toNat := Int.mul_nonneg (by omega) (by omega)
  rw [sg_shl (by omega), sg_abs h0, limit_two]
  have h1 := two_mono (m := 4096) (n := k.toNat) (by omega)
  have h3 := Int.mul_le_mul_of_nonneg_right (show (1 : Int) ≤ v by omega) (Int.le_of_lt h2)
  omega
theorem shZ_zero {k : Int} : shZ 0 k = 0 := by unfold shZ; split <;> simp
/-- To the right: at most 4096 digits matter. -/
theorem shr_cut {n : Bool} {v k : Int} (hv : 0 ≤ v) (hl : v < limit) (hk : k < 0) : shZ (sg n v) k = (sg n v).fdiv (2 ^ (-(if -4096 > k then -4096 else k)).toNat) := by
  unfold shZ
  rw [if_neg (by omega)]
  split
  · rename_i h
    have h1 := two_mono (m := 4096) (n := (-k).toNat) (by omega)
    have hp := two_pow_pos 4096
    rw [limit_two] at hl
    have e : (-(-4096 : Int)).toNat = 4096 := rfl
    rw [e]
    generalize (2 : Int) ^ 4096 = P at *
    by_cases h0 : v = 0
    · subst h0; cases n <;> simp [sg]
    · cases n
      · simp only [sg, Bool.false_eq_true, if_false]
        rw [((Int.fdiv_fmod_unique (a := v) (r := v) (q := 0) (show (0 : Int) < 2 ^ (-k).toNat by omega)).2 ⟨by simp, hv, by omega⟩).1, ((Int.fdiv_fmod_unique (a := v) (r := v) (q := 0) hp).2 ⟨by simp, hv, hl⟩).1]
      · simp only [sg, if_true]
        rw [((Int.fdiv_fmod_unique (a := -v) (r := 2 ^ (-k).toNat - v) (q := -1) (show (0 : Int) < 2 ^ (-k).toNat by omega)).2 ⟨by simp; omega, by omega, by omega⟩).1, ((Int.fdiv_fmod_unique (a := -v) (r := P - v) (q := -1) hp).2 ⟨by rw [Int.mul_neg, Int.mul_one]; omega, by omega, by omega⟩).1]
  · rfl
theorem shr_floor {n : Bool} {v p : Int} (hv : 0 ≤ v) (hp : 0 < p) : (sg n v).fdiv p = sg n (if n = true ∧ v % p ≠ 0 then v / p + 1 else v / p) := by
  cases n
  · have := (fdiv_same (n := false) hv hp).1
    simpa [sg] using this
  · by_cases h : v % p = 0
    · have := (fdiv_even (n := true) (m := false) (by simp) hv hp h).1
      simpa [sg, h] using this
    · have := (fdiv_odd (n := true) (m := false) (by simp) hv hp h).1
      simpa [sg, h] using this
theorem shl_len {A : List Int} {k : Nat} (oA : ok32 A) (hA : A.length ≤ 128) (hk : k ≤ 4096) : (dg (val A * 2 ^ k)).length ≤ 1000000000 := by
  have h0 := val_nonneg oA
  have h1 := val_lt oA
  have h2 := pow_mono hA
  have h3 := two_mono hk
  have h4 := two_pow_pos k
  have h5 := pow_pos 128
  have h := (len_dg (Int.mul_nonneg h0 (Int.le_of_lt h4)) 256).2 (by
    rw [show (256 : Nat) = 128 + 128 from rfl, Int.pow_add]
    rw [show (2 : Int) ^ 4096 = 4294967296 ^ 128 from pow_two_words 128] at h3
    have h6 := Int.mul_le_mul_of_nonneg_left h3 h0
    have h7 := Int.mul_lt_mul_of_pos_right (show val A < 4294967296 ^ 128 by omega) h5
    omega)
  omega
theorem val_limit {A : List Int} (oA : ok32 A) (hA : A.length ≤ 128) : val A < limit := by
  have h1 := val_lt oA
  have h2 := pow_mono hA
  unfold limit
  omega
theorem shr_plus {n : Bool} {v k : Int} {m : Nat} (hv : 0 ≤ v) (hl : v < limit) (hk : k < 0) (hm : m = (-(if -4096 > k then -4096 else k)).toNat) (h1 : n = true) (h2 : v % 2 ^ m ≠ 0) : sg n (val (dg (val (dg (v / 2 ^ m)) + val [1]))) = shZ (sg n v) k := by
  rw [shr_cut hv hl hk, ← hm, shr_floor hv (two_pow_pos _), if_pos ⟨h1, h2⟩]
  have h3 : 0 ≤ v / 2 ^ m := Int.ediv_nonneg hv (Int.le_of_lt (two_pow_pos _))
  have h4 : val [1] = 1 := rfl
  rw [val_dg h3, h4, val_dg (by omega)]
theorem shr_same {n : Bool} {v k : Int} {m : Nat} (hv : 0 ≤ v) (hl : v < limit) (hk : k < 0) (hm : m = (-(if -4096 > k then -4096 else k)).toNat) (h : ¬ (n = true ∧ v % 2 ^ m ≠ 0)) : sg n (val (dg (v / 2 ^ m))) = shZ (sg n v) k := by
  rw [shr_cut hv hl hk, ← hm, shr_floor hv (two_pow_pos _), if_neg h]
  rw [val_dg (Int.ediv_nonneg hv (Int.le_of_lt (two_pow_pos _)))]
end Go.VL

/- Plain laws of the square root by Newton's steps, and of the greatest common divisor. No program here. -/
set_option linter.unusedVariables false
set_option linter.unusedSimpArgs false
namespace Go.VL

/-- The square root, rounded down. -/
def isqN : Nat → Nat
  | 0 => 0
  | n + 1 => if (isqN n + 1) * (isqN n + 1) ≤ n + 1 then isqN n + 1 else isqN n
theorem isqN_spec : ∀ n, isqN n * isqN n ≤ n ∧ n < (isqN n + 1) * (isqN n + 1)
  | 0 => by simp [isqN]
  | n + 1 => by
    obtain ⟨h1, h2⟩ := isqN_spec n
    rw [isqN]
    split
    · rename_i h
      refine ⟨h, ?_⟩
      have e : (isqN n + 1 + 1) * (isqN n + 1 + 1) = (isqN n + 1) * (isqN n + 1) + (isqN n + 1) + (isqN n + 1) + 1 := by
        simp only [Nat.mul_add, Nat.add_mul]; omega
      omega
    · rename_i h
      exact ⟨by omega, by omega⟩
def isq (v : Int) : Int := isqN v.toNat
theorem isq_spec {v : Int} (h : 0 ≤ v) : 0 ≤ isq v ∧ isq v * isq v ≤ v ∧ v < (isq v + 1) * (isq v + 1) := by
  obtain ⟨h1, h2⟩ := isqN_spec v.toNat
  unfold isq
  refine ⟨by omega, ?_, ?_⟩
  · have : ((isqN v.toNat * isqN v.toNat : Nat) : Int) ≤ (v.toNat : Int) := by omega
    rw [Int.natCast_mul] at this; omega
  · have : (v.toNat : Int) < (((isqN v.toNat + 1) * (isqN v.toNat + 1) : Nat) : Int) := by omega
    rw [Int.natCast_mul, Int.natCast_add, show ((1 : Nat) : Int) = 1 from rfl] at this; omega
theorem sq_le {a b : Int} (ha : 0 ≤ a) (h : a ≤ b) : a * a ≤ b * b := Int.mul_le_mul h h ha (by omega)
theorem isq_uniq {v x : Int} (hx : 0 ≤ x) (h1 : x * x ≤ v) (h2 : v < (x + 1) * (x + 1)) : isq v = x := by
  have hv : 0 ≤ v := by have := Int.mul_nonneg hx hx; omega
  obtain ⟨s0, s1, s2⟩ := isq_spec hv
  apply Classical.byContradiction
  intro hc
  rcases Int.lt_or_gt_of_ne hc with h | h
  · have := sq_le (a := isq v + 1) (b := x) (by omega) (by omega); omega
  · have := sq_le (a := x + 1) (b := isq v) (by omega) (by omega); omega
theorem isq_lt {v x : Int} (hx : 0 ≤ x) (hv : 0 ≤ v) (h : v < x * x) : isq v < x := by
  obtain ⟨s0, s1, s2⟩ := isq_spec hv
  apply Classical.byContradiction
  intro hc
  have := sq_le hx (show x ≤ isq v by omega)
  omega
theorem isq_pos {v : Int} (hv : 0 < v) : 1 ≤ isq v := by
  obtain ⟨s0, s1, s2⟩ := isq_spec (Int.le_of_lt hv)
  apply Classical.byContradiction
  intro hc
  have : isq v = 0 := by omega
  rw [this] at s2; omega
/-- A step of Newton from above stays above. -/
theorem newton_ge {v x : Int} (hv : 0 ≤ v) (hx : 0 < x) : isq v ≤ (x + v / x) / 2 := by
  obtain ⟨s0, s1, s2⟩ := isq_spec hv
  have h : 2 * isq v - x ≤ v / x := by
    rw [Int.le_ediv_iff_mul_le hx]
    have e : (isq v - x) * (isq v - x) = isq v * isq v - isq v * x - (isq v * x - x * x) := by
      rw [Int.sub_mul, Int.mul_sub, Int.mul_sub, Int.mul_comm x (isq v)]
    have h0 : 0 ≤ (isq v - x) * (isq v - x) := by
      rcases Int.le_total 0 (isq v - x) with h | h
      · exact Int.mul_nonneg h h
      · exact Int.mul_nonneg_of_nonpos_of_nonpos h h
    have e2 : (2 * isq v - x) * x = isq v * x + isq v * x - x * x := by rw [Int.sub_mul, Int.mul_assoc]; omega
    omega
  omega
theorem newton_stop {v x : Int} (hv : 0 ≤ v) (hx : 0 < x) (hs : isq v ≤ x) (h : x ≤ (x + v / x) / 2) : x = isq v := by
  have h1 : x ≤ v / x := by omega
  rw [Int.le_ediv_iff_mul_le hx] at h1
  obtain ⟨s0, s1, s2⟩ := isq_spec hv
  apply Classical.byContradiction
  intro hc
  have := sq_le (a := isq v + 1) (b := x) (by omega) (by omega)
  omega
theorem newton_start {v : Int} {n : Nat} (hv : 0 ≤ v) (hn : blen v.toNat ≤ 2 * n) : isq v ≤ 1 * 2 ^ n := by
  have h := (blen_lt (2 * n) v.toNat).1 hn
  have h2 : v < 2 ^ n * 2 ^ n := by
    have : (v.toNat : Int) < ((2 ^ (2 * n) : Nat) : Int) := by omega
    rw [Int.natCast_pow] at this
    rw [← Int.pow_add, ← Nat.two_mul]
    have e : ((2 : Nat) : Int) = 2 := rfl
    rw [e] at this
    omega
  have := isq_lt (Int.le_of_lt (two_pow_pos n)) hv h2
  omega
def sqOk (ok : Bool) (z : Int) : Bool := ok && decide (0 ≤ z)
def sqB (ok : Bool) (z : Int) : Bool := sqOk ok z && decide (isq z * isq z = z)
def sqE (ok : Bool) (z : Int) : Int := if ok = true then (if z < 0 then 5 else 0) else 1
abbrev sqR (ok : Bool) (z : Int) : B := .tup [intB (gN (sqOk ok z) (isq z)) (gL (sqOk ok z) (isq z)), boolB (sqB ok z), numB .i64 (sqE ok z)]
theorem sqR_bad {ok : Bool} {z : Int} (h : ok = false) : sqR ok z = .tup [intB false [], boolB false, numB .i64 1] := by
  subst h; simp [sqB, sqOk, sqE, gN, gL]
theorem sqR_neg {ok : Bool} {z : Int} (h : ok = true) (hz : z < 0) : sqR ok z = .tup [intB false [], boolB false, numB .i64 5] := by
  subst h
  have h0 : sqOk true z = false := by simp [sqOk]; omega
  simp [sqB, h0, sqE, gN, gL, hz]
theorem sqR_ok {ok : Bool} {z : Int} (h : ok = true) (hz : 0 ≤ z) : sqR ok z = .tup [intB (zN (isq z)) (zL (isq z)), boolB (decide (isq z * isq z = z)), numB .i64 0] := by
  subst h
  have h0 : sqOk true z = true := by simp [sqOk, hz]
  have h1 : ¬ z < 0 := by omega
  simp [sqB, h0, sqE, gN, gL, h1]
theorem isq_zero : isq 0 = 0 := rfl
theorem isq_le {v : Int} (h : 0 ≤ v) : isq v ≤ v := by
  obtain ⟨s0, s1, s2⟩ := isq_spec h
  rcases Int.lt_or_le (isq v) 1 with h1 | h1
  · omega
  · have := Int.mul_le_mul_of_nonneg_left h1 s0; omega
theorem zE_small {z : Int} (h0 : 0 ≤ z) (h : z < limit) : zE z = 0 := zE_in.2 (by simp [inB]; omega)

theorem gcd_swap {a b : Int} (ha : 0 ≤ a) (hb : 0 ≤ b) : Int.gcd b (a % b) = Int.gcd a b := by
  obtain ⟨m, rfl⟩ := Int.eq_ofNat_of_zero_le ha
  obtain ⟨n, rfl⟩ := Int.eq_ofNat_of_zero_le hb
  rw [← Int.natCast_emod, Int.gcd_natCast_natCast, Int.gcd_natCast_natCast, Nat.gcd_comm m n, Nat.gcd_rec n m, Nat.gcd_comm]
theorem gcd_sg {n m : Bool} {a b : Int} : Int.gcd (sg n a) (sg m b) = Int.gcd a b := by cases n <;> cases m <;> simp [sg]
theorem gcd_val_zero {a : Int} (h : 0 ≤ a) : (Int.gcd a 0 : Int) = a := by rw [Int.gcd_zero_right]; omega
theorem gcd_words (x : Int) (h0 : 0 ≤ x) (h1 : x < 18446744073709551616) : val [x % 4294967296, x / 4294967296 % 4294967296] = x := of_val ⟨h0, h1⟩
theorem two_cast (n : Nat) : ((2 ^ n : Nat) : Int) = 2 ^ n := by rw [Int.natCast_pow]; rfl
theorem blen_limit {v : Int} (h : 0 ≤ v) (hl : v < limit) : v.toNat < 2 ^ 4096 := by
  rw [limit_two] at hl
  have e := two_cast 4096
  have h2 : ((v.toNat : Nat) : Int) < ((2 ^ 4096 : Nat) : Int) := by rw [e, Int.toNat_of_nonneg h]; exact hl
  exact Int.ofNat_lt.1 h2
theorem start_len {n : Nat} (h : n ≤ 2049) : (dg (val [1] * 2 ^ n)).length ≤ 1000 := by
  have h1 := two_mono (show n ≤ 32 * 1000 - 1 by omega)
  have h2 : (2 : Int) ^ (32 * 1000) = 4294967296 ^ 1000 := pow_two_words 1000
  have h3 : (2 : Int) ^ (32 * 1000 - 1 + 1) = 2 ^ (32 * 1000 - 1) * 2 := Int.pow_succ ..
  rw [show 32 * 1000 - 1 + 1 = 32 * 1000 from rfl, h2] at h3
  have h4 := two_pow_pos n
  have h5 := two_pow_pos (32 * 1000 - 1)
  have e : val [1] * 2 ^ n = 2 ^ n := by rw [show val [1] = 1 from rfl, Int.one_mul]
  rw [e]
  refine (len_dg (Int.le_of_lt h4) 1000).2 ?_
  rw [h3]
  omega
theorem newton_dg {v : Int} {X : List Int} (hv : 0 ≤ v) (hx : 0 < val X) : val (dg (val (dg (val X + val (dg (v / val X)))) / 2 ^ (1 : Int).toNat)) = (val X + v / val X) / 2 := by
  have q0 := Int.ediv_nonneg hv (Int.le_of_lt hx)
  have e1 : (2 : Int) ^ (1 : Int).toNat = 2 := rfl
  rw [val_dg q0, val_dg (show 0 ≤ val X + v / val X by omega), e1, val_dg (by omega)]
theorem cmp3_nge {a b : Int} (h : ¬ cmp3 a b ≥ 0) : a < b := cmp3_lt.1 (by omega)
theorem cmp3_ge {a b : Int} (h : cmp3 a b ≥ 0) : b ≤ a := by have := mt cmp3_lt.2 (show ¬ cmp3 a b < 0 by omega); omega
theorem cmp3_zero {a b : Int} : cmp3 a b = 0 ↔ a = b := by unfold cmp3; split <;> (try split) <;> omega
theorem isq_len {v : Int} {A : List Int} (oA : ok32 A) (h : v = val A) : (dg (isq v)).length ≤ A.length := by
  subst h; exact len_le oA (isq_spec (val_nonneg oA)).1 (isq_le (val_nonneg oA))
theorem newton_len {v : Int} {X : List Int} (hv : 0 ≤ v) (hx : 0 < val X) : val (dg (val (dg (val X + val (dg (v / val X)))) / 2 ^ (1 : Int).toNat)) ≤ val (dg (val X + val (dg (v / val X)))) := by
  rw [newton_dg hv hx]
  have q0 := Int.ediv_nonneg hv (Int.le_of_lt hx)
  rw [val_dg q0, val_dg (show 0 ≤ val X + v / val X by omega)]
  omega
theorem sum_len {A B : List Int} (oA : ok32 A) (oB : ok32 B) (hA : A.length ≤ 1000) (hB : B.length ≤ 128) : (dg (val A + val B)).length ≤ 900000000 := by
  have h := (len_dg (v := val A + val B) (by have := val_nonneg oA; have := val_nonneg oB; omega) 1001).2 (by
    have h1 := val_lt oA
    have h2 := val_lt oB
    have h3 := pow_mono hA
    have h4 := pow_mono (show B.length ≤ 1000 by omega)
    rw [show (1001 : Nat) = 1000 + 1 from rfl, Int.pow_succ]
    have := pow_pos 1000
    generalize (4294967296 : Int) ^ 1000 = p at *
    omega)
  omega
theorem sq_eq {x v : Int} (h : 0 ≤ x * x) : (cmp3 (val (dg (x * x))) v == 0) = decide (x * x = v) := by
  rw [val_dg h, Bool.eq_iff_iff, beq_iff_eq, decide_eq_true_iff, cmp3_zero]
theorem mul_len2 {A B : List Int} (oA : ok32 A) (oB : ok32 B) (hA : A.length ≤ 128) (hB : B.length ≤ 128) : (dg (val A * val B)).length ≤ 256 := by
  have a0 := val_nonneg oA
  have b0 := val_nonneg oB
  refine (len_dg (Int.mul_nonneg a0 b0) 256).2 ?_
  have h1 := val_lt oA
  have h2 := val_lt oB
  have h3 := pow_mono hA
  have h4 := pow_mono hB
  have hp := pow_pos 128
  rw [show (256 : Nat) = 128 + 128 from rfl, Int.pow_add]
  generalize (4294967296 : Int) ^ 128 = p at *
  have h5 : val A * val B ≤ (p - 1) * (p - 1) := Int.mul_le_mul (by omega) (by omega) b0 (by omega)
  have h6 : (p - 1) * (p - 1) = p * p - p - p + 1 := by rw [Int.sub_mul, Int.mul_sub]; omega
  omega
theorem sq_zero : B.tup [intB (zN (isq 0)) (zL (isq 0)), boolB (decide (isq 0 * isq 0 = 0)), numB .i64 0] = .tup [intB false [], boolB true, numB .i64 0] := by
  have h : inB 0 = true := by simp [inB, limit]
  simp [isq_zero, zN, zL, h, dg_zero]
end Go.VL

/- Plain laws of decimal texts. No program here. -/
set_option linter.unusedVariables false
set_option linter.unusedSimpArgs false
namespace Go.VL

/-- Decimal digits, the lowest first, as bytes. -/
def dd (n : Nat) : List Int := if h : n = 0 then [] else (48 + ((n % 10 : Nat) : Int)) :: dd (n / 10)
termination_by n
decreasing_by omega
theorem dd_zero : dd 0 = [] := by rw [dd]; simp
theorem dd_pos {n : Nat} (h : n ≠ 0) : dd n = (48 + ((n % 10 : Nat) : Int)) :: dd (n / 10) := by rw [dd]; simp [h]
theorem dd_range (n : Nat) : ∀ x ∈ dd n, 48 ≤ x ∧ x ≤ 57 := by
  induction n using Nat.strongRecOn with
  | _ n ih =>
    by_cases h : n = 0
    · subst h; rw [dd_zero]; intro x hx; cases hx
    · rw [dd_pos h]
      intro x hx
      rcases List.mem_cons.1 hx with rfl | hx
      · omega
      · exact ih (n / 10) (by omega) x hx
theorem dd_len : ∀ (j n : Nat), n < 10 ^ j → (dd n).length ≤ j
  | 0, n, h => by have : n = 0 := by simpa using h
                  subst this; rw [dd_zero]; simp
  | j + 1, n, h => by
    by_cases h0 : n = 0
    · subst h0; rw [dd_zero]; simp
    · rw [dd_pos h0]
      have := dd_len j (n / 10) (by rw [Nat.pow_succ] at h; omega)
      simp; omega
/-- The digits of a magnitude, the lowest first. -/
def txD (v : Int) : List Int := if v = 0 then [48] else dd v.toNat
/-- The text of an integer. -/
def txL (z : Int) : List Int := (txD (z.natAbs : Int) ++ (if z < 0 then [45] else [])).reverse
def txB (z : Int) : ByteArray := bytesOf (txL z)
theorem txD_range (v : Int) : ∀ x ∈ txD v, 48 ≤ x ∧ x ≤ 57 := by
  unfold txD; split
  · intro x hx; simp at hx; omega
  · exact dd_range _
theorem ten_limbs (k : Nat) : 4294967296 ^ k ≤ 10 ^ (10 * k) := by
  rw [Nat.pow_mul]; exact Nat.pow_le_pow_left (by decide) k
theorem dd_val_lenG {A : List Int} {k : Nat} (oA : ok32 A) (hA : A.length ≤ k) : (dd (val A).toNat).length ≤ 10 * k := by
  refine dd_len (10 * k) _ ?_
  have h0 := val_nonneg oA
  have h1 := val_lt oA
  have h2 := pow_mono hA
  have h3 := ten_limbs k
  have h4 : ((val A).toNat : Int) < ((4294967296 ^ k : Nat) : Int) := by
    rw [Int.toNat_of_nonneg h0, Int.natCast_pow]
    have : ((4294967296 : Nat) : Int) = 4294967296 := rfl
    rw [this]; omega
  exact Nat.lt_of_lt_of_le (Int.ofNat_lt.1 h4) h3
theorem dd_val_len {A : List Int} (oA : ok32 A) (hA : A.length ≤ 128) : (dd (val A).toNat).length ≤ 1280 := dd_val_lenG oA hA
/-- Inside a group of nine digits. -/
structure TxIn (v q r : Int) (k : Nat) (D : List Int) : Prop where
  k9 : k ≤ 9
  q0 : 0 ≤ q
  r0 : 0 ≤ r
  r1 : r < 10 ^ (9 - k)
  eq : dd v.toNat = D ++ dd (q * 10 ^ (9 - k) + r).toNat
  pos : k = 0 → 0 < q * 10 ^ 9 + r
theorem TxIn.start {v l : Int} {D : List Int} (h : dd v.toNat = D ++ dd l.toNat) (hl : 0 < l) : TxIn v (l / 1000000000) (l % 1000000000) 0 D := by
  have e : l / 1000000000 * 10 ^ 9 + l % 1000000000 = l := by
    have : (10 : Int) ^ 9 = 1000000000 := rfl
    rw [this]; omega
  refine ⟨by omega, by omega, by omega, ?_, ?_, fun _ => by rw [e]; exact hl⟩
  · show l % 1000000000 < 10 ^ 9
    have : (10 : Int) ^ 9 = 1000000000 := rfl
    omega
  · rw [show 9 - 0 = 9 from rfl, e]; exact h
theorem ten_pos (k : Nat) : (0 : Int) < 10 ^ k := Int.pow_pos (by decide)
theorem TxIn.r9 {v q r : Int} {k : Nat} {D : List Int} (h : TxIn v q r k D) : r < 1000000000 := by
  have h1 := h.r1
  have h2 : (10 : Nat) ^ (9 - k) ≤ 10 ^ 9 := Nat.pow_le_pow_right (by decide) (by omega)
  have h3 : ((10 ^ (9 - k) : Nat) : Int) ≤ ((10 ^ 9 : Nat) : Int) := Int.ofNat_le.2 h2
  rw [Int.natCast_pow, Int.natCast_pow] at h3
  have e : ((10 : Nat) : Int) ^ 9 = 1000000000 := rfl
  rw [e] at h3
  have e2 : ((10 : Nat) : Int) = 10 := rfl
  rw [e2] at h3
  omega
theorem TxIn.step {v q r : Int} {k : Nat} {D : List Int} (h : TxIn v q r k D) (hk : k < 9) (hn : k = 0 ∨ ¬ (q = 0 ∧ r = 0)) : TxIn v q (r / 10) (k + 1) (D ++ [48 + r % 10]) := by
  obtain ⟨h1, h2, h3, h4, h5, h6⟩ := h
  have e : (10 : Int) ^ (9 - k) = 10 * 10 ^ (9 - (k + 1)) := by
    rw [show 9 - k = (9 - (k + 1)) + 1 by omega, Int.pow_succ, Int.mul_comm]
  have hp := ten_pos (9 - (k + 1))
  have hq : q * 10 ^ (9 - k) = 10 * (q * 10 ^ (9 - (k + 1))) := by rw [e, Int.mul_left_comm]
  have hq0 : 0 ≤ q * 10 ^ (9 - (k + 1)) := Int.mul_nonneg h2 (Int.le_of_lt hp)
  have hx : 0 < q * 10 ^ (9 - k) + r := by
    by_cases h0 : k = 0
    · subst h0; exact h6 rfl
    · have hqr := hn.resolve_left h0
      by_cases hqz : q = 0
      · subst hqz; rw [Int.zero_mul]; have : r ≠ 0 := fun e => hqr ⟨rfl, e⟩; omega
      · have := Int.mul_pos (show 0 < q by omega) (ten_pos (9 - k)); omega
  rw [e] at h4
  refine ⟨by omega, h2, by omega, by omega, ?_, fun h => by omega⟩
  rw [h5, dd_pos (by omega), List.append_assoc]
  rw [hq] at hx ⊢
  congr 1
  have e1 : (((10 * (q * 10 ^ (9 - (k + 1))) + r).toNat % 10 : Nat) : Int) = r % 10 := by omega
  have e2 : (10 * (q * 10 ^ (9 - (k + 1))) + r).toNat / 10 = (q * 10 ^ (9 - (k + 1)) + r / 10).toNat := by omega
  rw [e1, e2]; rfl
theorem TxIn.full {v q r : Int} {k : Nat} {D : List Int} (h : TxIn v q r k D) (hk : 9 ≤ k) : dd v.toNat = D ++ dd q.toNat := by
  obtain ⟨h1, h2, h3, h4, h5, h6⟩ := h
  have : k = 9 := by omega
  subst this
  have e : (10 : Int) ^ (9 - 9) = 1 := rfl
  rw [e] at h4 h5
  rw [h5, show q * 1 + r = q by omega]
theorem TxIn.done {v q r : Int} {k : Nat} {D : List Int} (h : TxIn v q r k D) (hq : q = 0) (hr : r = 0) : dd v.toNat = D ++ dd q.toNat := by
  rw [h.eq, hq, hr, Int.zero_mul]; rfl
theorem TxIn.len {v q r : Int} {k : Nat} {D : List Int} (h : TxIn v q r k D) : D.length ≤ (dd v.toNat).length := by rw [h.eq]; simp
theorem txD_some {v : Int} {D : List Int} (hv : 0 ≤ v) (h : dd v.toNat = D) (hD : D.length ≠ 0) : D = txD v := by
  unfold txD
  rw [if_neg (fun e => by subst e; rw [show (0 : Int).toNat = 0 from rfl, dd_zero] at h; subst h; simp at hD), h]
theorem txD_none {v : Int} {D : List Int} (hv : 0 ≤ v) (h : dd v.toNat = D) (hD : D.length = 0) : [48] = txD v := by
  have h0 : v = 0 := by
    apply Classical.byContradiction
    intro hc
    rw [dd_pos (by omega)] at h
    subst h; simp at hD
  unfold txD; rw [if_pos h0]
theorem txD_len {v : Int} {A : List Int} (oA : ok32 A) (hA : A.length ≤ 128) (h : v = val A) : (txD v).length ≤ 1280 := by
  unfold txD; split
  · simp
  · subst h; exact dd_val_len oA hA
/-- Turning round in place: i ends have been exchanged. -/
structure RevInv (D0 D : List Int) (i : Nat) : Prop where
  le : i ≤ D0.length / 2
  len : D.length = D0.length
  at_ : ∀ j, j < D0.length → D.getD j 0 = if j < i ∨ D0.length - 1 - j < i then D0.getD (D0.length - 1 - j) 0 else D0.getD j 0
theorem RevInv.start (D : List Int) : RevInv D D 0 := ⟨by omega, rfl, fun j hj => by simp⟩
theorem RevInv.step {D0 D : List Int} {i k : Nat} (h : RevInv D0 D i) (hi : i < D0.length / 2) (hk : k = D0.length - 1 - i) : RevInv D0 ((D.set i (D.getD k 0)).set k (D.getD i 0)) (i + 1) := by
  obtain ⟨h1, h2, h3⟩ := h
  refine ⟨by omega, by simp [h2], fun j hj => ?_⟩
  by_cases hjk : j = k
  · subst hjk
    rw [getD_set_self (by simp; omega), h3 i (by omega), if_neg (by omega), if_pos (by omega)]
    congr 1; omega
  · rw [getD_set_ne (Ne.symm hjk)]
    by_cases hji : j = i
    · subst hji
      rw [getD_set_self (by omega), h3 k (by omega), if_neg (by omega), if_pos (by omega), hk]
    · rw [getD_set_ne (Ne.symm hji), h3 j hj]
      by_cases hc : j < i ∨ D0.length - 1 - j < i
      · rw [if_pos hc, if_pos (by omega)]
      · rw [if_neg hc, if_neg (by omega)]
theorem list_ext_getD {L M : List Int} (hl : L.length = M.length) (h : ∀ j, j < L.length → L.getD j 0 = M.getD j 0) : L = M := by
  refine List.ext_getElem hl (fun j h1 h2 => ?_)
  have := h j h1
  simpa [List.getD_eq_getElem?_getD, h1, h2] using this
theorem RevInv.fin {D0 D : List Int} {i : Nat} (h : RevInv D0 D i) (hi : D0.length / 2 ≤ i) : D = D0.reverse := by
  obtain ⟨h1, h2, h3⟩ := h
  refine list_ext_getD (by simp [h2]) (fun j hj => ?_)
  rw [h3 j (by omega)]
  have e : (D0.reverse).getD j 0 = D0.getD (D0.length - 1 - j) 0 := by
    simp only [List.getD_eq_getElem?_getD]
    rw [List.getElem?_reverse (by omega)]
  rw [e]
  split
  · rfl
  · congr 1; omega
theorem ok8_digits {D : List Int} (h : ∀ x ∈ D, 45 ≤ x ∧ x ≤ 57) : ok8 D := fun x hx => by have := h x hx; omega
theorem tx_ok8 {n : Bool} {v : Int} : ok8 (txD v ++ (if n = true then [45] else [])).reverse := by
  refine ok8_digits (fun x hx => ?_)
  simp only [List.mem_reverse, List.mem_append] at hx
  rcases hx with hx | hx
  · have := txD_range v x hx; omega
  · split at hx <;> simp at hx; omega
theorem txL_sg {n : Bool} {v : Int} (hv : 0 ≤ v) (hn : n = true → 0 < v) : txL (sg n v) = (txD v ++ (if n = true then [45] else [])).reverse := by
  unfold txL
  rw [sg_abs hv]
  cases n
  · rw [if_neg (by simp [sg]; omega)]; simp
  · have := hn rfl
    rw [if_pos (by simp [sg]; omega)]; simp
def tE (ok : Bool) : Int := if ok = true then 0 else 1
def tS (ok : Bool) (z : Int) : ByteArray := if ok = true then txB z else ⟨#[]⟩
theorem tS_false {ok : Bool} {z : Int} (h : ok = false) : tS ok z = ⟨#[]⟩ := by rw [tS, h]; rfl
theorem tS_true {ok : Bool} {z : Int} (h : ok = true) : tS ok z = txB z := by rw [tS, if_pos h]
theorem dgz {v : Int} (h : (dg v).length = 0) : val (dg v) = 0 := by
  have : dg v = [] := List.length_eq_zero_iff.1 h
  rw [this]; rfl
theorem dgl {v : Int} (h : val (dg v) = 0) : (dg v).length = 0 := by
  apply Classical.byContradiction
  intro hc
  have := norm_pos (norm_dg v) (fun e => hc (by rw [e]; rfl))
  omega
end Go.VL

/- Plain laws of reading decimal texts. No program here. -/
set_option linter.unusedVariables false
set_option linter.unusedSimpArgs false
namespace Go.VL

theorem strEq_t {a b : ByteArray} (h : (a.toList == b.toList) = true) : a = b := by
  have h1 : a.toList = b.toList := by simpa using h
  rw [Go.ByteArray.toList_eq, Go.ByteArray.toList_eq] at h1
  exact ByteArray.ext (Array.ext' h1)
theorem strEq_f {a b : ByteArray} (h : (a.toList == b.toList) = false) : a ≠ b := fun e => by subst e; simp at h
def at8 (s : ByteArray) (i : Nat) : Int := ((s.data.getD i 0).toNat : Int)
theorem at8_range (s : ByteArray) (i : Nat) : 0 ≤ at8 s i ∧ at8 s i < 256 := by
  unfold at8
  have := UInt8.toNat_lt (s.data.getD i 0)
  omega
def negS (s : ByteArray) : Bool := decide (0 < s.size ∧ at8 s 0 = 45)
def digS (s : ByteArray) : ByteArray := if negS s = true then s.extract 1 s.size else s
def preS (s : ByteArray) : Bool := decide (digS s ≠ ⟨#[]⟩ ∧ ¬ (at8 (digS s) 0 = 48 ∧ s ≠ ⟨#[48]⟩))
def numS (d : ByteArray) : Bool := decide (∀ i, i < d.size → 48 ≤ at8 d i ∧ at8 d i ≤ 57)
def okS (s : ByteArray) : Bool := preS s && numS (digS s)
def dS (s : ByteArray) : ByteArray := if okS s = true then digS s else ⟨#[]⟩
abbrev dcR (s : ByteArray) : B := .tup [.lit (.string (dS s)), boolB (okS s && negS s), boolB (okS s)]
theorem dc_bad {s : ByteArray} (h : okS s = false) : dcR s = .tup [.lit (.string ⟨#[]⟩), boolB false, boolB false] := by simp [dcR, dS, h]
theorem dc_ok {s : ByteArray} (h : okS s = true) : dcR s = .tup [.lit (.string (digS s)), boolB (negS s), boolB true] := by simp [dcR, dS, h]
theorem neg_in {s : ByteArray} (h : 0 < s.size) : (at8 s 0 == 45) = negS s := by
  unfold negS; rw [Bool.eq_iff_iff]; simp [h]
theorem neg_out {s : ByteArray} (h : ¬ 0 < s.size) : negS s = false := by unfold negS; simp; omega
theorem neg_size {s : ByteArray} (h : negS s = true) : 0 < s.size := by unfold negS at h; rw [decide_eq_true_iff] at h; exact h.1
theorem dig_yes {s : ByteArray} (h : negS s = true) : s.extract 1 s.size = digS s := by unfold digS; rw [if_pos h]
theorem dig_no {s : ByteArray} (h : negS s = false) : s = digS s := by unfold digS; rw [if_neg (by simp [h])]
theorem ok_empty {s : ByteArray} (h : digS s = ⟨#[]⟩) : okS s = false := by simp [okS, preS, h]
theorem ok_zero {s : ByteArray} (h : at8 (digS s) 0 = 48) (h2 : s ≠ ⟨#[48]⟩) : okS s = false := by simp [okS, preS, h, h2]
theorem pre_a {s : ByteArray} (h0 : digS s ≠ ⟨#[]⟩) (h2 : s = ⟨#[48]⟩) : preS s = true := by unfold preS; rw [decide_eq_true_iff]; exact ⟨h0, fun h => h.2 h2⟩
theorem pre_b {s : ByteArray} (h0 : digS s ≠ ⟨#[]⟩) (h2 : at8 (digS s) 0 ≠ 48) : preS s = true := by unfold preS; rw [decide_eq_true_iff]; exact ⟨h0, fun h => h2 h.1⟩
theorem ok_bad {s : ByteArray} {i : Nat} (hi : i < (digS s).size) (h : at8 (digS s) i < 48 ∨ at8 (digS s) i > 57) : okS s = false := by
  have : numS (digS s) = false := by
    unfold numS; rw [decide_eq_false_iff_not]
    intro hc
    have := hc i hi
    omega
  simp [okS, this]
theorem ok_good {s : ByteArray} (hp : preS s = true) (h : ∀ i, i < (digS s).size → 48 ≤ at8 (digS s) i ∧ at8 (digS s) i ≤ 57) : okS s = true := by
  simp only [okS, hp, Bool.true_and, numS, decide_eq_true_iff]; exact h
theorem size_pos {d : ByteArray} (h : d ≠ ⟨#[]⟩) : 0 < d.size := by
  apply Classical.byContradiction
  intro hc
  have h0 : d.data.size = 0 := by have : d.size = 0 := by omega
                                  exact this
  exact h (ByteArray.ext (Array.eq_empty_of_size_eq_zero h0))
theorem dS_ok {s : ByteArray} (h : okS s = true) : dS s = digS s := by rw [dS, if_pos h]
theorem dS_num {s : ByteArray} {i : Nat} (hi : i < (dS s).size) : 48 ≤ at8 (dS s) i ∧ at8 (dS s) i ≤ 57 := by
  by_cases h : okS s = true
  · rw [dS_ok h] at hi ⊢
    simp only [okS, Bool.and_eq_true, numS, decide_eq_true_iff] at h
    exact h.2 i hi
  · rw [dS, if_neg h] at hi
    exact absurd hi (by simp [ByteArray.size])
theorem digS_size (s : ByteArray) : (digS s).size ≤ s.size := by
  unfold digS; split
  · rw [ByteArray.size_extract]; omega
  · omega
theorem dS_size (s : ByteArray) : (dS s).size ≤ s.size := by
  unfold dS; split
  · exact digS_size s
  · exact Nat.zero_le _
/-- The number that digits stand for. -/
def pv (L : List Int) : Int := L.foldl (fun a x => a * 10 + (x - 48)) 0
theorem pv_snoc (L : List Int) (x : Int) : pv (L ++ [x]) = pv L * 10 + (x - 48) := by simp [pv]
def bl (d : ByteArray) : List Int := d.data.toList.map (fun b => (b.toNat : Int))
theorem bl_len (d : ByteArray) : (bl d).length = d.size := by unfold bl; rw [List.length_map, Array.length_toList]; rfl
theorem bl_get {d : ByteArray} {i : Nat} (hi : i < d.size) : (bl d)[i]? = some (at8 d i) := by
  have hi' : i < d.data.size := hi
  unfold bl at8
  rw [List.getElem?_map, Array.getElem?_toList, Array.getElem?_eq_getElem hi']
  have e : d.data.getD i 0 = d.data[i] := by unfold Array.getD; rw [dif_pos hi']; rfl
  rw [e]; rfl
def pvn (d : ByteArray) (i : Nat) : Int := pv ((bl d).take i)
theorem pvn_step {d : ByteArray} {i : Nat} (hi : i < d.size) : pvn d (i + 1) = pvn d i * 10 + (at8 d i - 48) := by
  unfold pvn
  rw [List.take_add_one, bl_get hi]
  exact pv_snoc _ _
theorem pvn_out {d : ByteArray} {i j : Nat} (hi : d.size ≤ i) (hj : d.size ≤ j) : pvn d i = pvn d j := by
  unfold pvn
  rw [List.take_of_length_le (by rw [bl_len]; exact hi), List.take_of_length_le (by rw [bl_len]; exact hj)]
theorem pvn_all {d : ByteArray} {i : Nat} (hi : d.size ≤ i) : pvn d i = pv (bl d) := by
  unfold pvn; rw [List.take_of_length_le (by rw [bl_len]; exact hi)]
theorem pvn_zero (d : ByteArray) : pvn d 0 = 0 := rfl
theorem pvn_range {d : ByteArray} (hd : ∀ i, i < d.size → 48 ≤ at8 d i ∧ at8 d i ≤ 57) : ∀ i, 0 ≤ pvn d i ∧ pvn d i < 10 ^ i
  | 0 => by rw [pvn_zero]; simp
  | i + 1 => by
    have ih := pvn_range hd i
    have hp : (10 : Int) ^ (i + 1) = 10 ^ i * 10 := Int.pow_succ ..
    by_cases hi : i < d.size
    · rw [pvn_step hi, hp]
      have := hd i hi
      omega
    · rw [pvn_out (j := i) (by omega) (by omega), hp]
      omega
/-- A group of digits. -/
structure PartInv (d : ByteArray) (i k : Nat) (p c : Int) : Prop where
  le : i ≤ k
  le9 : k ≤ i + 9
  les : k ≤ d.size
  c_ : c = 10 ^ (k - i)
  p0 : 0 ≤ p
  p1 : p < c
  eq : pvn d k = pvn d i * c + p
theorem PartInv.start {d : ByteArray} {i : Nat} (hi : i ≤ d.size) : PartInv d i i 0 1 := ⟨by omega, by omega, hi, by simp, by omega, by omega, by omega⟩
theorem PartInv.step {d : ByteArray} {i k : Nat} {p c : Int} (hd : 48 ≤ at8 d k ∧ at8 d k ≤ 57) (h : PartInv d i k p c) (hk : k < d.size) (h9 : k < i + 9) : PartInv d i (k + 1) (p * 10 + (at8 d k - 48)) (c * 10) := by
  obtain ⟨h1, h2, h3, h4, h5, h6, h7⟩ := h
  refine ⟨by omega, by omega, by omega, ?_, by omega, by omega, ?_⟩
  · rw [show k + 1 - i = (k - i) + 1 by omega, Int.pow_succ, h4]
  · rw [pvn_step hk, h7, Int.add_mul, Int.mul_assoc]; omega
theorem PartInv.c9 {d : ByteArray} {i k : Nat} {p c : Int} (h : PartInv d i k p c) : 1 ≤ c ∧ c ≤ 1000000000 := by
  have h2 : (10 : Nat) ^ (k - i) ≤ 10 ^ 9 := Nat.pow_le_pow_right (by decide) (by have := h.le9; omega)
  have h3 : ((10 ^ (k - i) : Nat) : Int) ≤ ((10 ^ 9 : Nat) : Int) := Int.ofNat_le.2 h2
  rw [Int.natCast_pow, Int.natCast_pow] at h3
  have e : ((10 : Nat) : Int) ^ 9 = 1000000000 := rfl
  have e2 : ((10 : Nat) : Int) = 10 := rfl
  rw [e, e2, ← h.c_] at h3
  have := ten_pos (k - i)
  rw [← h.c_] at this
  omega
theorem PartInv.c8 {d : ByteArray} {i k : Nat} {p c : Int} (h : PartInv d i k p c) (h9 : k < i + 9) : c ≤ 100000000 := by
  have h2 : (10 : Nat) ^ (k - i) ≤ 10 ^ 8 := Nat.pow_le_pow_right (by decide) (by have := h.le; omega)
  have h3 : ((10 ^ (k - i) : Nat) : Int) ≤ ((10 ^ 8 : Nat) : Int) := Int.ofNat_le.2 h2
  rw [Int.natCast_pow, Int.natCast_pow] at h3
  have e : ((10 : Nat) : Int) ^ 8 = 100000000 := rfl
  have e2 : ((10 : Nat) : Int) = 10 := rfl
  rw [e, e2, ← h.c_] at h3
  exact h3
theorem ten_len {v : Int} {i : Nat} (h0 : 0 ≤ v) (h : v < 10 ^ i) : (dg v).length ≤ i := by
  refine (len_dg h0 i).2 ?_
  have h2 : (10 : Nat) ^ i ≤ 4294967296 ^ i := Nat.pow_le_pow_left (by decide) i
  have h3 : ((10 ^ i : Nat) : Int) ≤ ((4294967296 ^ i : Nat) : Int) := Int.ofNat_le.2 h2
  rw [Int.natCast_pow, Int.natCast_pow] at h3
  have e : ((10 : Nat) : Int) = 10 := rfl
  have e2 : ((4294967296 : Nat) : Int) = 4294967296 := rfl
  rw [e, e2] at h3
  omega
/-- A group is appended. -/
theorem group {d : ByteArray} {X : List Int} {i k : Nat} {p c : Int} (hX : val X = pvn d i) (h : PartInv d i k p c) (hp : 0 ≤ pvn d i) : val (dg (val (dg (val X * val [c])) + val (dg (val [p])))) = pvn d k := by
  have h1 : val [c] = c := by simp [val]
  have h2 : val [p] = p := by simp [val]
  have h3 := h.p0
  have h4 := h.c9
  have h5 : 0 ≤ pvn d i * c := Int.mul_nonneg hp (by omega)
  rw [h1, h2, hX, val_dg h5, val_dg h3, val_dg (by omega), h.eq]
def prE (ok : Bool) (z : Int) : Int := if ok = true then zE z else 3
def pZ (s : ByteArray) : Int := sg (negS s) (pv (bl (digS s)))
abbrev prR (s : ByteArray) : B := .tup [intB (gN (okS s) (pZ s)) (gL (okS s) (pZ s)), numB .i64 (prE (okS s) (pZ s))]
theorem pr_bad {s : ByteArray} (h : okS s = false) : prR s = .tup [intB false [], numB .i64 3] := by simp [prR, gN, gL, prE, h]
theorem pr_ok {s : ByteArray} (h : okS s = true) : prR s = zR (pZ s) := by simp [prR, gN, gL, prE, h]
theorem pvn_ge {d : ByteArray} (hd : ∀ i, i < d.size → 48 ≤ at8 d i ∧ at8 d i ≤ 57) (h0 : 49 ≤ at8 d 0) : ∀ i, i < d.size → (10 : Int) ^ i ≤ pvn d (i + 1)
  | 0, h => by rw [pvn_step h, pvn_zero]; simp; omega
  | i + 1, h => by
    have ih := pvn_ge hd h0 i (by omega)
    rw [pvn_step h, Int.pow_succ]
    have := hd (i + 1) h
    omega
theorem limit_tenG (k : Nat) : (4294967296 : Int) ^ k ≤ 10 ^ (10 * k) := by
  have h3 := Int.ofNat_le.2 (ten_limbs k)
  rw [Int.natCast_pow, Int.natCast_pow] at h3
  exact h3
theorem ten_mono {m n : Nat} (h : m ≤ n) : (10 : Int) ^ m ≤ 10 ^ n := by
  have h3 := Int.ofNat_le.2 (Nat.pow_le_pow_right (show 0 < 10 by decide) h)
  rw [Int.natCast_pow, Int.natCast_pow] at h3
  exact h3
theorem limit_ten : limit ≤ 10 ^ (10 * 128) := limit_tenG 128
theorem digits_big {s : ByteArray} (h : okS s = true) (hb : 1280 < (digS s).size) : limit ≤ pv (bl (digS s)) := by
  have hn : ∀ i, i < (digS s).size → 48 ≤ at8 (digS s) i ∧ at8 (digS s) i ≤ 57 := fun i hi => by
    have := dS_num (s := s) (i := i) (by rw [dS_ok h]; exact hi)
    rwa [dS_ok h] at this
  have h1 : 49 ≤ at8 (digS s) 0 := by
    simp only [okS, Bool.and_eq_true, preS, decide_eq_true_iff] at h
    have h2 := hn 0 (by omega)
    apply Classical.byContradiction
    intro hc
    refine h.1.2 ⟨by omega, fun e => ?_⟩
    have := digS_size s
    rw [e] at this hb
    have e2 : (⟨#[48]⟩ : ByteArray).size = 1 := rfl
    omega
  obtain ⟨m, hm⟩ : ∃ m, (digS s).size = m + 1 := ⟨(digS s).size - 1, by omega⟩
  have h2 := pvn_ge hn h1 m (by omega)
  rw [pvn_all (by omega)] at h2
  exact Int.le_trans limit_ten (Int.le_trans (ten_mono (show 10 * 128 ≤ m by omega)) h2)
theorem mulw_len {X : List Int} {c : Int} (oX : ok32 X) (hX : X.length ≤ 1400) (h0 : 0 ≤ c) (h1 : c < 4294967296) : (dg (val X * val [c])).length ≤ 900000000 := by
  have e : val [c] = c := by simp [val]
  rw [e]
  have v0 := val_nonneg oX
  have h := (len_dg (Int.mul_nonneg v0 h0) 1401).2 (by
    have h2 := val_lt oX
    have h3 := pow_mono hX
    have hp := pow_pos 1400
    rw [show (1401 : Nat) = 1400 + 1 from rfl, Int.pow_succ]
    generalize (4294967296 : Int) ^ 1400 = P at *
    have h4 : val X * c ≤ (P - 1) * c := Int.mul_le_mul_of_nonneg_right (by omega) h0
    have h5 : (P - 1) * c ≤ (P - 1) * 4294967296 := Int.mul_le_mul_of_nonneg_left (by omega) (by omega)
    omega)
  omega
end Go.VL

/- A small program logic over the translated Go code, further part: bytes of strings. -/
set_option linter.unusedVariables false
set_option linter.unusedSimpArgs false
namespace Go.VL
section
variable {P : Program} {id : Nat} {s : Slots} {E : Env} {x ix : Operand} {T : TypeId} {k : IntKind} {str : ByteArray}
theorem Eff.indexSN {q : Nat} (h : ev s x = some (.b (.lit (.string str)))) (hi : ev s ix = some (vI k (q : Int))) (hu : P.underlying T = some .string) (h1 : q < str.size) : Eff P id s E (.index T x ix) (some (vI .u8 (at8 str q))) [] :=
  .index T x ix str k (q : Int) h hi hu (by omega) (by simpa using h1)
theorem Eff.indexS {j : Int} (h : ev s x = some (.b (.lit (.string str)))) (hi : ev s ix = some (vI k j)) (hu : P.underlying T = some .string) (h0 : 0 ≤ j) (h1 : j.toNat < str.size) : Eff P id s E (.index T x ix) (some (vI .u8 (at8 str j.toNat))) [] :=
  .index T x ix str k j h hi hu h0 h1
theorem Eff.strFromN {lo : Operand} {q : Nat} (h : ev s x = some (.b (.lit (.string str)))) (hl : ev s lo = some (vI k (q : Int))) (hu : P.underlying T = some .string) (h1 : q ≤ str.size) :
    Eff P id s E (.slice T x (some lo) none none) (some (.b (.lit (.string (str.extract q str.size))))) [] :=
  .strFrom T x lo str k (q : Int) h hl hu (by omega) (by omega)
theorem Eff.castB {op : Op} {us : List (Nat × Option Ent)} {t t' : Bool} (h : t = t') (he : Eff P id s E op (some (vB t)) us) : Eff P id s E op (some (vB t')) us := h ▸ he
end
end Go.VL

/- A small program logic over the translated Go code, further part: the contract of a function that is lent entries, from its code. -/
set_option linter.unusedVariables false
set_option linter.unusedSimpArgs false
namespace Go.VL
open Go.RowKit

/-- What a result variable holds at the end. -/
def resV (P : Program) (s : Slots) (E : Env) : ResultVar → Option V
  | .tmp t => s t
  | .cell t T => match s t with
    | some (.ptr i off) => match E i, aggOf P T, szOf P T with
      | some e, some true, some n => if off + n ≤ e.cells.length then some (.agg ((e.cells.drop off).take n)) else none
      | some e, some false, _ => e.cells[off]?
      | _, _, _ => none
    | _ => none
/-- Whether a row may be told by its contents from now on: none of what is left of the table writes it. -/
def freeOf (ρ : Nat → Nat) (L1 : List (Option Ent)) (l : List Nat) : Bool := l.all fun i => (List.range L1.length).all fun j => match L1[j]? with
  | some (some e) => !e.hot || !(ρ j == i)
  | _ => true
inductive ResG (P : Program) (s : Slots) (E : Env) (ρ : Nat → Nat) (L1 : List (Option Ent)) : List ResultVar → List V → Prop
  | nil : ResG P s E ρ L1 [] []
  | name (z v x zs xs) (hz : resV P s E z = some v) (hx : v = x.ren ρ) (hb : x.all.all (fun i => decide (i < L1.length)) = true) (h : ResG P s E ρ L1 zs xs) : ResG P s E ρ L1 (z :: zs) (x :: xs)
  | val (z v y zs xs) (hz : resV P s E z = some v) (hr : res E v = some y) (hn : freeOf ρ L1 v.names = true) (h : ResG P s E ρ L1 zs xs) : ResG P s E ρ L1 (z :: zs) (.b y :: xs)
inductive ResOf : List V → V → Prop
  | one (x) : ResOf [x] x
  | vals (l : List V) (ys : List B) (hl : l = ys.map .b) (h : (ys.length == 1) = false) : ResOf l (.b (.tup ys))
  | tup (l) (hl : (l.length == 1) = false) (h : l.all V.noTup = true) : ResOf l (.tup l)

section
variable {P : Program} {w0 W W1 : World} {P0 F : Nat → Prop} {E0 E E1 : Env} {pl0 pl pl1 : Plan} {N : Frm} {id : Nat} {s : Slots} {a : Act}

theorem resV_run (S : Sim w0 P0 E0 pl0 N E pl s a W) {z : ResultVar} {v : V} (h : resV P s E z = some v) :
    ∃ u : Value, (rvRun a.tmps z).run P W = .ok u W ∧ Rep W (Qf (FF w0 P0) E pl) pl v u := by
  cases z with
  | tmp t =>
    obtain ⟨u, hu, hrep⟩ := S.slots t v h
    exact ⟨u, by simp [rvRun, Array.getD_eq_getD_getElem?, hu], hrep⟩
  | cell p T =>
    simp only [resV] at h
    split at h
    · rename_i i off hp
      obtain ⟨q, hq, g, c, hpl, rfl⟩ := S.slots p _ hp
      have hq' : a.tmps.getD p undef = .pointer (some ⟨g, off, none⟩) := by simp [Array.getD_eq_getD_getElem?, hq]
      split at h
      · rename_i e n he ha hn
        split at h
        · rename_i hl
          injection h with h
          subst h
          have rd : ∀ j, j < n → ∃ (x : V) (u : Value), e.cells[off + j]? = some x ∧ W.cell? ⟨g, off + j, none⟩ = some u ∧ u.oneCell' = true ∧ RepL W (Qf (FF w0 P0) E pl) pl x u := fun j hj => by
            have hx : e.cells[off + j]? = some (e.cells[off + j]'(by omega)) := List.getElem?_eq_getElem _
            obtain ⟨u, h1, h2, h3⟩ := S.read he hpl hx
            exact ⟨_, u, hx, h1, h2, h3⟩
          let f : Nat → Value := fun j => (W.cell? ⟨g, off + j, none⟩).getD undef
          have hf1 : ∀ j, j < n → W.cell? ((⟨g, off, none⟩ : Addr).add j) = some (f j) := fun j hj => by
            obtain ⟨x, u, _, h1, _⟩ := rd j hj
            rw [add_plain]
            simp [f, h1]
          have hload := run_loadCells (P := P) W ⟨g, off, none⟩ n f hf1
          refine ⟨.agg ((List.range n).map f).toArray, ?_, ⟨_, rfl, by simp; omega, fun j x hj => ?_⟩⟩
          · simp [rvRun, hq', asAddr, loadVar, run_isAgg ha, run_sizeOf hn, hload]
          · have hjn : j < n := by
              have := (List.getElem?_eq_some_iff.1 hj).1
              simp at this; omega
            obtain ⟨y, u, h0, h1, h2, h3⟩ := rd j hjn
            have : x = y := by
              rw [List.getElem?_take_of_lt hjn, List.getElem?_drop, h0] at hj
              injection hj with hj; exact hj.symm
            subst this
            exact ⟨u, by simp [hjn, f, h1], h2, h3⟩
        · cases h
      · rename_i e he ha
        obtain ⟨u, h1, h2, h3⟩ := S.read he hpl h
        refine ⟨u, ?_, rep_of_repL h3⟩
        simp [rvRun, hq', asAddr, loadVar, run_isAgg ha, h1]
      · cases h
    · cases h

theorem freeOf_get {ρ : Nat → Nat} {L1 : List (Option Ent)} {l : List Nat} (h : freeOf ρ L1 l = true) {i : Nat} (hi : i ∈ l) {j : Nat} {e : Ent} (hj : L1[j]? = some (some e)) (hh : e.hot = true) : ρ j ≠ i := by
  have h1 := List.all_eq_true.1 (List.all_eq_true.1 h i hi) j (List.mem_range.2 (List.getElem?_eq_some_iff.1 hj).1)
  rw [hj] at h1
  simpa [hh] using h1

theorem resG_run (S : Sim w0 P0 E0 pl0 N E pl s a W) {ρ : Nat → Nat} {L1 : List (Option Ent)} {k : Nat} (hw : WeakR ρ k s E L1.length (fun _ => none) (tab L1)) : ∀ {l : List ResultVar} {xs : List V}, ResG P s E ρ L1 l xs →
    ∃ us : List Value, (l.mapM (rvRun a.tmps)).run P W = .ok us W ∧ us.length = xs.length ∧ ∀ (j : Nat) (x : V), xs[j]? = some x → ∃ u, us[j]? = some u ∧ Rep W (Qf (FF w0 P0) (tab L1) (fun i => if i < L1.length then pl (ρ i) else none)) (fun i => if i < L1.length then pl (ρ i) else none) x u := by
  intro l xs h
  have hh : ∀ b, Hot (tab L1) (fun i => if i < L1.length then pl (ρ i) else none) b → Hot E pl b := fun b hb => by
    obtain ⟨j, e, c, h1, h2, h3⟩ := hb
    obtain ⟨q1, q2, _⟩ := hw.ent j e h1
    simp only [q2, if_true] at h3
    exact ⟨ρ j, _, c, q1, h2, h3⟩
  have hQ : ∀ b, Qf (FF w0 P0) E pl b → Qf (FF w0 P0) (tab L1) (fun i => if i < L1.length then pl (ρ i) else none) b := fun b hb => ⟨hb.1, fun h => hb.2 (hh b h)⟩
  have cons : ∀ {z zs} {x : V} {xs : List V}, (∃ u : Value, (rvRun a.tmps z).run P W = .ok u W ∧ Rep W (Qf (FF w0 P0) (tab L1) (fun i => if i < L1.length then pl (ρ i) else none)) (fun i => if i < L1.length then pl (ρ i) else none) x u) →
      (∃ us : List Value, (zs.mapM (rvRun a.tmps)).run P W = .ok us W ∧ us.length = xs.length ∧ ∀ (j : Nat) (x : V), xs[j]? = some x → ∃ u, us[j]? = some u ∧ Rep W (Qf (FF w0 P0) (tab L1) (fun i => if i < L1.length then pl (ρ i) else none)) (fun i => if i < L1.length then pl (ρ i) else none) x u) →
      ∃ us : List Value, ((z :: zs).mapM (rvRun a.tmps)).run P W = .ok us W ∧ us.length = (x :: xs).length ∧ ∀ (j : Nat) (y : V), (x :: xs)[j]? = some y → ∃ u, us[j]? = some u ∧ Rep W (Qf (FF w0 P0) (tab L1) (fun i => if i < L1.length then pl (ρ i) else none)) (fun i => if i < L1.length then pl (ρ i) else none) y u := by
    rintro z zs x xs ⟨u, u1, u2⟩ ⟨us, k1, k2, k3⟩
    refine ⟨u :: us, ?_, by simp [k2], fun j y hj => ?_⟩
    · rw [List.mapM_cons, Sem.run_bind, u1, Result.andThen_ok, Sem.run_bind, k1, Result.andThen_ok]
      rfl
    · cases j with
      | zero => simp at hj; subst hj; exact ⟨u, rfl, u2⟩
      | succ j => simpa using k3 j y (by simpa using hj)
  induction h with
  | nil => exact ⟨[], by simp, rfl, fun j x hj => by simp at hj⟩
  | name z v x zs xs hz hx hb h ih =>
    refine cons ?_ ih
    obtain ⟨u, u1, u2⟩ := resV_run (P := P) S hz
    subst hx
    exact ⟨u, u1, u2.less hQ (fun i hi => by simp [show i < L1.length by simpa using List.all_eq_true.1 hb i hi])⟩
  | val z v y zs xs hz hr hn h ih =>
    refine cons ?_ ih
    obtain ⟨u, u1, u2⟩ := resV_run (P := P) S hz
    refine ⟨u, u1, rep_res S.eok hr u2 hQ (fun i hi e g c he hp hF => ⟨hF, fun hot => ?_⟩)⟩
    obtain ⟨j, e1, c1, h1, h2, h3⟩ := hot
    obtain ⟨q1, q2, _⟩ := hw.ent j e1 h1
    simp only [q2, if_true] at h3
    exact freeOf_get hn hi (tab_some.1 h1) h2 (S.eok.inj (ρ j) i _ e g c1 c q1 he h3 hp)

/-- A function whose code does what is said keeps its contract. -/
theorem VG_ofY {f : FuncId} {fn : Func} {c : Code} {xs : List V} {L0 : List Ent} {r : V} {L1 : List (Option Ent)} {X : VExit → Nat → Slots → Env → Prop} {n1 : Nat} {s1 : Slots} {E1 : Env} (hm : P.follows .mixedOrders = true) (hfn : P.funcs[f]? = some fn) (hb : fn.body = some c) (hname : (fn.name == "runtime.NumGoroutine") = false)
    (hc : codeOk (.of (xs.length + (fn.ntmps - xs.length))) c = true) (hlen : L0.length ≤ L1.length) (hnew : ((L1.drop L0.length).all fun | some e => e.hot | none => true) = true)
    (hX : ∀ e n s E, X e n s E → (match e with | .exit _ => False | _ => True) ∧ ((∃ ρ, WeakR ρ L0.length s E L1.length (fun _ => none) (tab L1) ∧ ∃ l, ResG P s E ρ L1 fn.results.toList l ∧ ResOf l r) ∨
      ∃ n1 s1 E1, Weak L0.length s E n1 s1 E1 ∧ ∃ ρ, WeakR ρ L0.length s1 E1 L1.length (fun _ => none) (tab L1) ∧ ∃ l, ResG P s1 E1 ρ L1 fn.results.toList l ∧ ResOf l r))
    (hst : (n1 = L0.length ∧ s1 = (fun t => xs[t]?) ∧ E1 = tab (L0.map some)) ∨ Weak L0.length (fun t => xs[t]?) (tab (L0.map some)) n1 s1 E1) (hbody : VCode P L0.length c n1 s1 E1 X) : VG P f xs L0 r L1 := by
  refine ⟨⟨fn, c, hfn, hb, hname⟩, hlen, fun j e hj he => ?_, fun w F pl us hsz hE hpl hargs => callsIn_wide.1 (callsIn_of_wp_marks (n := 0) hfn hb trivial ?_)⟩
  · have := List.all_eq_true.1 hnew (some e) (by
      refine List.mem_of_getElem? (i := j - L0.length) ?_
      rw [List.getElem?_drop, show L0.length + (j - L0.length) = j by omega]
      exact he)
    exact this
  have qm : ∀ b, Qf F (tab (L0.map some)) pl b → Qf (FF w F) (tab (L0.map some)) pl b := fun b hb => ⟨.inl hb.1, hb.2⟩
  have S : Sim w F (tab (L0.map some)) pl (.of (xs.length + (fn.ntmps - xs.length))) (tab (L0.map some)) pl (fun t => xs[t]?) { tmps := us ++ Array.replicate (fn.ntmps - us.size) undef, defers := [] } w := by
    refine ⟨Kept.refl w _ _, fun k hk => .inr hk, ⟨fun i e he => ?_, hE.inj⟩, fun i p h => h, fun t x ht => ?_, Frm.At.of (by simp [hsz]), Marked.nil⟩
    · obtain ⟨g, c, cur, T, r1, r2, r3, r4, r5, r6, r7, r8⟩ := hE.ent i e he
      refine ⟨g, c, cur, T, r1, r2, fun h0 => .inl (r3 h0), r4, r5, r6, r7, fun j x hj => ?_⟩
      obtain ⟨u, hu, hu1, hr⟩ := r8 j x hj
      exact ⟨u, hu, hu1, hr.move (fun _ _ _ => rfl) (fun k hk _ => qm k hk) (fun _ _ h => h)⟩
    · obtain ⟨u, hu, hr⟩ := hargs t x ht
      have hlt : t < us.size := (Array.getElem?_eq_some_iff.1 hu).1
      exact ⟨u, by rw [Array.getElem?_append_left hlt]; exact hu, hr.move (fun _ _ _ => rfl) (fun k hk _ => qm k hk) (fun _ _ h => h)⟩
  obtain ⟨pl0', S0, hf0⟩ : ∃ pl0', Sim w F (tab (L0.map some)) pl (.of (xs.length + (fn.ntmps - xs.length))) E1 pl0' s1 { tmps := us ++ Array.replicate (fn.ntmps - us.size) undef, defers := [] } w ∧ ∀ i, n1 ≤ i → pl0' i = none := by
    rcases hst with ⟨rfl, rfl, rfl⟩ | hw
    · exact ⟨pl, S, hpl⟩
    · exact S.weak hpl hw
  refine VCode.sound RF.wide (k := L0.length) hpl hm c n1 _ _ _ _ _ w _ hbody hc S0 hf0 (fun e n s E a W pl1 he S' hf' => ?_) (.inl rfl)
  obtain ⟨h1, he⟩ := hX e n s E he
  refine Sim.out rfl S' h1 (fun W S' => ?_)
  obtain ⟨n, s, E, pl1, S', hf', ρ, hw, l, h2, h3⟩ : ∃ (n : Nat) (s : Slots) (E : Env) (pl1 : Plan), Sim w F (tab (L0.map some)) pl (.of (xs.length + (fn.ntmps - xs.length))) E pl1 s { a with defers := [] } W ∧ (∀ i, n ≤ i → pl1 i = none) ∧
      ∃ ρ, WeakR ρ L0.length s E L1.length (fun _ => none) (tab L1) ∧ ∃ l, ResG P s E ρ L1 fn.results.toList l ∧ ResOf l r := by
    rcases he with he | ⟨n1, s1, E1, hw, he⟩
    · exact ⟨n, s, E, pl1, S', hf', he⟩
    · obtain ⟨pl2, S2, hf2⟩ := S'.weak hpl hw
      exact ⟨n1, s1, E1, pl2, S2, hf2, he⟩
  obtain ⟨vs, u1, u2, u3⟩ := resG_run S' hw h2
  have S2 := S'.weakR hpl hw
  have hres : ∃ u, (results fn a.tmps).run P W = .ok u W ∧ Rep W (Qf (FF w F) (tab L1) (fun i => if i < L1.length then pl1 (ρ i) else none)) (fun i => if i < L1.length then pl1 (ρ i) else none) r u := by
    have hmm : (results fn a.tmps).run P W = .ok (if h : vs.toArray.size = 1 then vs.toArray[0] else .tuple vs.toArray) W := by
      have he : results fn a.tmps = (do let vs ← fn.results.mapM (rvRun a.tmps); pure (if h : vs.size = 1 then vs[0] else .tuple vs) : Sem Value) := by
        unfold results
        congr 1
      rw [he, Array.mapM_eq_mapM_toList]
      simp [u1]
    refine ⟨_, hmm, ?_⟩
    cases h3 with
    | one =>
      obtain ⟨v, rfl⟩ := List.length_eq_one_iff.1 u2
      obtain ⟨u, hu, hr⟩ := u3 0 r rfl
      simp at hu; subst hu
      exact hr
    | vals l ys hl hy =>
      subst hl
      have hn1 : ¬ vs.toArray.size = 1 := by simpa [u2] using hy
      rw [dif_neg hn1]
      refine RepB.tup ys vs.toArray (fun j => vs.getD j undef) (by simp [u2]) (fun j hj => ?_) (fun j x hj => ?_)
      · have : j < vs.length := by rw [u2]; simpa using hj
        simp [List.getD_eq_getElem?_getD, this]
      · obtain ⟨u, hu, hr⟩ := u3 j (.b x) (by rw [List.getElem?_map, hj]; rfl)
        have hr' : RepB W _ x u := hr
        simpa [List.getD_eq_getElem?_getD, hu] using hr'
    | tup l hl hnt =>
      have hn1 : ¬ vs.toArray.size = 1 := by simpa [u2] using hl
      rw [dif_neg hn1]
      refine ⟨vs.toArray, rfl, by simp [u2], fun j x hj => ?_⟩
      obtain ⟨u, hu, hr⟩ := u3 j x hj
      refine ⟨u, by simpa using hu, ?_⟩
      have := List.all_eq_true.1 hnt x (List.mem_of_getElem? hj)
      cases x with
      | tup l => cases this
      | b x => exact hr
      | own i n => exact hr
      | ptr i off => exact hr
      | rd l => exact hr
      | agg l => exact hr
      | fn f l => exact hr
      | win i off n => exact hr
      | cut sz l => exact hr
      | row i n c => exact hr
  obtain ⟨u, hu1, hu2⟩ := hres
  have hpost : ∃ (u' : Value) (pl' : Plan), Ending.returned u = .returned u' ∧ (∀ i p, pl i = some p → pl' i = some p) ∧ (∀ i, L1.length ≤ i → pl' i = none) ∧ Kept w W (tab (L0.map some)) pl ∧
    (∀ b, Hot (tab L1) pl' b → w.heap.size ≤ b ∨ Hot (tab (L0.map some)) pl b) ∧ EOk W (fun b => F b ∨ w.heap.size ≤ b) (tab L1) pl' ∧ Rep W (Qf (fun b => F b ∨ w.heap.size ≤ b) (tab L1) pl') pl' r u' :=
    ⟨u, _, rfl, S2.plan, (fun i hi => by simp; omega), S2.keep, S2.mine, S2.eok, hu2⟩
  exact ⟨u, hu1, hpost⟩
theorem VG_ofX {f : FuncId} {fn : Func} {c : Code} {xs : List V} {L0 : List Ent} {r : V} {L1 : List (Option Ent)} {X : VExit → Nat → Slots → Env → Prop} (hm : P.follows .mixedOrders = true) (hfn : P.funcs[f]? = some fn) (hb : fn.body = some c) (hname : (fn.name == "runtime.NumGoroutine") = false)
    (hc : codeOk (.of (xs.length + (fn.ntmps - xs.length))) c = true) (hlen : L0.length ≤ L1.length) (hnew : ((L1.drop L0.length).all fun | some e => e.hot | none => true) = true)
    (hX : ∀ e n s E, X e n s E → (match e with | .exit _ => False | _ => True) ∧ ((∃ ρ, WeakR ρ L0.length s E L1.length (fun _ => none) (tab L1) ∧ ∃ l, ResG P s E ρ L1 fn.results.toList l ∧ ResOf l r) ∨
      ∃ n1 s1 E1, Weak L0.length s E n1 s1 E1 ∧ ∃ ρ, WeakR ρ L0.length s1 E1 L1.length (fun _ => none) (tab L1) ∧ ∃ l, ResG P s1 E1 ρ L1 fn.results.toList l ∧ ResOf l r))
    (hbody : VCode P L0.length c L0.length (fun t => xs[t]?) (tab (L0.map some)) X) : VG P f xs L0 r L1 :=
  VG_ofY hm hfn hb hname hc hlen hnew hX (.inl ⟨rfl, rfl, rfl⟩) hbody
theorem VG_of {f : FuncId} {fn : Func} {c : Code} {xs : List V} {L0 : List Ent} {r : V} {L1 : List (Option Ent)} (hm : P.follows .mixedOrders = true) (hfn : P.funcs[f]? = some fn) (hb : fn.body = some c) (hname : (fn.name == "runtime.NumGoroutine") = false)
    (hc : codeOk (.of (xs.length + (fn.ntmps - xs.length))) c = true) (hlen : L0.length ≤ L1.length) (hnew : ((L1.drop L0.length).all fun | some e => e.hot | none => true) = true)
    (hbody : VCode P L0.length c L0.length (fun t => xs[t]?) (tab (L0.map some)) fun e n s E => (match e with | .exit _ => False | _ => True) ∧ ∃ ρ, WeakR ρ L0.length s E L1.length (fun _ => none) (tab L1) ∧ ∃ l, ResG P s E ρ L1 fn.results.toList l ∧ ResOf l r) : VG P f xs L0 r L1 :=
  VG_ofX hm hfn hb hname hc hlen hnew (fun e n s E h => ⟨h.1, .inl h.2⟩) hbody
end
end Go.VL

/- A small program logic over the translated Go code, further part: calls that are lent entries, in the form in which proofs take them. -/
set_option linter.unusedVariables false
set_option linter.unusedSimpArgs false
namespace Go.VL
open Go.RowKit

def rho (l : List Nat) : Nat → Nat := fun i => l.getD i 0
def AllO (p : Nat → Ent → Prop) : Nat → List (Option Ent) → Prop
  | _, [] => True
  | j, some e :: r => p j e ∧ AllO p (j + 1) r
  | j, none :: r => AllO p (j + 1) r
def AllT (p : Nat → Ent → Prop) : Nat → List Ent → Prop
  | _, [] => True
  | j, e :: r => p j e ∧ AllT p (j + 1) r
theorem AllO.get {p : Nat → Ent → Prop} : ∀ {L : List (Option Ent)} {k : Nat}, AllO p k L → ∀ j e, L[j]? = some (some e) → p (k + j) e
  | [], k, _, j, e, h => by simp at h
  | some x :: r, k, h, j, e, hj => by
    cases j with
    | zero => simp at hj; subst hj; exact h.1
    | succ j => have := AllO.get h.2 j e (by simpa using hj); rwa [show k + 1 + j = k + (j + 1) by omega] at this
  | none :: r, k, h, j, e, hj => by
    cases j with
    | zero => simp at hj
    | succ j => have := AllO.get (show AllO p (k + 1) r from h) j e (by simpa using hj); rwa [show k + 1 + j = k + (j + 1) by omega] at this
theorem AllT.get {p : Nat → Ent → Prop} : ∀ {L : List Ent} {k : Nat}, AllT p k L → ∀ j e, L[j]? = some e → p (k + j) e
  | [], k, _, j, e, h => by simp at h
  | x :: r, k, h, j, e, hj => by
    cases j with
    | zero => simp at hj; subst hj; exact h.1
    | succ j => have := AllT.get h.2 j e (by simpa using hj); rwa [show k + 1 + j = k + (j + 1) by omega] at this

section
variable {P : Program} {ops : Array Oper} {o : Oper} {r : List Oper} {n n' id : Nat} {s : Slots} {E E2 : Env} {Q : Nat → Slots → Env → Prop} {d : Nat} {v v' : V}

theorem VList.goV (h1 : runs ops s o.guard = some true) (hd : o.dst = some d) (h2 : CallG P n s E o.op v' n' E2) (hv : v' = v) (h3 : VList P ops r n' (setAt s d (some v)) E2 Q) : VList P ops (o :: r) n s E Q :=
  VList.goG h1 hd (hv ▸ h2) h3

theorem Lent.of {l nv : List Nat} {L0 : List Ent} (hk : L0.length = l.length) (hn : l.Nodup) (h : AllT (fun j e => E (rho l j) = some (e.ren (rho l)) ∧ nv.contains (rho l j) = false ∧ ∀ v ∈ e.cells, v.all1.all (fun i => decide (i < L0.length)) = true) 0 L0) : Lent E (rho l) nv L0 := by
  refine ⟨fun j e he => ?_, fun i j hi hj h => ?_⟩
  · have := h.get j e he
    rw [Nat.zero_add] at this
    exact ⟨this.1, this.2.1, fun v hv i hi => by simpa using List.all_eq_true.1 (this.2.2 v hv) i hi⟩
  · simp only [rho, List.getD_eq_getElem?_getD] at h
    rw [hk] at hi hj
    rw [List.getElem?_eq_getElem hi, List.getElem?_eq_getElem hj] at h
    exact (List.getElem_inj hn).1 h

theorem After.of {l nv : List Nat} {n : Nat} {L1 : List (Option Ent)} {k : Nat} {L2 : List (Nat × Ent)} (hk : l.length = k)
    (h : AllE (fun i e => (∃ j e0, L1[j]? = some (some e0) ∧ nm (rho l) k n j = i ∧ e = e0.ren (nm (rho l) k n)) ∨ (upds E (nv.map (cool E)) i = some e ∧ l.contains i = false)) L2) : After E (en L2) (rho l) k n nv L1 := fun i e he => by
  rcases h.get _ (lookup_mem he) with h | ⟨h1, h2⟩
  · exact .inl h
  · refine .inr ⟨h1, fun j hj e => ?_⟩
    simp only [rho, List.getD_eq_getElem?_getD] at e
    rw [List.getElem?_eq_getElem (by omega)] at e
    have : i ∈ l := by rw [← e]; exact List.getElem_mem _
    simp [this] at h2

theorem WeakR.fin {k : Nat} {L1 : List (Option Ent)} (l : List Nat) (hlen : L1.length = l.length) (hk : k ≤ L1.length) (hlow : (List.range k).all (fun i => rho l i == i) = true) (hn : l.Nodup)
    (h : AllO (fun j e => E (rho l j) = some (e.ren (rho l)) ∧ ∀ v ∈ e.cells, v.all1.all (fun i => decide (i < L1.length)) = true) 0 L1) : WeakR (rho l) k s E L1.length (fun _ => none) (tab L1) := by
  refine ⟨hk, fun i hi => by simpa using List.all_eq_true.1 hlow i (List.mem_range.2 hi), (fun t x h => by cases h), fun i e he => ?_, fun i j e e' hi hj h => ?_⟩
  · have he' := tab_some.1 he
    have := h.get i e he'
    rw [Nat.zero_add] at this
    exact ⟨this.1, (List.getElem?_eq_some_iff.1 he').1, fun v hv i hi => by simpa using List.all_eq_true.1 (this.2 v hv) i hi⟩
  · have hi' := (List.getElem?_eq_some_iff.1 (tab_some.1 hi)).1
    have hj' := (List.getElem?_eq_some_iff.1 (tab_some.1 hj)).1
    rw [hlen] at hi' hj'
    simp only [rho, List.getD_eq_getElem?_getD] at h
    rw [List.getElem?_eq_getElem hi', List.getElem?_eq_getElem hj'] at h
    exact (List.getElem_inj hn).1 h

def coolE (e : Ent) : Ent := e.cold
theorem VCode.scope {k : Nat} {b : Code} {X : VExit → Nat → Slots → Env → Prop} (h : VCode P k b n s E X) : VCode P k (.scope b) n s E X := h
theorem VCode.label {k l : Nat} {X : VExit → Nat → Slots → Env → Prop} (h : X .normal n s E) : VCode P k (.label l) n s E X := h
theorem Eff.appendNilS {y : Operand} {T el bytes : Nat} {w : V} {L : List Int} (hy : ev s y = some w) (hr : res E w = some (u32S L)) (hu : P.underlying T = some (.slice el)) (hs : szOf P el = some 1) (hb : (P.info? el).map (·.bytes) = some bytes)
    (hz : (zeroOf P el).map List.length = some 1) (hm : L.length * bytes ≤ 140737488355328 ∧ L.length ≤ maxLen) :
    Eff P id s E (.call { callee := .builtin .append, args := #[.const (.slice none 0 0), y], argTypes := #[T, T] }) (some (vS L)) [] :=
  .appendNilB _ _ _ _ _ _ _ rfl hy hr hu hs hb hz (by simpa using hm.1) (by simpa using hm.2) lits_all
theorem Eff.appendRow0 {x y : Operand} {T el i bytes : Nat} {w : V} {L : List Int} (hx : ev s x = some (.own i 0)) (he : E i = some (row [])) (hy : ev s y = some w) (hr : res E w = some (u32S L)) (hne : i ∉ w.names) (hu : P.underlying T = some (.slice el)) (hs : szOf P el = some 1)
    (hb : (P.info? el).map (·.bytes) = some bytes) (hz : zeroOf P el = some [u32B 0]) (hm : L.length * bytes ≤ 140737488355328 ∧ L.length ≤ maxLen) :
    Eff P id s E (.call { callee := .builtin .append, args := #[x, y], argTypes := #[T, T] }) (some (.own id L.length)) [(i, none), (id, some (row L))] := by
  have := Eff.append (P := P) (id := id) x y T el i 0 (row []) w (L.map u32B) bytes hx he rfl rfl rfl hy hr hne hu hs hb (by rw [hz]; rfl) (by simpa using hm.1) (by simpa using hm.2) lits_all
  rw [List.length_map, Nat.zero_add] at this
  have e : (⟨1, (row []).cells ++ (L.map u32B).map .b, true⟩ : Ent) = row L := by simp only [row, List.map_map]; rfl
  rw [e] at this
  exact this
theorem resV_cellS {t i off m : Nat} {T : TypeId} {e : Ent} (hs : s t = some (.ptr i off)) (he : E i = some e) (ha : aggOf P T = some true) (hn : szOf P T = some m) (hl : off + m ≤ e.cells.length) : resV P s E (.cell t T) = some (.agg ((e.cells.drop off).take m)) := by
  simp only [resV, hs, he, ha, hn, if_pos hl]
theorem resV_cell1 {t i off : Nat} {T : TypeId} {e : Ent} {x : V} (hs : s t = some (.ptr i off)) (he : E i = some e) (ha : aggOf P T = some false) (hx : e.cells[off]? = some x) : resV P s E (.cell t T) = some x := by
  simp only [resV, hs, he, ha, hx]
/-- What is asked at the end of a function that is lent entries. -/
def PostG (P : Program) (fn : Func) (k : Nat) (r : V) (L1 : List (Option Ent)) : VExit → Nat → Slots → Env → Prop := fun e n s E => (match e with | .exit _ => False | _ => True) ∧
  ∃ ρ, WeakR ρ k s E L1.length (fun _ => none) (tab L1) ∧ ∃ l, ResG P s E ρ L1 fn.results.toList l ∧ ResOf l r
theorem postG {fn : Func} {k : Nat} {r r' : V} {L1 L1' : List (Option Ent)} {e : VExit} {ρ : Nat → Nat} {l : List V} (he : match e with | .exit _ => False | _ => True) (hw : WeakR ρ k s E L1'.length (fun _ => none) (tab L1')) (hg : ResG P s E ρ L1' fn.results.toList l) (ho : ResOf l r') (hr : r' = r) (hL : L1' = L1) :
    PostG P fn k r L1 e n s E := by
  subst hr; subst hL
  exact ⟨he, ρ, hw, l, hg, ho⟩
theorem VGp_of {f : FuncId} {fn : Func} {c : Code} {xs : List V} {L0 : List Ent} {r : V} {L1 : List (Option Ent)} (hm : P.follows .mixedOrders = true) (hfn : P.funcs[f]? = some fn) (hb : fn.body = some c) (hname : (fn.name == "runtime.NumGoroutine") = false)
    (hc : codeOk (.of (xs.length + (fn.ntmps - xs.length))) c = true) (hlen : L0.length ≤ L1.length) (hnew : ((L1.drop L0.length).all fun | some e => e.hot | none => true) = true)
    (hbody : VCode P L0.length c L0.length (fun t => xs[t]?) (tab (L0.map some)) (PostG P fn L0.length r L1)) : VG P f xs L0 r L1 := VG_of hm hfn hb hname hc hlen hnew hbody

/-- A function that only reads is one that is lent nothing. -/
theorem VG.ofVF {f : FuncId} {args : List B} {r : B} (h : VF P f args r) : VG P f (args.map .b) [] (.b r) [] := by
  refine ⟨h.1, Nat.le_refl _, fun j e _ he => by simp at he, fun w F pl us hsz hE hpl hargs => ?_⟩
  have nohot : ∀ (pl : Plan) b, ¬ Hot (tab []) pl b := fun pl b hb => by
    obtain ⟨i, e, c, h1, _⟩ := hb
    simp [tab] at h1
  refine Calls.mono (h.2 w (Qf F (tab []) pl) us (by simpa using hsz) (fun j x hj => ?_)) ?_
  · obtain ⟨u, hu, hr⟩ := hargs j (.b x) (by rw [List.getElem?_map, hj]; rfl)
    exact ⟨u, hu, hr⟩
  · rintro e w' ⟨u, rfl, hr, hs⟩
    refine ⟨u, pl, rfl, fun _ _ h => h, hpl, ⟨hs.os, hs.tape, hs.output, hs.size, fun k hk _ => hs.block k hk⟩, fun b hb => (nohot pl b hb).elim, ⟨fun i e he => by simp [tab] at he, fun i j e e' g c c' hi => by simp [tab] at hi⟩, ?_⟩
    refine (show RepB w' _ r u from hr).move (fun _ _ _ => rfl) (fun k hk _ => ⟨?_, nohot pl k⟩)
    rcases hk with h | h
    · exact .inl h.1
    · exact .inr h
end
end Go.VL

/- A small program logic over the translated Go code, further part: its steps in a short form. -/
set_option linter.unusedVariables false
set_option linter.unusedSimpArgs false
namespace Go.VL
open Go.RowKit

/-- Arithmetic, in short. -/
theorem adI {x y : Int} (h : -9223372036854775808 ≤ x + y ∧ x + y ≤ 9223372036854775807 := by first | omega | (simp; done) | (simp; omega)) : bop .add (.int .i64 x) (.int .i64 y) = some (.int .i64 (x + y)) := bop_add_i64 h
theorem suI {x y : Int} (h : -9223372036854775808 ≤ x - y ∧ x - y ≤ 9223372036854775807 := by first | omega | (simp; done) | (simp; omega)) : bop .sub (.int .i64 x) (.int .i64 y) = some (.int .i64 (x - y)) := bop_sub_i64 h
theorem muI {x y : Int} (h : -9223372036854775808 ≤ x * y ∧ x * y ≤ 9223372036854775807 := by first | omega | (simp; done) | (simp; omega)) : bop .mul (.int .i64 x) (.int .i64 y) = some (.int .i64 (x * y)) := bop_mul_i64 h
theorem quI {x y : Int} (h0 : 0 ≤ x := by first | omega | (simp; done) | (simp; omega)) (h1 : 0 < y := by first | omega | (simp; done) | (simp; omega)) (h2 : x ≤ 9223372036854775807 := by first | omega | (simp; done) | (simp; omega)) : bop .quo (.int .i64 x) (.int .i64 y) = some (.int .i64 (x / y)) := bop_quo_i64 h0 h1 h2
theorem reI {x y : Int} (h0 : 0 ≤ x := by first | omega | (simp; done) | (simp; omega)) (h1 : 0 < y := by first | omega | (simp; done) | (simp; omega)) : bop .rem (.int .i64 x) (.int .i64 y) = some (.int .i64 (x % y)) := bop_rem_i64 h0 h1
theorem shI {x y : Int} {k' : IntKind} (h0 : 0 ≤ y := by first | omega | (simp; done) | (simp; omega)) (h1 : y ≤ 64 := by first | omega | (simp; done) | (simp; omega)) : bop .shr (.int .i64 x) (.int k' y) = some (.int .i64 (x / 2 ^ y.toNat)) := bop_shr_i64 h0 h1
theorem srI (q : Int) {x y : Int} {k' : IntKind} (h0 : 0 ≤ y := by decide) (h1 : y ≤ 64 := by decide) (hq : (2 : Int) ^ y.toNat = q := by decide) : bop .shr (.int .i64 x) (.int k' y) = some (.int .i64 (x / q)) := by subst hq; exact bop_shr_i64 h0 h1
theorem nvI {x : Int} (h : -9223372036854775808 ≤ (0 - x) ∧ (0 - x) ≤ 9223372036854775807 := by first | omega | (simp; done) | (simp; omega)) : uop .neg (.int .i64 x) = some (.int .i64 (-x)) := uop_neg_i64 h
theorem wrI {x : Int} (h : -9223372036854775808 ≤ x ∧ x ≤ 9223372036854775807 := by first | omega | (simp; done) | (simp; omega)) : IntKind.wrap .i64 x = x := wrap_i64 h
theorem adW {x y : Int} (h : 0 ≤ x + y ∧ x + y < 18446744073709551616 := by first | omega | (simp; done) | (simp; omega)) : bop .add (.int .u64 x) (.int .u64 y) = some (.int .u64 (x + y)) := bop_add_u64 h
theorem suW {x y : Int} (h : 0 ≤ x - y ∧ x - y < 18446744073709551616 := by first | omega | (simp; done) | (simp; omega)) : bop .sub (.int .u64 x) (.int .u64 y) = some (.int .u64 (x - y)) := bop_sub_u64 h
theorem muW {x y : Int} (h : 0 ≤ x * y ∧ x * y < 18446744073709551616 := by first | omega | (simp; done) | (simp; omega)) : bop .mul (.int .u64 x) (.int .u64 y) = some (.int .u64 (x * y)) := bop_mul_u64 h
theorem quW {x y : Int} (h0 : 0 ≤ x := by first | omega | (simp; done) | (simp; omega)) (h1 : 0 < y := by first | omega | (simp; done) | (simp; omega)) (h2 : x < 18446744073709551616 := by first | omega | (simp; done) | (simp; omega)) : bop .quo (.int .u64 x) (.int .u64 y) = some (.int .u64 (x / y)) := bop_quo_u64 h0 h1 h2
theorem reW {x y : Int} (h0 : 0 ≤ x := by first | omega | (simp; done) | (simp; omega)) (h1 : 0 < y := by first | omega | (simp; done) | (simp; omega)) : bop .rem (.int .u64 x) (.int .u64 y) = some (.int .u64 (x % y)) := bop_rem_u64 h0 h1
theorem shW {x y : Int} {k' : IntKind} (h0 : 0 ≤ y := by first | omega | (simp; done) | (simp; omega)) (h1 : y ≤ 64 := by first | omega | (simp; done) | (simp; omega)) : bop .shr (.int .u64 x) (.int k' y) = some (.int .u64 (x / 2 ^ y.toNat)) := bop_shr_u64 h0 h1
theorem srW (q : Int) {x y : Int} {k' : IntKind} (h0 : 0 ≤ y := by decide) (h1 : y ≤ 64 := by decide) (hq : (2 : Int) ^ y.toNat = q := by decide) : bop .shr (.int .u64 x) (.int k' y) = some (.int .u64 (x / q)) := by subst hq; exact bop_shr_u64 h0 h1
theorem nvW {x : Int} (h : 0 ≤ (0 - x) ∧ (0 - x) < 18446744073709551616 := by first | omega | (simp; done) | (simp; omega)) : uop .neg (.int .u64 x) = some (.int .u64 (-x)) := uop_neg_u64 h
theorem wrW {x : Int} (h : 0 ≤ x ∧ x < 18446744073709551616 := by first | omega | (simp; done) | (simp; omega)) : IntKind.wrap .u64 x = x := wrap_u64 h
theorem adD {x y : Int} (h : 0 ≤ x + y ∧ x + y < 4294967296 := by first | omega | (simp; done) | (simp; omega)) : bop .add (.int .u32 x) (.int .u32 y) = some (.int .u32 (x + y)) := bop_add_u32 h
theorem suD {x y : Int} (h : 0 ≤ x - y ∧ x - y < 4294967296 := by first | omega | (simp; done) | (simp; omega)) : bop .sub (.int .u32 x) (.int .u32 y) = some (.int .u32 (x - y)) := bop_sub_u32 h
theorem muD {x y : Int} (h : 0 ≤ x * y ∧ x * y < 4294967296 := by first | omega | (simp; done) | (simp; omega)) : bop .mul (.int .u32 x) (.int .u32 y) = some (.int .u32 (x * y)) := bop_mul_u32 h
theorem quD {x y : Int} (h0 : 0 ≤ x := by first | omega | (simp; done) | (simp; omega)) (h1 : 0 < y := by first | omega | (simp; done) | (simp; omega)) (h2 : x < 4294967296 := by first | omega | (simp; done) | (simp; omega)) : bop .quo (.int .u32 x) (.int .u32 y) = some (.int .u32 (x / y)) := bop_quo_u32 h0 h1 h2
theorem reD {x y : Int} (h0 : 0 ≤ x := by first | omega | (simp; done) | (simp; omega)) (h1 : 0 < y := by first | omega | (simp; done) | (simp; omega)) : bop .rem (.int .u32 x) (.int .u32 y) = some (.int .u32 (x % y)) := bop_rem_u32 h0 h1
theorem shD {x y : Int} {k' : IntKind} (h0 : 0 ≤ y := by first | omega | (simp; done) | (simp; omega)) (h1 : y ≤ 32 := by first | omega | (simp; done) | (simp; omega)) : bop .shr (.int .u32 x) (.int k' y) = some (.int .u32 (x / 2 ^ y.toNat)) := bop_shr_u32 h0 h1
theorem srD (q : Int) {x y : Int} {k' : IntKind} (h0 : 0 ≤ y := by decide) (h1 : y ≤ 32 := by decide) (hq : (2 : Int) ^ y.toNat = q := by decide) : bop .shr (.int .u32 x) (.int k' y) = some (.int .u32 (x / q)) := by subst hq; exact bop_shr_u32 h0 h1
theorem nvD {x : Int} (h : 0 ≤ (0 - x) ∧ (0 - x) < 4294967296 := by first | omega | (simp; done) | (simp; omega)) : uop .neg (.int .u32 x) = some (.int .u32 (-x)) := uop_neg_u32 h
theorem wrD {x : Int} (h : 0 ≤ x ∧ x < 4294967296 := by first | omega | (simp; done) | (simp; omega)) : IntKind.wrap .u32 x = x := wrap_u32 h
theorem adB {x y : Int} (h : 0 ≤ x + y ∧ x + y < 256 := by first | omega | (simp; done) | (simp; omega)) : bop .add (.int .u8 x) (.int .u8 y) = some (.int .u8 (x + y)) := bop_add_u8 h
theorem suB {x y : Int} (h : 0 ≤ x - y ∧ x - y < 256 := by first | omega | (simp; done) | (simp; omega)) : bop .sub (.int .u8 x) (.int .u8 y) = some (.int .u8 (x - y)) := bop_sub_u8 h
theorem muB {x y : Int} (h : 0 ≤ x * y ∧ x * y < 256 := by first | omega | (simp; done) | (simp; omega)) : bop .mul (.int .u8 x) (.int .u8 y) = some (.int .u8 (x * y)) := bop_mul_u8 h
theorem quB {x y : Int} (h0 : 0 ≤ x := by first | omega | (simp; done) | (simp; omega)) (h1 : 0 < y := by first | omega | (simp; done) | (simp; omega)) (h2 : x < 256 := by first | omega | (simp; done) | (simp; omega)) : bop .quo (.int .u8 x) (.int .u8 y) = some (.int .u8 (x / y)) := bop_quo_u8 h0 h1 h2
theorem reB {x y : Int} (h0 : 0 ≤ x := by first | omega | (simp; done) | (simp; omega)) (h1 : 0 < y := by first | omega | (simp; done) | (simp; omega)) : bop .rem (.int .u8 x) (.int .u8 y) = some (.int .u8 (x % y)) := bop_rem_u8 h0 h1
theorem shB {x y : Int} {k' : IntKind} (h0 : 0 ≤ y := by first | omega | (simp; done) | (simp; omega)) (h1 : y ≤ 8 := by first | omega | (simp; done) | (simp; omega)) : bop .shr (.int .u8 x) (.int k' y) = some (.int .u8 (x / 2 ^ y.toNat)) := bop_shr_u8 h0 h1
theorem srB (q : Int) {x y : Int} {k' : IntKind} (h0 : 0 ≤ y := by decide) (h1 : y ≤ 8 := by decide) (hq : (2 : Int) ^ y.toNat = q := by decide) : bop .shr (.int .u8 x) (.int k' y) = some (.int .u8 (x / q)) := by subst hq; exact bop_shr_u8 h0 h1
theorem nvB {x : Int} (h : 0 ≤ (0 - x) ∧ (0 - x) < 256 := by first | omega | (simp; done) | (simp; omega)) : uop .neg (.int .u8 x) = some (.int .u8 (-x)) := uop_neg_u8 h
theorem wrB {x : Int} (h : 0 ≤ x ∧ x < 256 := by first | omega | (simp; done) | (simp; omega)) : IntKind.wrap .u8 x = x := wrap_u8 h
theorem apw {a : Nat} (h : 0 + a ≤ 1000000000000) : a * 4 ≤ 140737488355328 ∧ a ≤ maxLen := by simp only [maxLen]; omega
/-- One operation that is carried out. -/
def Stp (P : Program) (ops : Array Oper) (o : Oper) (n : Nat) (s : Slots) (E : Env) (n' : Nat) (s' : Slots) (E' : Env) (ids : List Nat) : Prop :=
  runs ops s o.guard = some true ∧ ∃ v us, Eff P n s E o.op v us ∧ us.map (·.1) = ids ∧ n' = n + 1 ∧ s' = putv s o.dst (some (v.getD undefV)) ∧ E' = upds E us

section
variable {P : Program} {ops : Array Oper} {o : Oper} {r : List Oper} {n n' id : Nat} {s s' : Slots} {E E' : Env} {Q : Nat → Slots → Env → Prop} {d i : Nat} {v w u : V} {ids : List Nat}
variable {log : List (List Nat × List Nat)} {R : List (List Nat × List Nat) → Nat → Slots → Env → Prop}
theorem Vs (h : Stp P ops o n s E n' s' E' ids) (k : VList P ops r n' s' E' Q) : VList P ops (o :: r) n s E Q := by
  obtain ⟨h1, v, us, h2, h3, rfl, rfl, rfl⟩ := h
  exact .inl ⟨h1, v, us, h2, k⟩
theorem Vl (h : Stp P ops o n s E n' s' E' ids) (k : VLog P ops r n' s' E' (log ++ [(looks s o.op, ids)]) R) : VLog P ops (o :: r) n s E log R := by
  obtain ⟨h1, v, us, h2, rfl, rfl, rfl, rfl⟩ := h
  exact .inl ⟨h1, v, us, _, .inl ⟨h2, rfl⟩, k⟩
theorem Sk (h : (runs ops s o.guard, o.dst) = (some false, some d)) (k : VList P ops r (n + 1) (setAt s d (some undefV)) E Q) : VList P ops (o :: r) n s E Q := by
  injection h with h1 hd
  exact VList.skip h1 hd rfl k
theorem Lk (h : (runs ops s o.guard, o.dst) = (some false, some d)) (k : VLog P ops r (n + 1) (setAt s d (some undefV)) E (log ++ [([], [])]) R) : VLog P ops (o :: r) n s E log R := by
  injection h with h1 hd
  exact VLog.skip h1 hd rfl k
theorem st0 (a : runs ops s o.guard = some true) (b : o.dst = some d) (c : Eff P n s E o.op (some v) []) : Stp P ops o n s E (n + 1) (setAt s d (some v)) E [] :=
  ⟨a, _, _, c, rfl, rfl, by rw [b]; rfl, rfl⟩
theorem st1 {e : Option Ent} (a : runs ops s o.guard = some true) (b : o.dst = some d) (c : Eff P n s E o.op (some v) [(i, e)]) : Stp P ops o n s E (n + 1) (setAt s d (some v)) (setAt E i e) [i] :=
  ⟨a, _, _, c, rfl, rfl, by rw [b]; rfl, rfl⟩
theorem st2 {j : Nat} {e e' : Option Ent} (a : runs ops s o.guard = some true) (b : o.dst = some d) (c : Eff P n s E o.op (some v) [(i, e), (j, e')]) : Stp P ops o n s E (n + 1) (setAt s d (some v)) (setAt (setAt E i e) j e') [i, j] :=
  ⟨a, _, _, c, rfl, rfl, by rw [b]; rfl, rfl⟩
theorem stN {us : List (Nat × Option Ent)} (a : runs ops s o.guard = some true) (b : o.dst = some d) (c : Eff P n s E o.op (some v) us) : Stp P ops o n s E (n + 1) (setAt s d (some v)) (upds E us) (us.map (·.1)) :=
  ⟨a, _, _, c, rfl, rfl, by rw [b]; rfl, rfl⟩
theorem stS {e : Option Ent} (a : runs ops s o.guard = some true) (b : o.dst = none) (c : Eff P n s E o.op none [(i, e)]) : Stp P ops o n s E (n + 1) s (setAt E i e) [i] :=
  ⟨a, _, _, c, rfl, rfl, by rw [b]; rfl, rfl⟩

variable {x y z p ix : Operand} {T T' T2 el m off k fo sz : Nat} {ik ik' : IntKind} {t : Bool} {e : Ent} {a b c : Value} {l cs : List V} {L D : List Int} {j q : Int} {A B' : List Int}
theorem Mv (h : (runs ops s o.guard, o.dst, o.op, ev s x) = (some true, some d, .move x, some v)) : Stp P ops o n s E (n + 1) (setAt s d (some v)) E [] := by
  simp only [Prod.mk.injEq] at h; exact st0 h.1 h.2.1 (h.2.2.1 ▸ .move _ _ h.2.2.2)
theorem As (h : (runs ops s o.guard, o.dst, o.op, ev s x) = (some true, some d, .assign x, some v)) : Stp P ops o n s E (n + 1) (setAt s d (some v)) E [] := by
  simp only [Prod.mk.injEq] at h; exact st0 h.1 h.2.1 (h.2.2.1 ▸ .assign _ _ h.2.2.2)
theorem An (h : (runs ops s o.guard, o.dst, o.op) = (some true, some d, .assign (.const (.slice none 0 0)))) : Stp P ops o n s E (n + 1) (setAt s d (some (.b .nil))) E [] := by
  simp only [Prod.mk.injEq] at h; exact st0 h.1 h.2.1 (h.2.2 ▸ .assignNil)
theorem Pk {c a b : Operand} (h : (runs ops s o.guard, o.dst, o.op, ev s c, ev s (if t then a else b)) = (some true, some d, .pick c a b, some (vB t), some v)) : Stp P ops o n s E (n + 1) (setAt s d (some v)) E [] := by
  simp only [Prod.mk.injEq] at h; exact st0 h.1 h.2.1 (h.2.2.1 ▸ .pick _ _ _ _ _ h.2.2.2.1 h.2.2.2.2)
theorem Al (q : Nat) {c : B} {l : List B} (hz : zeroOf P T = some (c :: l)) (h : (runs ops s o.guard, o.dst, o.op, n) = (some true, some d, .alloc T, q)) : Stp P ops o n s E (q + 1) (setAt s d (some (.ptr q 0))) (setAt E q (some ⟨(c :: l).length, (c :: l).map .b, true⟩)) [q] := by
  simp only [Prod.mk.injEq] at h; obtain ⟨h1, h2, h3, rfl⟩ := h; exact st1 h1 h2 (h3 ▸ .alloc _ _ hz (List.cons_ne_nil _ _))
theorem Bx (q : Nat) {c : V} (h : (runs ops s o.guard, o.dst, o.op, ev s x, n, v.cells, v.noTup) = (some true, some d, .box T x, some v, q, c :: cs, true)) : Stp P ops o n s E (q + 1) (setAt s d (some (.ptr q 0))) (setAt E q (some ⟨(c :: cs).length, c :: cs, true⟩)) [q] := by
  simp only [Prod.mk.injEq] at h; obtain ⟨h1, h2, h3, h4, rfl, h5, h6⟩ := h
  have := Eff.box (P := P) (id := n) (E := E) T x v h4 (by rw [h5]; exact List.cons_ne_nil _ _) h6
  rw [h5] at this
  exact st1 h1 h2 (h3 ▸ this)
theorem Ld (ha : aggOf P T = some false) (h : (runs ops s o.guard, o.dst, o.op, ev s p, E i, e.cells[off]?) = (some true, some d, .load T p, some (.ptr i off), some e, some v)) : Stp P ops o n s E (n + 1) (setAt s d (some v)) E [] := by
  simp only [Prod.mk.injEq] at h; exact st0 h.1 h.2.1 (h.2.2.1 ▸ .load1 _ _ _ _ _ _ h.2.2.2.1 h.2.2.2.2.1 ha h.2.2.2.2.2)
theorem LdS (ha : aggOf P T = some true) (hs : szOf P T = some m) (h : (runs ops s o.guard, o.dst, o.op, ev s p, E i, Nat.ble (off + m) e.cells.length, (e.cells.drop off).take m) = (some true, some d, .load T p, some (.ptr i off), some e, true, l)) : Stp P ops o n s E (n + 1) (setAt s d (some (.agg l))) E [] := by
  simp only [Prod.mk.injEq] at h; obtain ⟨h1, h2, h3, h4, h5, h6, rfl⟩ := h; exact st0 h1 h2 (h3 ▸ .loadS _ _ _ _ _ _ h4 h5 ha hs (Nat.le_of_ble_eq_true h6))
theorem Lq {l : List B} {x : B} (ha : aggOf P T = some false) (h : (runs ops s o.guard, o.dst, o.op, ev s p, l[0]?) = (some true, some d, .load T p, some (.rd l), some x)) : Stp P ops o n s E (n + 1) (setAt s d (some (.b x))) E [] := by
  simp only [Prod.mk.injEq] at h; exact st0 h.1 h.2.1 (h.2.2.1 ▸ .loadRd1 _ _ _ _ h.2.2.2.1 ha h.2.2.2.2)
theorem LqS {l l' : List B} (ha : aggOf P T = some true) (hs : szOf P T = some m) (h : (runs ops s o.guard, o.dst, o.op, ev s p, Nat.ble m l.length, l.take m) = (some true, some d, .load T p, some (.rd l), true, l')) : Stp P ops o n s E (n + 1) (setAt s d (some (.b (.agg l')))) E [] := by
  simp only [Prod.mk.injEq] at h; obtain ⟨h1, h2, h3, h4, h5, rfl⟩ := h; exact st0 h1 h2 (h3 ▸ .loadRdS _ _ _ _ h4 ha hs (Nat.le_of_ble_eq_true h5))
theorem Lr (ha : aggOf P T = some false) (h : (runs ops s o.guard, o.dst, o.op, ev s p, E i) = (some true, some d, .load T p, some (.ptr i off), some (row L))) (h1 : off < L.length := by first | omega | (simp; done) | (simp; omega)) : Stp P ops o n s E (n + 1) (setAt s d (some (vI .u32 (L.getD off 0)))) E [] := by
  simp only [Prod.mk.injEq] at h; exact st0 h.1 h.2.1 (h.2.2.1 ▸ Eff.load32 h.2.2.2.1 h.2.2.2.2 ha h1)
theorem LrK (ha : aggOf P T = some false) (h : (runs ops s o.guard, o.dst, o.op, ev s p, E i) = (some true, some d, .load T p, some (.ptr i off), some (rowK ik L))) (h1 : off < L.length := by first | omega | (simp; done) | (simp; omega)) : Stp P ops o n s E (n + 1) (setAt s d (some (vI ik (L.getD off 0)))) E [] := by
  simp only [Prod.mk.injEq] at h; exact st0 h.1 h.2.1 (h.2.2.1 ▸ Eff.loadK h.2.2.2.1 h.2.2.2.2 ha h1)
theorem St (hn : szOf P T = some 1) (h : (runs ops s o.guard, o.dst, o.op, ev s p, E i, e.hot, ev s x, v.cells, Nat.ble (off + 1) e.cells.length, v.noTup) = (some true, none, .store T p x, some (.ptr i off), some e, true, some v, [v], true, true)) :
    Stp P ops o n s E (n + 1) s (setAt E i (some { e with cells := e.cells.set off v })) [i] := by
  simp only [Prod.mk.injEq] at h; obtain ⟨h1, h2, h3, h4, h5, h6, h7, h8, h9, h10⟩ := h; exact stS h1 h2 (h3 ▸ .store1 _ _ _ _ _ _ _ h4 h5 h6 h7 h8 hn (Nat.le_of_ble_eq_true h9) h10)
theorem StS (hn : szOf P T = some m) (h : (runs ops s o.guard, o.dst, o.op, ev s p, E i, e.hot, ev s x, v.cells.length, Nat.ble (off + m) e.cells.length, v.noTup, e.cells.take off ++ (v.cells ++ e.cells.drop (off + m))) = (some true, none, .store T p x, some (.ptr i off), some e, true, some v, m, true, true, l)) :
    Stp P ops o n s E (n + 1) s (setAt E i (some { e with cells := l })) [i] := by
  simp only [Prod.mk.injEq] at h; obtain ⟨h1, h2, h3, h4, h5, h6, h7, rfl, h9, h10, rfl⟩ := h; exact stS h1 h2 (h3 ▸ .store _ _ _ _ _ _ _ h4 h5 h6 h7 hn (Nat.le_of_ble_eq_true h9) h10)
theorem Sr (hn : szOf P T = some 1) (h : (runs ops s o.guard, o.dst, o.op, ev s p, E i, ev s x) = (some true, none, .store T p x, some (.ptr i off), some (row L), some (vI .u32 j))) (h1 : off < L.length := by first | omega | (simp; done) | (simp; omega)) :
    Stp P ops o n s E (n + 1) s (setAt E i (some (row (L.set off j)))) [i] := by
  simp only [Prod.mk.injEq] at h; exact stS h.1 h.2.1 (h.2.2.1 ▸ Eff.store32 h.2.2.2.1 h.2.2.2.2.1 h.2.2.2.2.2 hn h1)
theorem SrK (hn : szOf P T = some 1) (h : (runs ops s o.guard, o.dst, o.op, ev s p, E i, ev s x) = (some true, none, .store T p x, some (.ptr i off), some (rowK ik L), some (vI ik j))) (h1 : off < L.length := by first | omega | (simp; done) | (simp; omega)) :
    Stp P ops o n s E (n + 1) s (setAt E i (some (rowK ik (L.set off j)))) [i] := by
  simp only [Prod.mk.injEq] at h; exact stS h.1 h.2.1 (h.2.2.1 ▸ Eff.storeK h.2.2.2.1 h.2.2.2.2.1 h.2.2.2.2.2 hn h1)
theorem Bi {op : BinOp} (h : (runs ops s o.guard, o.dst, o.op, ev s x, ev s y, bop op a b) = (some true, some d, .binOp op T x y T', some (.b (.lit a)), some (.b (.lit b)), some c)) : Stp P ops o n s E (n + 1) (setAt s d (some (.b (.lit c)))) E [] := by
  simp only [Prod.mk.injEq] at h; exact st0 h.1 h.2.1 (h.2.2.1 ▸ .bin _ _ _ _ _ _ _ _ h.2.2.2.1 h.2.2.2.2.1 h.2.2.2.2.2)
theorem Bo {op : BinOp} (h : (runs ops s o.guard, o.dst, o.op, ev s x, ev s y) = (some true, some d, .binOp op T x y T', some (.b (.lit a)), some (.b (.lit b)))) (hb : bop op a b = some c) : Stp P ops o n s E (n + 1) (setAt s d (some (.b (.lit c)))) E [] := by
  simp only [Prod.mk.injEq] at h; exact st0 h.1 h.2.1 (h.2.2.1 ▸ .bin _ _ _ _ _ _ _ _ h.2.2.2.1 h.2.2.2.2 hb)
theorem Bb {op : BinOp} (hu : P.underlying T = some .bool) (h : (runs ops s o.guard, o.dst, o.op, ev s x, ev s y, bopBool op a b) = (some true, some d, .binOp op T x y T', some (.b (.lit a)), some (.b (.lit b)), some c)) : Stp P ops o n s E (n + 1) (setAt s d (some (.b (.lit c)))) E [] := by
  simp only [Prod.mk.injEq] at h; exact st0 h.1 h.2.1 (h.2.2.1 ▸ .binB _ _ _ _ _ _ _ _ h.2.2.2.1 h.2.2.2.2.1 hu h.2.2.2.2.2)
theorem Ni (hu : P.underlying T = some (.slice el)) (h : (runs ops s o.guard, o.dst, o.op, ev s x, v.isNil) = (some true, some d, .binOp .eql T x (.const (.slice none 0 0)) T', some v, some t)) : Stp P ops o n s E (n + 1) (setAt s d (some (vB t))) E [] := by
  simp only [Prod.mk.injEq] at h; exact st0 h.1 h.2.1 (h.2.2.1 ▸ .isNil _ _ _ _ _ _ _ h.2.2.2.1 rfl hu h.2.2.2.2)
theorem Nn (hu : P.underlying T = some (.slice el)) (h : (runs ops s o.guard, o.dst, o.op, ev s x, v.isNil) = (some true, some d, .binOp .neq T x (.const (.slice none 0 0)) T', some v, some t)) : Stp P ops o n s E (n + 1) (setAt s d (some (vB (!t)))) E [] := by
  simp only [Prod.mk.injEq] at h; exact st0 h.1 h.2.1 (h.2.2.1 ▸ .notNil _ _ _ _ _ _ _ h.2.2.2.1 rfl hu h.2.2.2.2)
theorem Un {op : UnOp} (h : (runs ops s o.guard, o.dst, o.op, ev s x, uop op a) = (some true, some d, .unOp op T x, some (.b (.lit a)), some c)) : Stp P ops o n s E (n + 1) (setAt s d (some (.b (.lit c)))) E [] := by
  simp only [Prod.mk.injEq] at h; exact st0 h.1 h.2.1 (h.2.2.1 ▸ .un _ _ _ _ _ h.2.2.2.1 h.2.2.2.2)
theorem Uo {op : UnOp} (h : (runs ops s o.guard, o.dst, o.op, ev s x) = (some true, some d, .unOp op T x, some (.b (.lit a)))) (hb : uop op a = some c) : Stp P ops o n s E (n + 1) (setAt s d (some (.b (.lit c)))) E [] := by
  simp only [Prod.mk.injEq] at h; exact st0 h.1 h.2.1 (h.2.2.1 ▸ .un _ _ _ _ _ h.2.2.2 hb)
theorem Cv {u : TypeDesc} (hu : P.underlying T = some u) (hu' : P.underlying T' = some (.int ik')) (h : (runs ops s o.guard, o.dst, o.op, ev s x) = (some true, some d, .convert T T' x, some (vI ik j))) (hw : IntKind.wrap ik' j = q) : Stp P ops o n s E (n + 1) (setAt s d (some (vI ik' q))) E [] := by
  simp only [Prod.mk.injEq] at h; exact st0 h.1 h.2.1 (h.2.2.1 ▸ Eff.convW h.2.2.2 hu hu' hw)
theorem Fa {f : Bool} {k' : Nat} (hf : fieldOf P T k = some (fo, m, f)) (h : (runs ops s o.guard, o.dst, o.op, ev s p, off + fo) = (some true, some d, .fieldAddr T p k, some (.ptr i off), k')) : Stp P ops o n s E (n + 1) (setAt s d (some (.ptr i k'))) E [] := by
  simp only [Prod.mk.injEq] at h; obtain ⟨h1, h2, h3, h4, rfl⟩ := h; exact st0 h1 h2 (h3 ▸ .fieldAddr _ _ _ _ _ _ _ _ h4 hf)
theorem Fr {l l' : List B} {f : Bool} (hf : fieldOf P T k = some (fo, m, f)) (h : (runs ops s o.guard, o.dst, o.op, ev s p, Nat.ble (fo + 1) l.length, l.drop fo) = (some true, some d, .fieldAddr T p k, some (.rd l), true, l')) : Stp P ops o n s E (n + 1) (setAt s d (some (.rd l'))) E [] := by
  simp only [Prod.mk.injEq] at h; obtain ⟨h1, h2, h3, h4, h5, rfl⟩ := h; exact st0 h1 h2 (h3 ▸ .fieldRd _ _ _ _ _ _ _ h4 hf (Nat.le_of_ble_eq_true h5))
/-- A field of one cell. -/
theorem Fd (hf : fieldOf P T k = some (fo, 1, false)) (h : (runs ops s o.guard, o.dst, o.op, ev s x, v.cells[fo]?, v.noTup) = (some true, some d, .field T x k, some v, some w, true)) (hc : v.cells ≠ [v]) : Stp P ops o n s E (n + 1) (setAt s d (some w)) E [] := by
  simp only [Prod.mk.injEq] at h; exact st0 h.1 h.2.1 (h.2.2.1 ▸ .field1 _ _ _ _ _ _ h.2.2.2.1 hc hf h.2.2.2.2.1 h.2.2.2.2.2)
/-- What is known of a type of slices. -/
structure SlT (P : Program) (T el : Nat) (z : B) (bytes : Nat) : Prop where
  u : P.underlying T = some (.slice el)
  s : szOf P el = some 1
  z : zeroOf P el = some [z]
  b : (P.info? el).map (·.bytes) = some bytes
theorem Ix {z' : B} {by' : Nat} (K : SlT P T el z' by') (h : (runs ops s o.guard, o.dst, o.op, ev s x, ev s y) = (some true, some d, .indexAddr T x y, some (.b (slK ik L)), some (vI ik' j))) (h0 : 0 ≤ j := by first | omega | (simp; done) | (simp; omega)) (h1 : j < L.length := by first | omega | (simp; done) | (simp; omega)) :
    Stp P ops o n s E (n + 1) (setAt s d (some (.rd [numB ik (L.getD j.toNat 0)]))) E [] := by
  simp only [Prod.mk.injEq] at h; obtain ⟨a, b, c, e, f⟩ := h
  refine st0 a b (c ▸ ?_)
  have h2 : j.toNat < L.length := by omega
  have := Eff.indexSl (P := P) (id := n) (E := E) T x y 1 (L.map (numB ik)) ik' j el e f K.u K.s h0 (by simp; omega)
  rw [drop_one _ _ (numB ik (L.getD j.toNat 0)) (by rw [List.getElem?_map, getD_get h2]; rfl)] at this
  exact this
theorem IxN {z' : B} {by' q : Nat} (K : SlT P T el z' by') (h : (runs ops s o.guard, o.dst, o.op, ev s x, ev s y) = (some true, some d, .indexAddr T x y, some (.b (slK ik L)), some (vI ik' (q : Int)))) (h1 : q < L.length := by first | omega | (simp; done) | (simp; omega)) :
    Stp P ops o n s E (n + 1) (setAt s d (some (.rd [numB ik (L.getD q 0)]))) E [] := Ix K h (by omega) (by omega)
theorem Ir {z' : B} {by' : Nat} (K : SlT P T el z' by') (h : (runs ops s o.guard, o.dst, o.op, ev s x, ev s y) = (some true, some d, .indexAddr T x y, some (.own i m), some (vI ik' j))) (h0 : 0 ≤ j := by first | omega | (simp; done) | (simp; omega)) (h1 : j < m := by first | omega | (simp; done) | (simp; omega)) :
    Stp P ops o n s E (n + 1) (setAt s d (some (.ptr i j.toNat))) E [] := by
  simp only [Prod.mk.injEq] at h; exact st0 h.1 h.2.1 (h.2.2.1 ▸ Eff.indexRow h.2.2.2.1 h.2.2.2.2 K.u K.s h0 h1)
theorem IrN {z' : B} {by' q : Nat} (K : SlT P T el z' by') (h : (runs ops s o.guard, o.dst, o.op, ev s x, ev s y) = (some true, some d, .indexAddr T x y, some (.own i m), some (vI ik' (q : Int)))) (h1 : q < m := by first | omega | (simp; done) | (simp; omega)) :
    Stp P ops o n s E (n + 1) (setAt s d (some (.ptr i q))) E [] := Ir K h (by omega) (by omega)
/-- Structs in a row that is written down. -/
theorem IrS (hu : P.underlying T = some (.slice el)) (hs : szOf P el = some sz) (h : (runs ops s o.guard, o.dst, o.op, ev s x, ev s y, decide (0 ≤ j ∧ j < m), j.toNat * sz) = (some true, some d, .indexAddr T x y, some (.own i m), some (vI ik' j), true, k)) :
    Stp P ops o n s E (n + 1) (setAt s d (some (.ptr i k))) E [] := by
  simp only [Prod.mk.injEq] at h; obtain ⟨h1, h2, h3, h4, h5, h6, rfl⟩ := h
  have := of_decide_eq_true h6
  exact st0 h1 h2 (h3 ▸ .indexOwn _ _ _ _ _ _ _ _ _ h4 h5 hu hs this.1 this.2)
theorem IxS {l l' : List B} (hu : P.underlying T = some (.slice el)) (hs : szOf P el = some sz) (h : (runs ops s o.guard, o.dst, o.op, ev s x, ev s y, decide (0 ≤ j ∧ (j.toNat + 1) * sz ≤ l.length), (l.drop (j.toNat * sz)).take sz) = (some true, some d, .indexAddr T x y, some (.b (.sl sz l)), some (vI ik' j), true, l')) :
    Stp P ops o n s E (n + 1) (setAt s d (some (.rd l'))) E [] := by
  simp only [Prod.mk.injEq] at h; obtain ⟨h1, h2, h3, h4, h5, h6, rfl⟩ := h
  have := of_decide_eq_true h6
  exact st0 h1 h2 (h3 ▸ .indexSl _ _ _ _ _ _ _ _ h4 h5 hu hs this.1 this.2)
theorem Ls {z' : B} {by' : Nat} (K : SlT P T el z' by') (h : (runs ops s o.guard, o.dst, o.op, ev s x) = (some true, some d, .call { callee := .builtin .len, args := #[x], argTypes := #[T] }, some (.b (slK ik L)))) : Stp P ops o n s E (n + 1) (setAt s d (some (vI .i64 L.length))) E [] := by
  simp only [Prod.mk.injEq] at h; exact st0 h.1 h.2.1 (h.2.2.1 ▸ .len _ _ _ _ _ h.2.2.2 K.u (by simp [V.len]))
theorem Lo (hu : P.underlying T = some (.slice el)) (h : (runs ops s o.guard, o.dst, o.op, ev s x) = (some true, some d, .call { callee := .builtin .len, args := #[x], argTypes := #[T] }, some (.own i m))) : Stp P ops o n s E (n + 1) (setAt s d (some (vI .i64 m))) E [] := by
  simp only [Prod.mk.injEq] at h; exact st0 h.1 h.2.1 (h.2.2.1 ▸ .len _ _ _ _ _ h.2.2.2 hu rfl)
theorem Lv (hu : P.underlying T = some (.slice el)) (h : (runs ops s o.guard, o.dst, o.op, ev s x, v.len) = (some true, some d, .call { callee := .builtin .len, args := #[x], argTypes := #[T] }, some v, some m)) : Stp P ops o n s E (n + 1) (setAt s d (some (vI .i64 m))) E [] := by
  simp only [Prod.mk.injEq] at h; exact st0 h.1 h.2.1 (h.2.2.1 ▸ .len _ _ _ _ _ h.2.2.2.1 hu h.2.2.2.2)
theorem Lw (m : Nat) {l : List B} (hu : P.underlying T = some (.slice el)) (h : (runs ops s o.guard, o.dst, o.op, ev s x, l.length) = (some true, some d, .call { callee := .builtin .len, args := #[x], argTypes := #[T] }, some (.b (.sl sz l)), m * sz)) (h0 : 0 < sz := by decide) : Stp P ops o n s E (n + 1) (setAt s d (some (vI .i64 m))) E [] := by
  simp only [Prod.mk.injEq] at h; exact st0 h.1 h.2.1 (h.2.2.1 ▸ .len _ _ _ _ _ h.2.2.2.1 hu (by simp only [V.len]; rw [h.2.2.2.2, Nat.mul_div_cancel _ h0]))
theorem Lt {str : ByteArray} (hu : P.underlying T = some .string) (h : (runs ops s o.guard, o.dst, o.op, ev s x) = (some true, some d, .call { callee := .builtin .len, args := #[x], argTypes := #[T] }, some (.b (.lit (.string str))))) : Stp P ops o n s E (n + 1) (setAt s d (some (vI .i64 str.size))) E [] := by
  simp only [Prod.mk.injEq] at h; exact st0 h.1 h.2.1 (h.2.2.1 ▸ .lenStr _ _ _ h.2.2.2 hu)
theorem Mx {ts : Array TypeId} {x' y' : Int} (h : (runs ops s o.guard, o.dst, o.op, ev s x, ev s y) = (some true, some d, .call { callee := .builtin .max, args := #[x, y], argTypes := ts }, some (vI ik x'), some (vI ik y'))) : Stp P ops o n s E (n + 1) (setAt s d (some (vI ik (if y' > x' then y' else x')))) E [] := by
  simp only [Prod.mk.injEq] at h; exact st0 h.1 h.2.1 (h.2.2.1 ▸ .max _ _ _ _ _ _ h.2.2.2.1 h.2.2.2.2)
theorem Mi {ts : Array TypeId} {x' y' : Int} (h : (runs ops s o.guard, o.dst, o.op, ev s x, ev s y) = (some true, some d, .call { callee := .builtin .min, args := #[x, y], argTypes := ts }, some (vI ik x'), some (vI ik y'))) : Stp P ops o n s E (n + 1) (setAt s d (some (vI ik (if y' < x' then y' else x')))) E [] := by
  simp only [Prod.mk.injEq] at h; exact st0 h.1 h.2.1 (h.2.2.1 ▸ .min _ _ _ _ _ _ h.2.2.2.1 h.2.2.2.2)
theorem Xt {l : List B} {y : B} (h : (runs ops s o.guard, o.dst, o.op, ev s x, l[k]?) = (some true, some d, .extract x k, some (.b (.tup l)), some y)) : Stp P ops o n s E (n + 1) (setAt s d (some (.b y))) E [] := by
  simp only [Prod.mk.injEq] at h; exact st0 h.1 h.2.1 (h.2.2.1 ▸ .extract _ _ _ _ h.2.2.2.1 h.2.2.2.2)
theorem Xv (h : (runs ops s o.guard, o.dst, o.op, ev s x, l[k]?) = (some true, some d, .extract x k, some (.tup l), some w)) : Stp P ops o n s E (n + 1) (setAt s d (some w)) E [] := by
  simp only [Prod.mk.injEq] at h; exact st0 h.1 h.2.1 (h.2.2.1 ▸ .extractV _ _ _ _ h.2.2.2.1 h.2.2.2.2)
theorem Mf {f : FuncId} {caps : Array Operand} (h : (runs ops s o.guard, o.dst, o.op, evs s caps.toList, l.all V.leaf) = (some true, some d, .makeFunc (.func f) #[] caps, some l, true)) : Stp P ops o n s E (n + 1) (setAt s d (some (.fn f l))) E [] := by
  simp only [Prod.mk.injEq] at h; exact st0 h.1 h.2.1 (h.2.2.1 ▸ .makeFunc _ _ _ h.2.2.2.1 h.2.2.2.2)
theorem Mk (q : Nat) {by' : Nat} (K : SlT P T el (numB ik' 0) by') (h : (runs ops s o.guard, o.dst, o.op, ev s x, n, Nat.ble by' 8) = (some true, some d, .makeSlice T x x, some (vI ik j), q, true)) (h0 : 0 ≤ j := by first | omega | (simp; done) | (simp; omega)) (h1 : j ≤ 1000000000000 := by first | omega | (simp; done) | (simp; omega)) :
    Stp P ops o n s E (q + 1) (setAt s d (some (.own q j.toNat))) (setAt E q (some (rowK ik' (List.replicate j.toNat 0)))) [q] := by
  simp only [Prod.mk.injEq] at h; obtain ⟨a, b, c, e, rfl, f⟩ := h
  have f := Nat.le_of_ble_eq_true f
  refine st1 a b (c ▸ ?_)
  have hm : (by' : Int) * j ≤ 8 * 1000000000000 := Int.le_trans (Int.mul_le_mul_of_nonneg_right (show (by' : Int) ≤ 8 by omega) h0) (by omega)
  have := Eff.make (P := P) (id := n) (E := E) T x j el [numB ik' 0] by' ik e K.u K.z K.s K.b (by simp) h0 (by omega) (by omega)
  have e : (some ⟨[numB ik' 0].length, ((List.replicate j.toNat [numB ik' 0]).flatten).map .b, true⟩ : Option Ent) = some (rowK ik' (List.replicate j.toNat 0)) := by
    simp only [rowK, List.length_singleton, List.map_replicate]
    congr 2
    induction j.toNat with
    | zero => rfl
    | succ q ih => simp [List.replicate_succ, ih]
  rw [e] at this
  exact this
/-- Creating steps at a given number. -/
theorem sq1 (q : Nat) {e : Option Ent} (a : (n, runs ops s o.guard, o.dst) = (q, some true, some d)) (c : Eff P q s E o.op (some v) [(i, e)]) : Stp P ops o n s E (q + 1) (setAt s d (some v)) (setAt E i e) [i] := by
  simp only [Prod.mk.injEq] at a; obtain ⟨rfl, a, b⟩ := a; exact st1 a b c
theorem sqN (q : Nat) {us : List (Nat × Option Ent)} (a : (n, runs ops s o.guard, o.dst) = (q, some true, some d)) (c : Eff P q s E o.op (some v) us) : Stp P ops o n s E (q + 1) (setAt s d (some v)) (upds E us) (us.map (·.1)) := by
  simp only [Prod.mk.injEq] at a; obtain ⟨rfl, a, b⟩ := a; exact stN a b c
theorem L0s (q : Nat) {by' : Nat} (K : SlT P T el (numB ik 0) by') (h : (runs ops s o.guard, o.dst, o.op, n) = (some true, some d, .buildSlice T 0 #[], q)) :
    Stp P ops o n s E (q + 1) (setAt s d (some (.own q 0))) (setAt E q (some (rowK ik []))) [q] := by
  simp only [Prod.mk.injEq] at h; obtain ⟨h1, h2, h3, rfl⟩ := h
  exact st1 h1 h2 (h3 ▸ .buildS T 0 #[] el [] 1 [numB ik 0] [] rfl K.u K.z K.s (by simp) (by simp) rfl rfl)
theorem L1s (q : Nat) {by' : Nat} (K : SlT P T el (numB ik 0) by') (h : (runs ops s o.guard, o.dst, o.op, ev s x, n) = (some true, some d, .buildSlice T 1 #[(0, x)], some (vI ik j), q)) :
    Stp P ops o n s E (q + 1) (setAt s d (some (.own q 1))) (setAt E q (some (rowK ik [j]))) [q] := by
  simp only [Prod.mk.injEq] at h; obtain ⟨h1, h2, h3, h4, rfl⟩ := h
  exact st1 h1 h2 (h3 ▸ Eff.litsK1 h4 K.u K.z K.s)
theorem L2s (q : Nat) {by' : Nat} {j' : Int} (K : SlT P T el (numB ik 0) by') (h : (runs ops s o.guard, o.dst, o.op, ev s x, ev s y, n) = (some true, some d, .buildSlice T 2 #[(0, x), (1, y)], some (vI ik j), some (vI ik j'), q)) :
    Stp P ops o n s E (q + 1) (setAt s d (some (.own q 2))) (setAt E q (some (rowK ik [j, j']))) [q] := by
  simp only [Prod.mk.injEq] at h; obtain ⟨h1, h2, h3, h4, h5, rfl⟩ := h
  exact st1 h1 h2 (h3 ▸ .buildS T 2 #[(0, x), (1, y)] el [vI ik j, vI ik j'] 1 [numB ik 0] [vI ik j, vI ik j'] (by simp [evs, h4, h5]) K.u K.z K.s (by simp) (by simp) rfl rfl)
/-- What is known of a type of structs: the zero cells, where the fields lie. -/
structure StT (P : Program) (T : TypeId) (z : List B) (fl : List (Nat × Nat)) : Prop where
  z : zeroOf P T = some z
  p : ∃ fs, P.underlying T = some (.struct fs) ∧ fs.toList.all (fun f => (szOf P f.type).isSome) = true
  f : ∀ k q, fl[k]? = some q → places P T k = some q
theorem putParts_mono {f g : Nat → Option (Nat × Nat)} (h : ∀ k q, f k = some q → g k = some q) : ∀ {l : List (Nat × V)} {cs cs' : List V}, putParts f l cs = some cs' → putParts g l cs = some cs'
  | [], _, _, hc => hc
  | (k, v) :: r, cs, cs', hc => by
    simp only [putParts] at hc ⊢
    cases hf : f k with
    | none => rw [hf] at hc; cases hc
    | some q =>
      rw [hf] at hc; rw [h k q hf]
      obtain ⟨fo, m⟩ := q
      simp only at hc ⊢
      split at hc
      · rename_i hi; rw [if_pos hi]; exact putParts_mono h hc
      · cases hc
theorem Bd {parts : Array (Nat × Operand)} {z : List B} {fl : List (Nat × Nat)} {vs : List V} (K : StT P T z fl) (h : (runs ops s o.guard, o.dst, o.op, evs s (parts.toList.map (·.2)), putParts (fun k => fl[k]?) ((parts.toList.map (·.1)).zip vs) (z.map .b)) = (some true, some d, .build T parts, some vs, some cs)) :
    Stp P ops o n s E (n + 1) (setAt s d (some (.agg cs))) E [] := by
  simp only [Prod.mk.injEq] at h; obtain ⟨h1, h2, h3, h4, h5⟩ := h
  exact st0 h1 h2 (h3 ▸ .build _ _ _ _ _ h4 K.z K.p (putParts_mono K.f h5))
theorem Ct {hi : Operand} {z' : B} {by' : Nat} (K : SlT P T el z' by') (h : (runs ops s o.guard, o.dst, o.op, ev s x, ev s hi) = (some true, some d, .slice T x none (some hi) none, some (.b (slK ik L)), some (vI ik' j))) (h0 : 0 ≤ j := by first | omega | (simp; done) | (simp; omega)) (h1 : j ≤ L.length := by first | omega | (simp; done) | (simp; omega)) :
    Stp P ops o n s E (n + 1) (setAt s d (some (.b (slK ik (L.take j.toNat))))) E [] := by
  simp only [Prod.mk.injEq] at h; obtain ⟨a, b, c, e, f⟩ := h
  refine st0 a b (c ▸ ?_)
  have := Eff.slSl (P := P) (id := n) (E := E) T x none (some hi) 1 (L.map (numB ik)) el ik' ik' 0 j e K.u K.s (.inl ⟨rfl, rfl⟩) (.inr ⟨hi, rfl, f⟩) (by omega) h0 (by simp; omega)
  simp only [Nat.mul_one, Int.toNat_zero, List.drop_zero, ← List.map_take] at this
  exact this
theorem Tt {hi : Operand} {str : ByteArray} (hu : P.underlying T = some .string) (h : (runs ops s o.guard, o.dst, o.op, ev s x, ev s hi) = (some true, some d, .slice T x none (some hi) none, some (.b (.lit (.string str))), some (vI ik' j))) (h0 : 0 ≤ j := by first | omega | (simp; done) | (simp; omega)) (h1 : j ≤ str.size := by first | omega | (simp; done) | (simp; omega)) :
    Stp P ops o n s E (n + 1) (setAt s d (some (.b (.lit (.string (str.extract 0 j.toNat)))))) E [] := by
  simp only [Prod.mk.injEq] at h; exact st0 h.1 h.2.1 (h.2.2.1 ▸ .strTo _ _ _ _ _ _ h.2.2.2.1 h.2.2.2.2 hu h0 h1)
theorem Tf {lo : Operand} {str : ByteArray} (hu : P.underlying T = some .string) (h : (runs ops s o.guard, o.dst, o.op, ev s x, ev s lo) = (some true, some d, .slice T x (some lo) none none, some (.b (.lit (.string str))), some (vI ik' j))) (h0 : 0 ≤ j := by first | omega | (simp; done) | (simp; omega)) (h1 : j ≤ str.size := by first | omega | (simp; done) | (simp; omega)) :
    Stp P ops o n s E (n + 1) (setAt s d (some (.b (.lit (.string (str.extract j.toNat str.size)))))) E [] := by
  simp only [Prod.mk.injEq] at h; exact st0 h.1 h.2.1 (h.2.2.1 ▸ .strFrom _ _ _ _ _ _ h.2.2.2.1 h.2.2.2.2 hu h0 h1)
theorem TfN {lo : Operand} {str : ByteArray} {q : Nat} (hu : P.underlying T = some .string) (h : (runs ops s o.guard, o.dst, o.op, ev s x, ev s lo) = (some true, some d, .slice T x (some lo) none none, some (.b (.lit (.string str))), some (vI ik' (q : Int)))) (h1 : q ≤ str.size := by first | omega | (simp; done) | (simp; omega)) :
    Stp P ops o n s E (n + 1) (setAt s d (some (.b (.lit (.string (str.extract q str.size)))))) E [] := by
  simp only [Prod.mk.injEq] at h; exact st0 h.1 h.2.1 (h.2.2.1 ▸ Eff.strFromN h.2.2.2.1 h.2.2.2.2 hu h1)
theorem Ti {str : ByteArray} {z : Int} (hu : P.underlying T = some .string) (h : (runs ops s o.guard, o.dst, o.op, ev s x, ev s y) = (some true, some d, .index T x y, some (.b (.lit (.string str))), some (vI ik' j))) (hv : ((str.data.getD j.toNat 0).toNat : Int) = z) (h0 : 0 ≤ j := by first | omega | (simp; done) | (simp; omega)) (h1 : j.toNat < str.size := by first | omega | (simp; done) | (simp; omega)) :
    Stp P ops o n s E (n + 1) (setAt s d (some (vI .u8 z))) E [] := by
  simp only [Prod.mk.injEq] at h; exact st0 h.1 h.2.1 (h.2.2.1 ▸ Eff.indexT h.2.2.2.1 h.2.2.2.2 hu h0 h1 hv)
theorem TiN {str : ByteArray} {q : Nat} (hu : P.underlying T = some .string) (h : (runs ops s o.guard, o.dst, o.op, ev s x, ev s y) = (some true, some d, .index T x y, some (.b (.lit (.string str))), some (vI ik' (q : Int)))) (h1 : q < str.size := by first | omega | (simp; done) | (simp; omega)) :
    Stp P ops o n s E (n + 1) (setAt s d (some (vI .u8 (at8 str q)))) E [] := by
  simp only [Prod.mk.injEq] at h; exact st0 h.1 h.2.1 (h.2.2.1 ▸ Eff.indexSN h.2.2.2.1 h.2.2.2.2 hu h1)
/-- The contents of what is given. -/
theorem Rr (he : E i = some (rowK ik L)) (hl : L.length = m := by first | omega | (simp; done) | (simp; omega) | (simp [*]; done) | (simp [*]; omega)) : res E (.own i m) = some (slK ik L) := res_rowK he hl
theorem Ra {t : Bool} (he : E i = some (rowK .u32 L)) (hl : L.length = m := by first | omega | (simp; done) | (simp; omega) | (simp [*]; done) | (simp [*]; omega)) : res E (.agg [vB t, .own i m]) = some (intB t L) := res_agg he hl
theorem Cp {z' : B} {by' : Nat} (K : SlT P T el z' by') (h : (runs ops s o.guard, o.dst, o.op, ev s x, E i, ev s y) = (some true, some d, .call { callee := .builtin .copy, args := #[x, y], argTypes := #[T, T'] }, some (.own i m), some (rowK ik D), some w)) (hr : res E w = some (slK ik L)) (hl : m ≤ D.length := by first | omega | (simp; done) | (simp; omega)) :
    Stp P ops o n s E (n + 1) (setAt s d (some (vI .i64 (Nat.min L.length m)))) (setAt E i (some (rowK ik (L.take (Nat.min L.length m) ++ D.drop (Nat.min L.length m))))) [i] := by
  simp only [Prod.mk.injEq] at h; obtain ⟨h1, h2, h3, h4, h5, h6⟩ := h
  have := Eff.copy (P := P) (id := n) x y T T' el i m (rowK ik D) w (L.map (numB ik)) h4 h5 rfl rfl (by simpa [rowK] using hl) h6 hr K.u K.s lits_allK
  rw [List.length_map] at this
  have e : (some { rowK ik D with cells := ((L.map (numB ik)).take (Nat.min L.length m)).map .b ++ (rowK ik D).cells.drop (Nat.min L.length m) } : Option Ent) = some (rowK ik (L.take (Nat.min L.length m) ++ D.drop (Nat.min L.length m))) := by
    simp only [rowK, List.map_append, List.map_take, List.map_drop, List.map_map]
    rfl
  rw [e] at this
  exact st1 h1 h2 (h3 ▸ this)
theorem Ap (q : Nat) {by' : Nat} (K : SlT P T el (numB ik 0) by') (h : (runs ops s o.guard, o.dst, o.op, ev s x, E i, ev s y, n, w.names.contains i) = (some true, some d, .call { callee := .builtin .append, args := #[x, y], argTypes := #[T, T] }, some (.own i m), some (rowK ik D), some w, q, false)) (hr : res E w = some (slK ik L)) (hl : D.length = m := by first | omega | (simp; done) | (simp; omega))
    (hm : (m + L.length) * by' ≤ 140737488355328 ∧ m + L.length ≤ maxLen := by first | (simp [maxLen]; done) | (simp [maxLen]; omega) | (simp only [maxLen]; omega)) :
    Stp P ops o n s E (q + 1) (setAt s d (some (.own q (m + L.length)))) (setAt (setAt E i none) q (some (rowK ik (D ++ L)))) [i, q] := by
  simp only [Prod.mk.injEq] at h; obtain ⟨h1, h2, h3, h4, h5, h6, rfl, h7⟩ := h
  have hne : i ∉ w.names := fun hc => by simp [hc] at h7
  exact st2 h1 h2 (h3 ▸ Eff.appendK h4 h5 hl h6 hr hne K.u K.s K.b K.z hm)
theorem Ap0 (q : Nat) {by' : Nat} (K : SlT P T el (numB ik 0) by') (h : (runs ops s o.guard, o.dst, o.op, ev s x, E i, ev s y, n, w.names.contains i) = (some true, some d, .call { callee := .builtin .append, args := #[x, y], argTypes := #[T, T] }, some (.own i 0), some (rowK ik []), some w, q, false)) (hr : res E w = some (slK ik L))
    (hm : L.length * by' ≤ 140737488355328 ∧ L.length ≤ maxLen := by first | (simp [maxLen]; done) | (simp [maxLen]; omega) | (simp only [maxLen]; omega)) :
    Stp P ops o n s E (q + 1) (setAt s d (some (.own q L.length))) (setAt (setAt E i none) q (some (rowK ik L))) [i, q] := by
  have := Ap q K h hr rfl (by rw [Nat.zero_add]; exact hm)
  rwa [Nat.zero_add] at this
theorem Apn (q : Nat) {by' : Nat} (K : SlT P T el (numB ik 0) by') (h : (runs ops s o.guard, o.dst, o.op, ev s x, ev s y, n) = (some true, some d, .call { callee := .builtin .append, args := #[x, y], argTypes := #[T, T] }, some (.b .nil), some w, q)) (hr : res E w = some (slK ik L)) (h0 : L ≠ [] := by first | omega | (simp; done) | (simp; omega))
    (hm : L.length * by' ≤ 140737488355328 ∧ L.length ≤ maxLen := by first | (simp [maxLen]; done) | (simp [maxLen]; omega) | (simp only [maxLen]; omega)) :
    Stp P ops o n s E (q + 1) (setAt s d (some (.own q L.length))) (setAt E q (some (rowK ik L))) [q] := by
  simp only [Prod.mk.injEq] at h; obtain ⟨h1, h2, h3, h4, h5, rfl⟩ := h
  exact st1 h1 h2 (h3 ▸ Eff.appendNilK h4 h5 hr h0 K.u K.s K.b K.z hm)
theorem Apc {by' : Nat} (K : SlT P T el (numB ik 0) by') (h : (runs ops s o.guard, o.dst, o.op, ev s y) = (some true, some d, .call { callee := .builtin .append, args := #[.const (.slice none 0 0), y], argTypes := #[T, T] }, some w)) (hr : res E w = some (slK ik L))
    (hm : L.length * by' ≤ 140737488355328 ∧ L.length ≤ maxLen := by first | (simp [maxLen]; done) | (simp [maxLen]; omega) | (simp only [maxLen]; omega)) :
    Stp P ops o n s E (n + 1) (setAt s d (some (.b (slK ik L)))) E [] := by
  simp only [Prod.mk.injEq] at h; obtain ⟨h1, h2, h3, h4⟩ := h
  exact st0 h1 h2 (h3 ▸ .appendNilB _ _ _ _ _ _ _ rfl h4 hr K.u K.s K.b (by rw [K.z]; rfl) (by simpa using hm.1) (by simpa using hm.2) lits_allK)
theorem Ts {by' : Nat} (K : SlT P T el (numB .u8 0) by') (he : P.underlying el = some (.int .u8)) (hu : P.underlying T' = some .string) (h : (runs ops s o.guard, o.dst, o.op, ev s x, E i) = (some true, some d, .convert T T' x, some (.own i m), some (rowK .u8 L))) (h8 : ok8 L) (hl : L.length = m := by first | omega | (simp; done) | (simp; omega)) :
    Stp P ops o n s E (n + 1) (setAt s d (some (.b (.lit (.string (bytesOf L)))))) E [] := by
  simp only [Prod.mk.injEq] at h; exact st0 h.1 h.2.1 (h.2.2.1 ▸ Eff.toStrK h.2.2.2.1 h.2.2.2.2 hl h8 K.u he hu)
/-- Calls by contracts. -/
theorem Cf {f : FuncId} {args : Array Operand} {ts : Array TypeId} {vs : List V} {xs : List B} {rr : B} (h : (runs ops s o.guard, o.dst, o.op, evs s args.toList) = (some true, some d, .call { callee := .value (.func f), args := args, argTypes := ts }, some vs)) (hx : ress E vs = some xs) (hf : VF P f xs rr) (hr : rr.flat = true) :
    Stp P ops o n s E (n + 1) (setAt s d (some (.b rr))) E [] := by
  simp only [Prod.mk.injEq] at h; exact st0 h.1 h.2.1 (h.2.2.1 ▸ .callF _ _ _ _ _ _ h.2.2.2 hx hf hr)
theorem C0 {f : FuncId} {args : Array Operand} {ts : Array TypeId} {vs : List V} {xs : List B} {rr : B} (h : (runs ops s o.guard, o.dst, o.op, evs s args.toList, vs.flatMap V.names) = (some true, some d, .call { callee := .value (.func f), args := args, argTypes := ts }, some vs, [])) (hx : ress E vs = some xs) (hf : VF P f xs rr) :
    Stp P ops o n s E (n + 1) (setAt s d (some (.b rr))) E [] := by
  simp only [Prod.mk.injEq] at h; exact st0 h.1 h.2.1 (h.2.2.1 ▸ Eff.callV0 h.2.2.2.1 hx hf h.2.2.2.2)
theorem Cc {f : FuncId} {args : Array Operand} {ts : Array TypeId} {vs : List V} {xs : List B} {rr : B} (h : (runs ops s o.guard, o.dst, o.op, evs s args.toList) = (some true, some d, .call { callee := .value (.func f), args := args, argTypes := ts }, some vs)) (hx : ress E vs = some xs) (hf : VF P f xs rr) :
    Stp P ops o n s E (n + 1) (setAt s d (some (.b rr))) (upds E ((vs.flatMap V.names).map (cool E))) (((vs.flatMap V.names).map (cool E)).map (·.1)) := by
  simp only [Prod.mk.injEq] at h; exact stN h.1 h.2.1 (h.2.2.1 ▸ .callV _ _ _ _ _ _ h.2.2.2 hx hf)
theorem Cm {f : FuncId} {args : Array Operand} {rest : List Operand} {ts : Array TypeId} {vs : List V} {xs : List B} {rr : B} {L' : List Int} (h : (runs ops s o.guard, o.dst, o.op, args.toList, ev s x, E i, evs s rest, (vs.flatMap V.names).contains i) = (some true, some d, .call { callee := .value (.func f), args := args, argTypes := ts }, x :: rest, some (.own i m), some (rowK .u32 L), some vs, false))
    (hx : ress E vs = some xs) (hf : VM P f (L.map u32B) xs rr (L'.map u32B)) (hl : L.length = m := by first | omega | (simp; done) | (simp; omega) | (simp [*]; done) | (simp [*]; omega)) :
    Stp P ops o n s E (n + 1) (setAt s d (some (.b rr))) (setAt E i (some (rowK .u32 L'))) [i] := by
  simp only [Prod.mk.injEq] at h; obtain ⟨h1, h2, h3, h4, h5, h6, h7, h8⟩ := h
  have hni : i ∉ vs.flatMap V.names := fun hc => by simp [hc] at h8
  exact st1 h1 h2 (h3 ▸ Eff.callMr (L := L) (L' := L') h4 h5 h6 hl h7 hx hni hf)
theorem Cn {f : FuncId} {args : Array Operand} {ts : Array TypeId} {xs : List Value} {rr : Value} (h : (runs ops s o.guard, o.dst, o.op, evs s args.toList) = (some true, some d, .call { callee := .value (.func f), args := args, argTypes := ts }, some (xs.map fun x => .b (.lit x)))) (hf : NF P f xs rr) :
    Stp P ops o n s E (n + 1) (setAt s d (some (.b (.lit rr)))) E [] := by
  simp only [Prod.mk.injEq] at h; exact st0 h.1 h.2.1 (h.2.2.1 ▸ .callN _ _ _ _ _ h.2.2.2 hf)
/-- A boolean that is known. -/
theorem Kb {t t' : Bool} (h : t = t') (k : Stp P ops o n s E n' (setAt s d (some (vB t))) E' ids) : Stp P ops o n s E n' (setAt s d (some (vB t'))) E' ids := h ▸ k
/-- Two ways. -/
theorem Sp (d : Nat) {t : Bool} (hs : s d = some (vB t)) (h1 : t = true → VList P ops r n (setAt s d (some (vB true))) E Q) (h2 : t = false → VList P ops r n (setAt s d (some (vB false))) E Q) : VList P ops r n s E Q := VList.split t hs h1 h2
theorem Sl (d : Nat) {t : Bool} (hs : s d = some (vB t)) (h1 : t = true → VLog P ops r n (setAt s d (some (vB true))) E log R) (h2 : t = false → VLog P ops r n (setAt s d (some (vB false))) E log R) : VLog P ops r n s E log R := VLog.split t hs h1 h2
theorem Gv (q : Nat) {E2 : Env} (h : (runs ops s o.guard, o.dst) = (some true, some d)) (h2 : CallG P n s E o.op w q E2) (hv : w = v) (h3 : VList P ops r q (setAt s d (some v)) E2 Q) : VList P ops (o :: r) n s E Q := by
  injection h with h1 hd; exact VList.goV h1 hd h2 hv h3
end
section
variable {P : Program} {ops : Array Oper} {n k rid id : Nat} {s : Slots} {E : Env} {X : VExit → Nat → Slots → Env → Prop} {a b : Code} {c : Operand} {e : VExit}
theorem Rg (h : VList P ops ops.toList n s E (X .normal)) : VCode P k (.region rid ops false) n s E X := h
theorem Rd (h1 : drawOk ops = true) (h : VLog P ops ops.toList n s E [] fun log n s E => logOk (bef ops) log = true ∧ X .normal n s E) : VCode P k (.region rid ops true) n s E X := ⟨h1, h⟩
theorem Sq (h : VCode P k a n s E (Then P k b X)) : VCode P k (.seq a b) n s E X := h
theorem Nx (h : VCode P k b n s E X) : VList P ops [] n s E (Then P k b X .normal) := .inl h
theorem Nv (h : X .normal n s E) : VList P ops [] n s E (X .normal) := h
theorem Cd {t : Bool} (hc : ev s c = some (vB t)) (h1 : t = true → VCode P k a n s E X) (h2 : t = false → VCode P k b n s E X) : VCode P k (.cond c a b) n s E X := ⟨t, hc, h1, h2⟩
theorem Cy (hc : ev s c = some (vB true)) (h : VCode P k a n s E X) : VCode P k (.cond c a b) n s E X := ⟨true, hc, fun _ => h, fun h => Bool.noConfusion h⟩
theorem Cz (hc : ev s c = some (vB false)) (h : VCode P k b n s E X) : VCode P k (.cond c a b) n s E X := ⟨false, hc, fun h => Bool.noConfusion h, fun _ => h⟩
theorem Bk (h : VCode P k b n s E (InBlock id X)) : VCode P k (.block id b) n s E X := h
theorem Re (h : X .ret n s E) : VCode P k .ret n s E X := h
theorem Ks (h : X .normal n s E) : VCode P k .skip n s E X := h
theorem Ke {i : Nat} (h : X (.exit i) n s E) : VCode P k (.exit i) n s E X := h
theorem Tg (h : VCode P k b n s E X) : Then P k b X .normal n s E := .inl h
theorem Tr (h : X .ret n s E) : Then P k b X .ret n s E := h
theorem Te {i : Nat} (h : X (.exit i) n s E) : Then P k b X (.exit i) n s E := h
theorem Ig (h : X .normal n s E) : InBlock id X .normal n s E := h
theorem Iq (h : X .ret n s E) : InBlock id X .ret n s E := h
theorem Ih (h : X .normal n s E) : InBlock id X (.exit id) n s E := InBlock.here h
theorem Io {i : Nat} (h : X (.exit i) n s E) (hi : i ≠ id := by decide) : InBlock id X (.exit i) n s E := InBlock.out hi h
/-- Renaming, written down. -/
def rl (l : List (Nat × Nat)) : Nat → Nat := fun i => (l.lookup i).getD i
theorem cells_of {n1 : Nat} {e : Ent} (h : (e.cells.all fun v => v.all1.all fun i => decide (i < n1)) = true) : ∀ v ∈ e.cells, v.all1.all (fun i => decide (i < n1)) = true := List.all_eq_true.1 h
theorem rowK_ren' {ik : IntKind} {ρ : Nat → Nat} {L : List Int} : some (rowK ik L) = some ((rowK ik L).ren ρ) := by rw [rowK_ren]
theorem rowG_ren' {T : TypeId} {ρ : Nat → Nat} {L : List Int} : some (rowG T L) = some ((rowG T L).ren ρ) := by rw [rowG_ren]
/-- Less is told. -/
theorem Wk {k n1 : Nat} {S1 : List (Nat × V)} {L1 : List (Nat × Ent)}
    (h1 : AllS (fun t x => s t = some x ∧ x.all.all (fun i => decide (i < n1)) = true) S1 := by repeat' (first | exact trivial | refine ⟨⟨rfl, rfl⟩, ?_⟩))
    (h2 : AllE (fun i e => E i = some e ∧ i < n1 ∧ ∀ v ∈ e.cells, v.all1.all (fun i => decide (i < n1)) = true) L1 := by repeat' (first | exact trivial | refine ⟨⟨rfl, Nat.le_of_ble_eq_true rfl, by first | exact row_cellsK | exact row_cellsG | exact cells_of rfl⟩, ?_⟩)) (hk : k ≤ n1 := by exact Nat.le_of_ble_eq_true rfl) : Weak k s E n1 (sl S1) (en L1) := Weak.of hk h1 h2
theorem Wr {k n1 : Nat} {S1 : List (Nat × V)} {L1 : List (Nat × Ent)} (l : List (Nat × Nat))
    (hlow : (List.range k).all (fun i => rl l i == i) = true := by rfl) (hinj : (L1.map (·.1)).all (fun i => (L1.map (·.1)).all fun j => !(rl l i == rl l j) || i == j) = true := by rfl)
    (h1 : AllS (fun t x => s t = some (x.ren (rl l)) ∧ x.all.all (fun i => decide (i < n1)) = true) S1 := by repeat' (first | exact trivial | refine ⟨⟨rfl, rfl⟩, ?_⟩))
    (h2 : AllE (fun i e => E (rl l i) = some (e.ren (rl l)) ∧ i < n1 ∧ ∀ v ∈ e.cells, v.all1.all (fun i => decide (i < n1)) = true) L1 := by repeat' (first | exact trivial | refine ⟨⟨by first | exact rowK_ren' | exact rowG_ren' | rfl, Nat.le_of_ble_eq_true rfl, by first | exact row_cellsK | exact row_cellsG | exact cells_of rfl⟩, ?_⟩)) (hk : k ≤ n1 := by exact Nat.le_of_ble_eq_true rfl) : Weak k s E n1 (sl S1) (en L1) :=
  Weak.ofR (rl l) hk hlow hinj h1 h2
theorem Go {α : Type} {st : α → Nat × Slots × Env} {ok : α → Prop} {μ : α → Nat} {x : α} (y : α) (h1 : ok y) (h3 : Weak k s E (st y).1 (st y).2.1 (st y).2.2) (h2 : μ y < μ x := by first | (dsimp only; omega) | omega) : Round k st ok μ x X .normal n s E := ⟨y, h1, h2, h3⟩
theorem Or {α : Type} {st : α → Nat × Slots × Env} {ok : α → Prop} {μ : α → Nat} {x : α} (h : X .ret n s E) : Round k st ok μ x X .ret n s E := h
theorem Oe {α : Type} {st : α → Nat × Slots × Env} {ok : α → Prop} {μ : α → Nat} {x : α} {i : Nat} (h : X (.exit i) n s E) : Round k st ok μ x X (.exit i) n s E := h
theorem Jg {α : Type} {st : α → Nat × Slots × Env} {J : α → Prop} (y : α) (h1 : J y) (h3 : Weak k s E (st y).1 (st y).2.1 (st y).2.2) : Joins k st J X .normal n s E := ⟨y, h1, h3⟩
theorem Jr {α : Type} {st : α → Nat × Slots × Env} {J : α → Prop} (h : X .ret n s E) : Joins k st J X .ret n s E := h
theorem Je {α : Type} {st : α → Nat × Slots × Env} {J : α → Prop} {i : Nat} (h : X (.exit i) n s E) : Joins k st J X (.exit i) n s E := h
/-- The end. -/
theorem Fi {fn : Func} {A : Prop} {l : List B} {r : B} (h : resVars P s E fn.results.toList = some l) (hr : r = oneB l) (he : A := by trivial) : A ∧ ∃ l, resVars P s E fn.results.toList = some l ∧ r = oneB l := ⟨he, l, h, hr⟩
theorem Rc {w : ResultVar} {b : B} {vs : List ResultVar} {l : List B} (h1 : resVar P s E w = some b) (h2 : resVars P s E vs = some l) : resVars P s E (w :: vs) = some (b :: l) := resVars_cons h1 h2
theorem Rn : resVars P s E [] = some [] := rfl
theorem Rk {w : V} {b : B} {vs : List V} {l : List B} (h1 : res E w = some b) (h2 : ress E vs = some l) : ress E (w :: vs) = some (b :: l) := ress_cons h1 h2
theorem Rz : ress E [] = some [] := rfl
end
end Go.VL

/- A small program logic over the translated Go code, further part: calls that are lent entries, in a short form. -/
set_option linter.unusedVariables false
set_option linter.unusedSimpArgs false
namespace Go.VL
open Go.RowKit

section
variable {P : Program} {ops : Array Oper} {o : Oper} {r : List Oper} {n n' id : Nat} {s : Slots} {E E2 : Env} {Q : Nat → Slots → Env → Prop} {d i : Nat} {v w : V}
variable {fop : Operand} {args : Array Operand} {ts : Array TypeId} {f : FuncId} {caps vs xs : List V} {L0 : List Ent} {L1 : List (Option Ent)}
theorem upds_single (E : Env) (i : Nat) (e : Option Ent) : upds E [(i, e)] = setAt E i e := rfl
/-- A call that yields a value, and no new names. -/
theorem Gd (l nv : List Nat) {rr : B} {us : List (Nat × Option Ent)} (h : (runs ops s o.guard, o.dst, o.op, ev s fop, evs s args.toList) = (some true, some d, .call { callee := .value fop, args := args, argTypes := ts }, some (.fn f caps), some vs)) (hv : VG P f xs L0 (.b rr) L1)
    (hus : us = (List.range L0.length).map fun j => (rho l j, (tab L1 j).map (Ent.ren (nm (rho l) L0.length n))))
    (hx : Args E (rho l) L0.length nv (vs ++ caps) xs := by repeat' (first | exact Args.nil | refine Args.name _ _ _ _ rfl rfl ?_ | refine Args.val _ _ _ _ (by first | rfl | exact Rr rfl | exact Ra rfl) rfl ?_))
    (hl : Lent E (rho l) nv L0 := by refine Lent.of rfl (by decide) ?_; repeat' (first | exact trivial | refine ⟨⟨by first | exact rowK_ren' | exact rowG_ren' | rfl, rfl, by first | exact row_cellsK | exact row_cellsG | exact cells_of rfl⟩, ?_⟩))
    (hsz : L1.length = L0.length := by rfl)
    (hlk : (List.range L0.length).all (fun j => (looks s (.call { callee := .value fop, args := args, argTypes := ts })).contains (rho l j)) = true := by rfl) (hnv : nv.all (fun i => (looks s (.call { callee := .value fop, args := args, argTypes := ts })).contains i) = true := by rfl) :
    Stp P ops o n s E (n + 1) (setAt s d (some (.b rr))) (upds E (nv.map (cool E) ++ us)) ((nv.map (cool E) ++ us).map (·.1)) := by
  simp only [Prod.mk.injEq] at h; obtain ⟨h1, h2, h3, h4, h5⟩ := h
  exact stN h1 h2 (h3 ▸ .callG _ _ _ _ _ _ _ _ _ _ _ _ _ h4 h5 hx hl hv hsz hus hlk hnv)
/-- A call that may yield names. -/
theorem Gn (q : Nat) (l nv : List Nat) {rr : V} (L2 : List (Nat × Ent)) (h : (n, runs ops s o.guard, o.dst, o.op, ev s fop, evs s args.toList) = (q, some true, some d, .call { callee := .value fop, args := args, argTypes := ts }, some (.fn f caps), some vs)) (hv : VG P f xs L0 rr L1) (hr : rr.ren (nm (rho l) L0.length q) = v)
    (h3 : VList P ops r (q + (L1.length - L0.length) + 1) (setAt s d (some v)) (en L2) Q)
    (hx : Args E (rho l) L0.length nv (vs ++ caps) xs := by repeat' (first | exact Args.nil | refine Args.name _ _ _ _ rfl rfl ?_ | refine Args.val _ _ _ _ (by first | rfl | exact Rr rfl | exact Ra rfl) rfl ?_))
    (hl : Lent E (rho l) nv L0 := by refine Lent.of rfl (by decide) ?_; repeat' (first | exact trivial | refine ⟨⟨by first | exact rowK_ren' | exact rowG_ren' | rfl, rfl, by first | exact row_cellsK | exact row_cellsG | exact cells_of rfl⟩, ?_⟩))
    (ha : AllE (fun i e => (∃ j e0, L1[j]? = some (some e0) ∧ nm (rho l) L0.length q j = i ∧ e = e0.ren (nm (rho l) L0.length q)) ∨ (upds E (nv.map (cool E)) i = some e ∧ l.contains i = false)) L2 := by
      repeat' (first | exact trivial | refine ⟨.inr ⟨rfl, rfl⟩, ?_⟩ | refine ⟨.inl ⟨0, _, rfl, rfl, by first | exact rowK_ren.symm | exact rowG_ren.symm | rfl⟩, ?_⟩ | refine ⟨.inl ⟨1, _, rfl, rfl, by first | exact rowK_ren.symm | exact rowG_ren.symm | rfl⟩, ?_⟩ | refine ⟨.inl ⟨2, _, rfl, rfl, by first | exact rowK_ren.symm | exact rowG_ren.symm | rfl⟩, ?_⟩ | refine ⟨.inl ⟨3, _, rfl, rfl, by first | exact rowK_ren.symm | exact rowG_ren.symm | rfl⟩, ?_⟩ | refine ⟨.inl ⟨4, _, rfl, rfl, by first | exact rowK_ren.symm | exact rowG_ren.symm | rfl⟩, ?_⟩ | refine ⟨.inl ⟨5, _, rfl, rfl, by first | exact rowK_ren.symm | exact rowG_ren.symm | rfl⟩, ?_⟩ | refine ⟨.inl ⟨6, _, rfl, rfl, by first | exact rowK_ren.symm | exact rowG_ren.symm | rfl⟩, ?_⟩ | refine ⟨.inl ⟨7, _, rfl, rfl, by first | exact rowK_ren.symm | exact rowG_ren.symm | rfl⟩, ?_⟩))
    (hk : l.length = L0.length := by rfl) : VList P ops (o :: r) n s E Q := by
  simp only [Prod.mk.injEq] at h; obtain ⟨rfl, h1, h2, h4, h5, h6⟩ := h
  refine VList.goV h1 h2 (h4 ▸ .mk _ _ _ _ _ _ _ _ _ _ _ nv _ (en L2) h5 h6 hx hl hv (Nat.le_succ _) (After.of hk ha)) hr h3
/-- The end of a function that is lent entries. -/
theorem Gf {fn : Func} {k : Nat} {rv r' : V} {L1 L1' : List (Option Ent)} {A : Prop} {xs : List V} (l : List Nat) (hg : ResG P s E (rho l) L1' fn.results.toList xs) (ho : ResOf xs r') (hr : r' = rv) (hL : L1' = L1)
    (h : AllO (fun j e => E (rho l j) = some (e.ren (rho l)) ∧ ∀ v ∈ e.cells, v.all1.all (fun i => decide (i < L1'.length)) = true) 0 L1' := by repeat' (first | exact trivial | refine ⟨⟨by first | exact rowK_ren' | exact rowG_ren' | rfl, by first | exact row_cellsK | exact row_cellsG | exact cells_of rfl⟩, ?_⟩))
    (hlen : L1'.length = l.length := by rfl) (hk : k ≤ L1'.length := by exact Nat.le_of_ble_eq_true rfl) (hlow : (List.range k).all (fun i => rho l i == i) = true := by rfl) (hn : l.Nodup := by decide) (he : A := by trivial) :
    A ∧ ∃ ρ, WeakR ρ k s E L1.length (fun _ => none) (tab L1) ∧ ∃ l, ResG P s E ρ L1 fn.results.toList l ∧ ResOf l rv := by
  subst hr; subst hL
  exact ⟨he, rho l, WeakR.fin l hlen hk hlow hn h, xs, hg, ho⟩
end
end Go.VL

/- A small program logic over the translated Go code, further part: rows and slices of structs, of any length. -/
set_option linter.unusedVariables false
set_option linter.unusedSimpArgs false
namespace Go.VL
open Go.RowKit

/-- The cells of a list of structs. -/
def cellsT {α : Type} (f : α → List B) (L : List α) : List B := L.flatMap f
def rowT {α : Type} (sz : Nat) (f : α → List B) (L : List α) : Ent := ⟨sz, (cellsT f L).map .b, true⟩
abbrev slT {α : Type} (sz : Nat) (f : α → List B) (L : List α) : B := .sl sz (cellsT f L)
section
variable {α : Type} {sz : Nat} {f : α → List B} {L D : List α}
theorem cellsT_len (hf : ∀ x, (f x).length = sz) : ∀ L : List α, (cellsT f L).length = L.length * sz
  | [] => by simp [cellsT]
  | x :: r => by
    have := cellsT_len hf r
    simp only [cellsT, List.flatMap_cons, List.length_append, List.length_cons, hf] at this ⊢
    rw [this, Nat.succ_mul]; omega
theorem cellsT_at (hf : ∀ x, (f x).length = sz) {x : α} : ∀ {L : List α} {j : Nat}, L[j]? = some x → ((cellsT f L).drop (j * sz)).take sz = f x
  | [], j, h => by simp at h
  | y :: r, 0, h => by
    simp at h; subst h
    simp only [cellsT, List.flatMap_cons, Nat.zero_mul, List.drop_zero]
    rw [List.take_append_of_le_length (by rw [hf]; exact Nat.le_refl _), List.take_of_length_le (by rw [hf]; exact Nat.le_refl _)]
  | y :: r, j + 1, h => by
    have := cellsT_at hf (L := r) (j := j) (by simpa using h)
    simp only [cellsT, List.flatMap_cons] at this ⊢
    have h1 : (f y ++ List.flatMap f r).drop ((j + 1) * sz) = (List.flatMap f r).drop (j * sz) := by
      rw [List.drop_append, List.drop_of_length_le (by rw [hf, Nat.succ_mul]; omega), List.nil_append, hf, Nat.succ_mul, Nat.add_sub_cancel]
    rw [h1]
    exact this
theorem cellsT_append : cellsT f (L ++ D) = cellsT f L ++ cellsT f D := by simp [cellsT]
theorem rowT_cells {n1 : Nat} : ∀ v ∈ (rowT sz f L).cells, v.all1.all (fun i => decide (i < n1)) = true := fun v hv => by
  simp only [rowT, List.mem_map] at hv
  obtain ⟨x, _, rfl⟩ := hv
  rfl
theorem rowT_ren {ρ : Nat → Nat} : (rowT sz f L).ren ρ = rowT sz f L := by
  simp only [rowT, Ent.ren, List.map_map]; rfl
theorem rowT_ren' {ρ : Nat → Nat} : some (rowT sz f L) = some ((rowT sz f L).ren ρ) := by rw [rowT_ren]
theorem bs_map : ∀ l : List B, bs (l.map .b) = some l
  | [] => rfl
  | x :: r => by simp [bs, bs_map r]
variable {P : Program} {ops : Array Oper} {o : Oper} {r : List Oper} {n n' id : Nat} {s s' : Slots} {E E' : Env} {Q : Nat → Slots → Env → Prop} {d i : Nat} {v w u : V} {ids : List Nat}
variable {x y z p ix : Operand} {T T' el m off k : Nat} {ik ik' : IntKind} {e : Ent} {l cs : List V} {j q : Int}
theorem res_rowT (hf : ∀ x, (f x).length = sz) (he : E i = some (rowT sz f L)) (hl : L.length = m) : res E (.own i m) = some (slT sz f L) := by
  have hb : bs (rowT sz f L).cells = some (cellsT f L) := bs_map _
  show resL E (.own i m) = _
  simp only [resL, he, hb]
  have h1 : (rowT sz f L).sz = sz := rfl
  have h2 := cellsT_len hf L
  rw [h1, ← hl, if_pos (by rw [h2]; exact Nat.le_refl _), List.take_of_length_le (by rw [h2]; exact Nat.le_refl _)]
/-- An element's address. -/
theorem IT (hu : P.underlying T = some (.slice el)) (hs : szOf P el = some sz) (h : (runs ops s o.guard, o.dst, o.op, ev s x, ev s y) = (some true, some d, .indexAddr T x y, some (.own i m), some (vI ik' j))) (h0 : 0 ≤ j := by first | omega | (simp; done) | (simp; omega)) (h1 : j < m := by first | omega | (simp; done) | (simp; omega)) :
    Stp P ops o n s E (n + 1) (setAt s d (some (.ptr i (j.toNat * sz)))) E [] := by
  simp only [Prod.mk.injEq] at h; obtain ⟨h1', h2, h3, h4, h5⟩ := h
  exact st0 h1' h2 (h3 ▸ .indexOwn _ _ _ _ _ _ _ _ _ h4 h5 hu hs h0 h1)
/-- An element is loaded. -/
theorem LT (hf : ∀ x, (f x).length = sz) (ha : aggOf P T = some true) (hs : szOf P T = some sz) {j : Nat} {x : α} (h : (runs ops s o.guard, o.dst, o.op, ev s p, E i) = (some true, some d, .load T p, some (.ptr i (j * sz)), some (rowT sz f L))) (hj : L[j]? = some x) (hl : (f x).map .b = l) :
    Stp P ops o n s E (n + 1) (setAt s d (some (.agg l))) E [] := by
  simp only [Prod.mk.injEq] at h; obtain ⟨h1, h2, h3, h4, h5⟩ := h
  subst hl
  have hlt := (List.getElem?_eq_some_iff.1 hj).1
  have hle : j * sz + sz ≤ (rowT sz f L).cells.length := by
    simp only [rowT, List.length_map, cellsT_len hf]
    rw [← Nat.succ_mul]; exact Nat.mul_le_mul_right _ hlt
  have := Eff.loadS (P := P) (id := n) T p i (j * sz) _ sz h4 h5 ha hs hle
  have e : ((rowT sz f L).cells.drop (j * sz)).take sz = (f x).map .b := by
    simp only [rowT, ← List.map_drop, ← List.map_take, cellsT_at hf hj]
  rw [e] at this
  exact st0 h1 h2 (h3 ▸ this)
theorem L1T (hf : ∀ x, (f x).length = 1) (ha : aggOf P T = some false) {j : Nat} {x : α} {b : B} (h : (runs ops s o.guard, o.dst, o.op, ev s p, E i) = (some true, some d, .load T p, some (.ptr i (j * 1)), some (rowT 1 f L))) (hj : L[j]? = some x) (hl : f x = [b]) :
    Stp P ops o n s E (n + 1) (setAt s d (some (.b b))) E [] := by
  simp only [Prod.mk.injEq] at h; obtain ⟨h1, h2, h3, h4, h5⟩ := h
  have e := cellsT_at hf hj
  rw [hl] at e
  have h0 : (rowT 1 f L).cells[j * 1]? = some (.b b) := by
    simp only [rowT, List.getElem?_map]
    have : ((cellsT f L).drop (j * 1))[0]? = some b := by
      have h2 : (((cellsT f L).drop (j * 1)).take 1)[0]? = some b := by rw [e]; rfl
      rwa [List.getElem?_take_of_lt (by decide)] at h2
    rw [List.getElem?_drop, Nat.add_zero] at this
    rw [this]; rfl
  exact st0 h1 h2 (h3 ▸ .load1 _ _ _ _ _ _ h4 h5 ha h0)
/-- A first element. -/
theorem An1 (q : Nat) {by' : Nat} {e2 : Ent} (hu : P.underlying T = some (.slice el)) (hs : szOf P el = some sz) (hb : (P.info? el).map (·.bytes) = some by') (hz : (zeroOf P el).map List.length = some sz) {x1 : α}
    (h : (runs ops s o.guard, o.dst, o.op, ev s x, ev s y, E i, e2.cells, e2.sz, n) = (some true, some d, .call { callee := .builtin .append, args := #[x, y], argTypes := #[T, T] }, some (.b .nil), some (.own i 1), some e2, (f x1).map .b, sz, q)) (hf : ∀ x, (f x).length = sz) (hm : by' ≤ 140737488355328 := by decide) :
    Stp P ops o n s E (q + 1) (setAt s d (some (.own q 1))) (setAt E q (some (rowT sz f [x1]))) [q] := by
  simp only [Prod.mk.injEq] at h; obtain ⟨h1, h2, h3, h4, h5, h6, h7, rfl, rfl⟩ := h
  have hl : e2.cells.length = e2.sz := by rw [h7, List.length_map, hf]
  have := Eff.appendNO (P := P) (id := n) (E := E) x y T el i 1 e2 by' h4 h5 h6 (by rw [hl, Nat.one_mul]; exact Nat.le_refl _) (by decide) hu hs hb hz (by rw [Nat.one_mul]; exact hm) (by decide)
  rw [Nat.one_mul, List.take_of_length_le (by rw [hl]; exact Nat.le_refl _), h7] at this
  have e : (⟨e2.sz, (f x1).map .b, true⟩ : Ent) = rowT e2.sz f [x1] := by simp [rowT, cellsT]
  rw [e] at this
  exact st1 h1 h2 (h3 ▸ this)
/-- A further element. -/
theorem Ao1 (q : Nat) {by' i2 : Nat} {e2 : Ent} (hu : P.underlying T = some (.slice el)) (hs : szOf P el = some sz) (hb : (P.info? el).map (·.bytes) = some by') (hz : (zeroOf P el).map List.length = some sz) {x1 : α}
    (h : (runs ops s o.guard, o.dst, o.op, ev s x, E i, ev s y, E i2, e2.cells, e2.sz, Nat.beq i2 i, n) = (some true, some d, .call { callee := .builtin .append, args := #[x, y], argTypes := #[T, T] }, some (.own i m), some (rowT sz f L), some (.own i2 1), some e2, (f x1).map .b, sz, false, q)) (hf : ∀ x, (f x).length = sz)
    (hl : L.length = m := by first | omega | (simp; done) | (simp; omega)) (hm : (m + 1) * by' ≤ 140737488355328 ∧ m + 1 ≤ maxLen := by first | (simp [maxLen]; done) | (simp [maxLen]; omega) | (simp only [maxLen]; omega)) :
    Stp P ops o n s E (q + 1) (setAt s d (some (.own q (m + 1)))) (setAt (setAt E i none) q (some (rowT sz f (L ++ [x1])))) [i, q] := by
  simp only [Prod.mk.injEq] at h; obtain ⟨h1, h2, h3, h4, h5, h6, h7, h8, h9, h10, rfl⟩ := h
  have hne : i2 ≠ i := fun e => by rw [e] at h10; simp at h10
  have hl2 : e2.cells.length = sz := by rw [h8, List.length_map, hf]
  have := Eff.appendOO (P := P) (id := n) x y T el i m (rowT sz f L) i2 1 e2 by' h4 h5 rfl (by simp only [rowT, List.length_map, cellsT_len hf, hl]) h6 h7 h9 (by show 1 * sz ≤ _; rw [Nat.one_mul, hl2]; exact Nat.le_refl _) hne (by decide) hu hs hb hz hm.1 hm.2
  have e : (⟨(rowT sz f L).sz, (rowT sz f L).cells ++ e2.cells.take (1 * (rowT sz f L).sz), true⟩ : Ent) = rowT sz f (L ++ [x1]) := by
    have h11 : e2.cells.take (1 * sz) = (f x1).map .b := by rw [Nat.one_mul, List.take_of_length_le (by rw [hl2]; exact Nat.le_refl _), h8]
    show (⟨sz, (cellsT f L).map .b ++ e2.cells.take (1 * sz), true⟩ : Ent) = _
    rw [h11, rowT, cellsT_append, List.map_append]
    simp [cellsT]
  rw [e] at this
  exact st2 h1 h2 (h3 ▸ this)
/-- Slices of structs by value. -/
theorem Lst (hf : ∀ x, (f x).length = sz) (hu : P.underlying T = some (.slice el)) (h : (runs ops s o.guard, o.dst, o.op, ev s x) = (some true, some d, .call { callee := .builtin .len, args := #[x], argTypes := #[T] }, some (.b (slT sz f L)))) (h0 : 0 < sz := by decide) : Stp P ops o n s E (n + 1) (setAt s d (some (vI .i64 L.length))) E [] := by
  simp only [Prod.mk.injEq] at h; exact st0 h.1 h.2.1 (h.2.2.1 ▸ .len _ _ _ _ _ h.2.2.2 hu (by simp only [V.len, cellsT_len hf, Nat.mul_div_cancel _ h0]))
theorem IxT (hf : ∀ x, (f x).length = sz) (hu : P.underlying T = some (.slice el)) (hs : szOf P el = some sz) {xx : α} {l : List B} (h : (runs ops s o.guard, o.dst, o.op, ev s x, ev s y) = (some true, some d, .indexAddr T x y, some (.b (slT sz f L)), some (vI ik' j))) (h0 : 0 ≤ j) (hj : L[j.toNat]? = some xx) (hl : f xx = l) :
    Stp P ops o n s E (n + 1) (setAt s d (some (.rd l))) E [] := by
  simp only [Prod.mk.injEq] at h; obtain ⟨h1, h2, h3, h4, h5⟩ := h
  subst hl
  have hlt := (List.getElem?_eq_some_iff.1 hj).1
  have := Eff.indexSl (P := P) (id := n) (E := E) T x y sz (cellsT f L) ik' j el h4 h5 hu hs h0 (by rw [cellsT_len hf]; exact Nat.mul_le_mul_right _ hlt)
  rw [cellsT_at hf hj] at this
  exact st0 h1 h2 (h3 ▸ this)
end
/-- Less is told, with rows of structs. -/
theorem Wt {k n1 : Nat} {s : Slots} {E : Env} {S1 : List (Nat × V)} {L1 : List (Nat × Ent)} (l : List (Nat × Nat))
    (hlow : (List.range k).all (fun i => rl l i == i) = true := by rfl) (hinj : (L1.map (·.1)).all (fun i => (L1.map (·.1)).all fun j => !(rl l i == rl l j) || i == j) = true := by rfl)
    (h1 : AllS (fun t x => s t = some (x.ren (rl l)) ∧ x.all.all (fun i => decide (i < n1)) = true) S1 := by repeat' (first | exact trivial | refine ⟨⟨rfl, rfl⟩, ?_⟩))
    (h2 : AllE (fun i e => E (rl l i) = some (e.ren (rl l)) ∧ i < n1 ∧ ∀ v ∈ e.cells, v.all1.all (fun i => decide (i < n1)) = true) L1 := by repeat' (first | exact trivial | refine ⟨⟨by first | exact rowK_ren' | exact rowG_ren' | exact rowT_ren' | rfl, Nat.le_of_ble_eq_true rfl, by first | exact row_cellsK | exact row_cellsG | exact rowT_cells | exact cells_of rfl⟩, ?_⟩)) (hk : k ≤ n1 := by exact Nat.le_of_ble_eq_true rfl) : Weak k s E n1 (sl S1) (en L1) :=
  Weak.ofR (rl l) hk hlow hinj h1 h2
theorem gd {α : Type} {L : List α} {j : Nat} {d : α} (h : j < L.length) : L[j]? = some (L.getD j d) := by simp [List.getD_eq_getElem?_getD, h]
end Go.VL

/- From contracts by value to the given statements: opening arguments of any type of numbers, texts, slices and structs. -/
set_option linter.unusedVariables false
set_option linter.unusedSimpArgs false
namespace Go.VL
open Go.ChangeShapes Go.WideShapes Go.ChangeAt Go.RowKit Go.ChangeMaps
section
variable {H : Type} {enc : TypeId × Value → H} {P : Program} {W : World}
/-- Cells of this type stand for values of this shape. -/
def Opens (enc : TypeId × Value → H) (P : Program) (W : World) (T : TypeId) (n : Nat) (Sh : List B → Prop) : Prop :=
  P.cellsOf T = n ∧ ∀ (fuel : Nat) (l : List Value) (d : DataW H × List MemPlace), l.length = n → DataW.trod enc P W 0 (fun _ => true) true fuel T l = some d →
    ∃ bs : List B, bs.length = n ∧ Sh bs ∧ ∀ (j : Nat) (x : B), bs[j]? = some x → ∃ u, l[j]? = some u ∧ u.oneCell' = true ∧ RepB W (fun _ => True) x u
theorem Opens.one {T : TypeId} {b : B} {v : Value} {Sh : List B → Prop} (h1 : v.oneCell' = true) (h2 : RepB W (fun _ => True) b v) (h3 : Sh [b]) :
    ∃ bs : List B, bs.length = 1 ∧ Sh bs ∧ ∀ (j : Nat) (x : B), bs[j]? = some x → ∃ u, [v][j]? = some u ∧ u.oneCell' = true ∧ RepB W (fun _ => True) x u := by
  refine ⟨[b], rfl, h3, fun j x hj => ?_⟩
  match j, hj with
  | 0, hj => injection hj with hj; subst hj; exact ⟨v, rfl, h1, h2⟩
theorem Opens.int {T : TypeId} {k : IntKind} (hc : P.cellsOf T = 1) (hu : P.underlying T = some (.int k)) : Opens enc P W T 1 (fun bs => ∃ z, bs = [numB k z] ∧ (Lit.int k z).wf = true) := by
  refine ⟨hc, fun fuel l d hl h => ?_⟩
  obtain ⟨z, rfl, rfl, hw⟩ := DataW.trod_int hu h
  exact Opens.one (T := T) rfl (.lit _ rfl) ⟨z, rfl, hw⟩
theorem Opens.bool {T : TypeId} (hc : P.cellsOf T = 1) (hu : P.underlying T = some .bool) : Opens enc P W T 1 (fun bs => ∃ z, bs = [boolB z]) := by
  refine ⟨hc, fun fuel l d hl h => ?_⟩
  obtain ⟨z, rfl, rfl⟩ := DataW.trod_bool hu h
  exact Opens.one (T := T) rfl (.lit _ rfl) ⟨z, rfl⟩
theorem Opens.str {T : TypeId} (hc : P.cellsOf T = 1) (hu : P.underlying T = some .string) : Opens enc P W T 1 (fun bs => ∃ z : ByteArray, bs = [.lit (.string z)] ∧ z.size ≤ maxLen) := by
  refine ⟨hc, fun fuel l d hl h => ?_⟩
  obtain ⟨z, rfl, rfl, hz⟩ := DataW.trod_string hu h
  exact Opens.one (T := T) rfl (.lit _ rfl) ⟨z, rfl, hz⟩
theorem flat_get {α : Type} {n : Nat} (h0 : 0 < n) : ∀ {L : List (List α)}, (∀ x ∈ L, x.length = n) → ∀ (j : Nat) (y : α), L.flatten[j]? = some y → ∃ x, L[j / n]? = some x ∧ x[j % n]? = some y
  | [], _, j, y, h => by simp at h
  | x :: r, hx, j, y, h => by
    have hl := hx x (by simp)
    rw [List.flatten_cons] at h
    by_cases hj : j < n
    · rw [List.getElem?_append_left (by omega)] at h
      exact ⟨x, by rw [Nat.div_eq_of_lt hj]; rfl, by rw [Nat.mod_eq_of_lt hj]; exact h⟩
    · rw [List.getElem?_append_right (by omega), hl] at h
      obtain ⟨z, h1, h2⟩ := flat_get h0 (fun z hz => hx z (by simp [hz])) (j - n) y h
      refine ⟨z, ?_, ?_⟩
      · have : j / n = (j - n) / n + 1 := by
          have := Nat.sub_add_cancel (show n ≤ j by omega)
          conv => lhs; rw [← this]
          exact Nat.add_div_right _ h0
        rw [this]; exact h1
      · rw [← Nat.mod_eq_sub_mod (by omega)] at h2
        exact h2
theorem flat_len {α : Type} {n : Nat} : ∀ {L : List (List α)}, (∀ x ∈ L, x.length = n) → L.flatten.length = L.length * n
  | [], _ => by simp
  | x :: r, hx => by
    have := flat_len (fun z hz => hx z (by simp [hz] : z ∈ x :: r)) (L := r)
    rw [List.flatten_cons, List.length_append, hx x (by simp), this, List.length_cons, Nat.succ_mul]; omega
/-- A slice's shape. -/
def ShS (n : Nat) (Sh : List B → Prop) (bs : List B) : Prop := ∃ L : List (List B), bs = [.sl n L.flatten] ∧ (∀ x ∈ L, x.length = n ∧ Sh x) ∧ L.length ≤ maxLen
theorem Opens.slice {T el : TypeId} {n : Nat} {Sh : List B → Prop} (hc : P.cellsOf T = 1) (hu : P.underlying T = some (.slice el)) (h0 : 0 < n) (h : Opens enc P W el n Sh) : Opens enc P W T 1 (ShS n Sh) := by
  obtain ⟨hce, h⟩ := h
  refine ⟨hc, fun fuel l d hl ht => ?_⟩
  rcases DataW.trod_slice hu ht with ⟨rfl, _⟩ | ⟨a, len, cap, elems, rest, m, _, rfl, rfl, hb, hlc, hm, hlen, hel, _, _⟩
  · exact Opens.one (T := T) rfl (.nilsl n h0) ⟨[], rfl, ⟨(fun x hx => absurd hx (by simp)), Nat.zero_le _⟩⟩
  · rw [hce] at hel
    have key : ∀ i, i < len → ∃ bs : List B, bs.length = n ∧ Sh bs ∧ ∀ (j : Nat) (x : B), bs[j]? = some x → ∃ u, W.cell? (a.add (i * n + j)) = some u ∧ u.oneCell' = true ∧ RepB W (fun _ => True) x u := fun i hi => by
      have h1 := hel i hi
      have h2 : elems[i]? = some elems[i] := List.getElem?_eq_getElem (by omega)
      rw [h2, Option.bind_eq_some_iff] at h1
      obtain ⟨cs, hcs, hcs2⟩ := h1
      obtain ⟨_, k2, k3⟩ := World.cells?_some hcs
      obtain ⟨bs, b1, b2, b3⟩ := h _ _ _ k2 hcs2
      refine ⟨bs, b1, b2, fun j x hj => ?_⟩
      obtain ⟨u, u1, u2, u3⟩ := b3 j x hj
      have hjn : j < n := by rw [← b1]; exact (List.getElem?_eq_some_iff.1 hj).1
      exact ⟨u, by rw [← Addr.add_add, k3 j hjn]; exact u1, u2, u3⟩
    let F : Nat → List B := fun i => if hi : i < len then Classical.choose (key i hi) else []
    have hF : ∀ i (hi : i < len), (F i).length = n ∧ Sh (F i) ∧ ∀ (j : Nat) (x : B), (F i)[j]? = some x → ∃ u, W.cell? (a.add (i * n + j)) = some u ∧ u.oneCell' = true ∧ RepB W (fun _ => True) x u := fun i hi => by
      have e : F i = Classical.choose (key i hi) := dif_pos hi
      rw [e]; exact Classical.choose_spec (key i hi)
    have hall : ∀ x ∈ (List.range len).map F, x.length = n ∧ Sh x := fun x hx => by
      obtain ⟨i, hi, rfl⟩ := List.mem_map.1 hx
      have := hF i (List.mem_range.1 hi)
      exact ⟨this.1, this.2.1⟩
    have hfl := flat_len (fun x hx => (hall x hx).1)
    have cells : ∀ (j : Nat) (x : B), (((List.range len).map F).flatten)[j]? = some x → ∃ u, W.cell? (a.add j) = some u ∧ u.oneCell' = true ∧ RepB W (fun _ => True) x u := fun j x hj => by
      obtain ⟨z, z1, z2⟩ := flat_get h0 (fun x hx => (hall x hx).1) j x hj
      rw [List.getElem?_map] at z1
      obtain ⟨i, hi, rfl⟩ := Option.map_eq_some_iff.1 z1
      have hi2 := List.getElem?_eq_some_iff.1 hi
      obtain ⟨hi3, hi4⟩ := hi2
      rw [List.getElem_range] at hi4
      rw [List.length_range] at hi3
      subst hi4
      obtain ⟨u, u1, u2, u3⟩ := (hF _ hi3).2.2 (j % n) x z2
      rw [Nat.mul_comm, Nat.div_add_mod] at u1
      exact ⟨u, u1, u2, u3⟩
    refine Opens.one (T := T) rfl (b := .sl n ((List.range len).map F).flatten) ?_ ⟨(List.range len).map F, rfl, hall, by simp; omega⟩
    let u : Nat → Value := fun j => ((W.cell? (a.add j)).getD undef)
    have hu' : ∀ j x, (((List.range len).map F).flatten)[j]? = some x → W.cell? (a.add j) = some (u j) ∧ (u j).oneCell' = true ∧ RepB W (fun _ => True) x (u j) := fun j x hj => by
      obtain ⟨v, v1, v2, v3⟩ := cells j x hj
      have e : u j = v := by simp only [u, v1, Option.getD_some]
      rw [e]; exact ⟨v1, v2, v3⟩
    exact .sl a len cap n _ u (by rw [hfl]; simp) hlc hm h0 (fun _ => trivial) (fun j hj => (hu' j _ (List.getElem?_eq_getElem hj)).1) (fun j hj => (hu' j _ (List.getElem?_eq_getElem hj)).2.1) (fun j x hj => (hu' j x hj).2.2)
/-- A struct's fields, their places and shapes. -/
def FieldsOpen (enc : TypeId × Value → H) (P : Program) (W : World) (fs : Array Field) : Nat → Nat → List (TypeId × Nat × (List B → Prop)) → Prop
  | _, _, [] => True
  | i, off, (T, m, Sh) :: r => (fs[i]?.map fun f => (f.type, f.offset)) = some (T, off) ∧ Opens enc P W T m Sh ∧ FieldsOpen enc P W fs (i + 1) (off + m) r
def ShF : List (TypeId × Nat × (List B → Prop)) → List B → Prop
  | [], bs => bs = []
  | (_, m, Sh) :: r, bs => ∃ b1 b2, bs = b1 ++ b2 ∧ b1.length = m ∧ Sh b1 ∧ ShF r b2
def tot : List (TypeId × Nat × (List B → Prop)) → Nat
  | [] => 0
  | (_, m, _) :: r => m + tot r
theorem fields_open {fs : Array Field} {fuel : Nat} {l : List Value} {xs : List (DataW H × List MemPlace)} (hx : xs.length = fs.size)
    (h : ∀ (i : Nat) (f : Field), fs[i]? = some f → DataW.trod enc P W 0 (fun _ => true) true fuel f.type ((l.drop f.offset).take (P.cellsOf f.type)) = xs[i]?) :
    ∀ (r : List (TypeId × Nat × (List B → Prop))) (i off : Nat), off + tot r ≤ l.length → FieldsOpen enc P W fs i off r →
      ∃ bs : List B, bs.length = tot r ∧ ShF r bs ∧ ∀ (j : Nat) (x : B), bs[j]? = some x → ∃ u, l[off + j]? = some u ∧ u.oneCell' = true ∧ RepB W (fun _ => True) x u
  | [], i, off, hl, hf => ⟨[], rfl, rfl, fun j x hj => by simp at hj⟩
  | (T, m, Sh) :: r, i, off, hl, hf => by
    obtain ⟨h1, ⟨hc, h2⟩, h3⟩ := hf
    simp only [tot] at hl
    obtain ⟨f, hf1, hf2⟩ := Option.map_eq_some_iff.1 h1
    injection hf2 with e1 e2
    subst e1; subst e2
    have hi : i < xs.length := by rw [hx]; exact (Array.getElem?_eq_some_iff.1 hf1).1
    have h4 := h i f hf1
    rw [List.getElem?_eq_getElem hi, hc] at h4
    obtain ⟨b1, k1, k2, k3⟩ := h2 _ _ _ (by simp; omega) h4
    obtain ⟨b2, g1, g2, g3⟩ := fields_open hx h r (i + 1) (f.offset + m) (by omega) h3
    refine ⟨b1 ++ b2, by simp [tot, k1, g1], ⟨b1, b2, rfl, k1, k2, g2⟩, fun j x hj => ?_⟩
    by_cases hjm : j < m
    · rw [List.getElem?_append_left (by omega)] at hj
      obtain ⟨u, u1, u2⟩ := k3 j x hj
      rw [List.getElem?_take_of_lt hjm, List.getElem?_drop] at u1
      exact ⟨u, u1, u2⟩
    · rw [List.getElem?_append_right (by omega), k1] at hj
      obtain ⟨u, u1, u2⟩ := g3 (j - m) x hj
      rw [show f.offset + m + (j - m) = f.offset + j by omega] at u1
      exact ⟨u, u1, u2⟩
theorem Opens.struct {T : TypeId} {fs : Array Field} {n : Nat} (r : List (TypeId × Nat × (List B → Prop))) (hc : P.cellsOf T = n) (hu : P.underlying T = some (.struct fs)) (hn : tot r = n) (hf : FieldsOpen enc P W fs 0 0 r) : Opens enc P W T n (ShF r) := by
  refine ⟨hc, fun fuel l d hl h => ?_⟩
  obtain ⟨xs, m, rfl, hx, hlen, hxl, hxs⟩ := DataW.trod_struct hu h
  obtain ⟨bs, b1, b2, b3⟩ := fields_open hxl hxs r 0 0 (by omega) hf
  exact ⟨bs, by omega, b2, fun j x hj => by simpa using b3 j x hj⟩
/-- An argument that is a struct. -/
theorem Opens.topAgg {T : TypeId} {fs : Array Field} {n : Nat} {Sh : List B → Prop} {v : Value} {d : DataW H} {p : List MemPlace} (h : Opens enc P W T n Sh) (hu : P.underlying T = some (.struct fs)) (hval : Value.okWide P W .any 0 T v)
    (ht : DataW.Trod enc P W 0 (fun _ => true) true T v d p) : ∃ bs : List B, RepB W (fun _ => True) (.agg bs) v ∧ Sh bs := by
  obtain ⟨cs, rfl, hsz⟩ := okWide_struct hu hval
  obtain ⟨fuel, hf⟩ := ht
  obtain ⟨hc, h⟩ := h
  rw [hc] at hsz
  obtain ⟨bs, b1, b2, b3⟩ := h fuel cs.toList _ (by simpa using hsz) hf
  refine ⟨bs, .agg bs cs (fun j => (cs[j]?).getD undef) (by omega) (fun j hj => ?_) (fun j hj => ?_) (fun j x hj => ?_), b2⟩
  · have : j < cs.size := by omega
    simp [Array.getElem?_eq_getElem this]
  · obtain ⟨u, u1, u2, _⟩ := b3 j _ (List.getElem?_eq_getElem hj)
    rw [Array.getElem?_toList] at u1
    simp only [u1, Option.getD_some]; exact u2
  · obtain ⟨u, u1, _, u3⟩ := b3 j x hj
    rw [Array.getElem?_toList] at u1
    simp only [u1, Option.getD_some]; exact u3
/-- An argument that is a slice. -/
theorem Opens.topSlice {T el : TypeId} {n : Nat} {Sh : List B → Prop} {v : Value} {d : DataW H} {p : List MemPlace} (h : Opens enc P W T 1 (ShS n Sh)) (hu : P.underlying T = some (.slice el)) (hval : Value.okWide P W .any 0 T v)
    (ht : DataW.Trod enc P W 0 (fun _ => true) true T v d p) : ∃ L : List (List B), RepB W (fun _ => True) (.sl n L.flatten) v ∧ (∀ x ∈ L, x.length = n ∧ Sh x) ∧ L.length ≤ maxLen := by
  have hv : v.cells = #[v] := by
    cases v with
    | agg cs => simp [Value.okWide, hu, Cell.okWide, Cell.ok] at hval
    | _ => rfl
  obtain ⟨fuel, hf⟩ := ht
  obtain ⟨hc, h⟩ := h
  rw [hv] at hf
  obtain ⟨bs, b1, ⟨L, rfl, l1, l2⟩, b3⟩ := h fuel [v] _ rfl hf
  obtain ⟨u, u1, _, u3⟩ := b3 0 _ rfl
  injection u1 with u1
  subst u1
  exact ⟨L, u3, l1, l2⟩
end
/-- Elements as such. -/
theorem as_map {α : Type} {Sh : List B → Prop} {f : α → List B} {ok : α → Prop} (h : ∀ x, Sh x → ∃ a, x = f a ∧ ok a) : ∀ {L : List (List B)}, (∀ x ∈ L, Sh x) → ∃ A : List α, L.flatten = cellsT f A ∧ A.length = L.length ∧ ∀ a ∈ A, ok a
  | [], _ => ⟨[], rfl, rfl, fun a ha => by cases ha⟩
  | x :: r, hx => by
    obtain ⟨a, rfl, ha⟩ := h x (hx x (by simp))
    obtain ⟨A, h1, h2, h3⟩ := as_map h (L := r) (fun z hz => hx z (by simp [hz]))
    refine ⟨a :: A, by simp [cellsT, h1], by simp [h2], fun b hb => ?_⟩
    rcases List.mem_cons.1 hb with rfl | hb
    · exact ha
    · exact h3 b hb
end Go.VL

/- A small program logic over the translated Go code, further part: short steps for pointers, windows and cuts; values told by their contents between regions. -/
set_option linter.unusedVariables false
namespace Go.VL
section
variable {P : Program} {ops : Array Oper} {o : Oper} {k n n1 id : Nat} {s : Slots} {E : Env} {X : VExit → Nat → Slots → Env → Prop}
/-- Cells side by side. -/
def Two (p : V → V → Prop) : List V → List V → Prop
  | [], [] => True
  | x :: l, y :: m => p x y ∧ Two p l m
  | _, _ => False
theorem Two.len {p : V → V → Prop} : ∀ {l m : List V}, Two p l m → m.length = l.length
  | [], [], _ => rfl
  | x :: l, y :: m, h => by simp [Two.len h.2]
  | [], _ :: _, h => h.elim
  | _ :: _, [], h => h.elim
theorem Two.get {p : V → V → Prop} : ∀ {l m : List V}, Two p l m → ∀ (j : Nat) (y : V), m[j]? = some y → ∃ x, l[j]? = some x ∧ p x y
  | [], [], _, j, y, h => by simp at h
  | x :: l, y' :: m, h, 0, y, hj => by
    simp at hj; subst hj; exact ⟨x, rfl, h.1⟩
  | x :: l, y' :: m, h, j + 1, y, hj => by simpa using Two.get h.2 j y (by simpa using hj)
  | [], _ :: _, h, _, _, _ => h.elim
  | _ :: _, [], h, _, _, _ => h.elim
theorem Two.same {p : V → V → Prop} (hp : ∀ x, p x x) : ∀ l : List V, Two p l l
  | [] => trivial
  | x :: l => ⟨hp x, Two.same hp l⟩
/-- Between regions: entries are cooled, values told by their contents. -/
theorem Weak.conv {nv : List Nat} {S1 : List (Nat × V)} {L1 : List (Nat × Ent)}
    (h1 : AllS (fun t y => (∃ x, s t = some x ∧ ConvV (upds E (nv.map (cool E))) x y) ∧ y.all.all (fun i => decide (i < n1)) = true) S1)
    (h2 : AllE (fun i e1 => (∃ e, upds E (nv.map (cool E)) i = some e ∧ e1.sz = e.sz ∧ e1.tg = e.tg ∧ Two (ConvV (upds E (nv.map (cool E)))) e.cells e1.cells) ∧ i < n1 ∧ ∀ v ∈ e1.cells, v.all1.all (fun i => decide (i < n1)) = true) L1)
    (hk : k ≤ n1) : Weak k s E n1 (sl S1) (en L1) := by
  refine .inr ⟨nv, sl S1, en L1, fun i => i, ⟨fun t y ht => ?_, fun i e1 he => ?_⟩, hk, fun _ _ => rfl, fun t x ht => ?_, fun i e he => ?_, fun i j e e' _ _ h => h⟩
  · exact (h1.get _ (lookup_mem ht)).1
  · obtain ⟨⟨e, q1, q2, q3, q4⟩, _⟩ := h2.get _ (lookup_mem he)
    exact ⟨e, q1, q2, q3, q4.len, q4.get⟩
  · obtain ⟨_, a2⟩ := h1.get _ (lookup_mem ht)
    exact ⟨by rw [V.ren_id]; exact ht, fun i hi => by simpa using List.all_eq_true.1 a2 i hi⟩
  · obtain ⟨_, a2, a3⟩ := h2.get _ (lookup_mem he)
    exact ⟨by rw [Ent.ren_id]; exact he, a2, fun v hv j hj => by simpa using List.all_eq_true.1 (a3 v hv) j hj⟩
section
variable {d i off m : Nat} {p x y lo hi mx : Operand} {T T' te el : TypeId} {t : Bool} {ik ik' ik'' : IntKind} {a b : Int} {sz : Nat} {l : List B}
theorem Nk (h : (runs ops s o.guard, o.dst, o.op, ev s p) = (some true, some d, .nilCheck p, some (.ptr i off))) : Stp P ops o n s E (n + 1) (setAt s d (some (.ptr i off))) E [] := by
  simp only [Prod.mk.injEq] at h; exact st0 h.1 h.2.1 (h.2.2.1 ▸ .nilCheck _ _ _ h.2.2.2)
theorem Pe (hu : P.underlying T = some (.pointer te)) (h : (runs ops s o.guard, o.dst, o.op, ev s x) = (some true, some d, .binOp .eql T x (.const (.pointer none)) T', some (.ptr i off))) : Stp P ops o n s E (n + 1) (setAt s d (some (vB false))) E [] := by
  simp only [Prod.mk.injEq] at h; exact st0 h.1 h.2.1 (h.2.2.1 ▸ .ptrNil _ _ _ _ _ _ _ _ _ h.2.2.2 rfl hu (.inl ⟨rfl, rfl⟩))
theorem Pf (hu : P.underlying T = some (.pointer te)) (h : (runs ops s o.guard, o.dst, o.op, ev s x) = (some true, some d, .binOp .neq T x (.const (.pointer none)) T', some (.ptr i off))) : Stp P ops o n s E (n + 1) (setAt s d (some (vB true))) E [] := by
  simp only [Prod.mk.injEq] at h; exact st0 h.1 h.2.1 (h.2.2.1 ▸ .ptrNil _ _ _ _ _ _ _ _ _ h.2.2.2 rfl hu (.inr ⟨rfl, rfl⟩))
theorem Pg (hu : P.underlying T = some (.pointer te)) (h : (runs ops s o.guard, o.dst, o.op, ev s x) = (some true, some d, .binOp .eql T x (.const (.pointer none)) T', some (.b (.lit (.pointer none))))) : Stp P ops o n s E (n + 1) (setAt s d (some (vB true))) E [] := by
  simp only [Prod.mk.injEq] at h; exact st0 h.1 h.2.1 (h.2.2.1 ▸ .nilNil _ _ _ _ _ _ _ h.2.2.2 rfl hu (.inl ⟨rfl, rfl⟩))
theorem Ph (hu : P.underlying T = some (.pointer te)) (h : (runs ops s o.guard, o.dst, o.op, ev s x) = (some true, some d, .binOp .neq T x (.const (.pointer none)) T', some (.b (.lit (.pointer none))))) : Stp P ops o n s E (n + 1) (setAt s d (some (vB false))) E [] := by
  simp only [Prod.mk.injEq] at h; exact st0 h.1 h.2.1 (h.2.2.1 ▸ .nilNil _ _ _ _ _ _ _ h.2.2.2 rfl hu (.inr ⟨rfl, rfl⟩))
end
section
variable {d i off m q : Nat} {p x y lo hi mx : Operand} {T T' te el : TypeId} {t : Bool} {ik ik' ik'' : IntKind} {a b : Int} {sz : Nat} {l l' : List B}
theorem Sw (hu : P.underlying T = some (.slice el)) (hs : szOf P el = some 1) (h : (runs ops s o.guard, o.dst, o.op, ev s x, ev s lo, ev s hi, ev s mx) = (some true, some d, .slice T x (some lo) (some hi) (some mx), some (.own i m), some (vI ik a), some (vI ik' b), some (vI ik'' b)))
    (h0 : 0 ≤ a := by first | omega | (simp; done) | (simp; omega)) (h1 : a < b := by first | omega | (simp; done) | (simp; omega)) (h2 : b ≤ m := by first | omega | (simp; done) | (simp; omega)) (h3 : b - a ≤ 9223372036854775807 := by first | omega | (simp; done) | (simp; omega)) :
    Stp P ops o n s E (n + 1) (setAt s d (some (.win i a.toNat (b - a).toNat))) E [] := by
  simp only [Prod.mk.injEq] at h
  exact st0 h.1 h.2.1 (h.2.2.1 ▸ .slWin _ _ _ _ _ _ _ _ _ _ _ _ _ h.2.2.2.1 h.2.2.2.2.1 h.2.2.2.2.2.1 h.2.2.2.2.2.2 hu hs h0 h1 h2 (by simp only [maxLen]; omega))
theorem Cu (hu : P.underlying T = some (.slice el)) (hs : szOf P el = some sz) (h : (runs ops s o.guard, o.dst, o.op, ev s x, ev s hi, ev s mx) = (some true, some d, .slice T x none (some hi) (some mx), some (.b (.sl sz l)), some (vI ik b), some (vI ik' b)))
    (hl : l.take (b.toNat * sz) = l') (h0 : 0 ≤ b := by first | omega | (simp; done) | (simp; omega)) (h2 : b.toNat * sz ≤ l.length := by first | omega | (simp; done) | (simp; omega)) : Stp P ops o n s E (n + 1) (setAt s d (some (.cut sz l'))) E [] := by
  simp only [Prod.mk.injEq] at h
  subst hl
  exact st0 h.1 h.2.1 (h.2.2.1 ▸ .cutSl _ _ _ _ _ _ _ _ _ _ h.2.2.2.1 h.2.2.2.2.1 h.2.2.2.2.2 hu hs h0 h2)
theorem Cw {e : Ent} {v : V} (hu : P.underlying T = some (.slice el)) (hs : szOf P el = some 1) (h : (runs ops s o.guard, o.dst, o.op, ev s x, ev s y, E i) = (some true, some d, .call { callee := .builtin .copy, args := #[x, y], argTypes := #[T, T'] }, some (.win i off m), some v, some e))
    (hr : res E v = some (.sl 1 l)) (h1 : e.sz = 1) (hh : e.hot = true) (hn : off + m ≤ e.cells.length) (hlit : l.all B.isLit = true) :
    Stp P ops o n s E (n + 1) (setAt s d (some (vI .i64 (Nat.min l.length m)))) (setAt E i (some { e with cells := e.cells.take off ++ ((l.take (Nat.min l.length m)).map .b ++ e.cells.drop (off + Nat.min l.length m)) })) [i] := by
  simp only [Prod.mk.injEq] at h
  exact st1 h.1 h.2.1 (h.2.2.1 ▸ .copyWin _ _ _ _ _ _ _ _ _ _ _ h.2.2.2.1 h.2.2.2.2.2 hh h1 hn h.2.2.2.2.1 hr hu hs hlit)
theorem Ac {j m' : Nat} {e2 : Ent} {bytes : Nat} (q : Nat) (hu : P.underlying T = some (.slice el)) (hs : szOf P el = some sz) (hb : (P.info? el).map (·.bytes) = some bytes) (hz : (zeroOf P el).map List.length = some sz)
    (h : (n, runs ops s o.guard, o.dst, o.op, ev s x, ev s y, E j) = (q, some true, some d, .call { callee := .builtin .append, args := #[x, y], argTypes := #[T, T] }, some (.cut sz l), some (.own j m'), some e2))
    (hn : l.length = m * sz) (hsz : e2.sz = sz) (hm2 : m' * sz ≤ e2.cells.length) (h0 : 0 < m' ∧ (sz = 1 → 1 < m')) (hm : (m + m') * bytes ≤ 140737488355328) (hm' : m + m' ≤ maxLen) :
    Stp P ops o n s E (q + 1) (setAt s d (some (.own q (m + m')))) (setAt E q (some ⟨sz, l.map .b ++ e2.cells.take (m' * sz), true⟩)) [q] := by
  simp only [Prod.mk.injEq] at h
  obtain ⟨rfl, h1, h2, h3, h4, h5, h6⟩ := h
  exact st1 h1 h2 (h3 ▸ .appendCut _ _ _ _ _ _ _ _ _ _ _ h4 hn h5 h6 hsz hm2 h0 hu hs hb hz hm hm')
end
section
variable {d i off m : Nat} {x y : Operand} {T T' el : TypeId} {ik : IntKind} {D L : List Int} {w : V}
/-- Copying into a window on a row of numbers. -/
theorem Cv2 {z' : B} {by' : Nat} (K : SlT P T el z' by') (h : (runs ops s o.guard, o.dst, o.op, ev s x, ev s y, E i) = (some true, some d, .call { callee := .builtin .copy, args := #[x, y], argTypes := #[T, T'] }, some (.win i off m), some w, some (rowK ik D)))
    (hr : res E w = some (slK ik L)) (hl : off + m ≤ D.length := by first | omega | (simp; done) | (simp; omega)) :
    Stp P ops o n s E (n + 1) (setAt s d (some (vI .i64 (Nat.min L.length m)))) (setAt E i (some (rowK ik (D.take off ++ (L.take (Nat.min L.length m) ++ D.drop (off + Nat.min L.length m)))))) [i] := by
  have := Cw (n := n) (l := L.map (numB ik)) K.u K.s h hr rfl rfl (by simpa [rowK] using hl) lits_allK
  rw [List.length_map] at this
  have e : (some { rowK ik D with cells := (rowK ik D).cells.take off ++ (((L.map (numB ik)).take (Nat.min L.length m)).map .b ++ (rowK ik D).cells.drop (off + Nat.min L.length m)) } : Option Ent) = some (rowK ik (D.take off ++ (L.take (Nat.min L.length m) ++ D.drop (off + Nat.min L.length m)))) := by
    simp only [rowK, List.map_append, List.map_take, List.map_drop, List.map_map]
    rfl
  rw [e] at this
  exact this
end
section
variable {α : Type} {sz : Nat} {f : α → List B} {L : List α} {i d j : Nat} {a : Int} {x p : Operand} {T el : TypeId} {v : V} {ik : IntKind}
theorem cellsT_set (hf : ∀ x, (f x).length = sz) {x' : α} : ∀ {L : List α} {j : Nat}, j < L.length → (cellsT f L).take (j * sz) ++ (f x' ++ (cellsT f L).drop (j * sz + sz)) = cellsT f (L.set j x')
  | [], j, h => by simp at h
  | y :: r, 0, h => by
    simp only [cellsT, List.flatMap_cons, Nat.zero_mul, List.take_zero, List.nil_append, List.set_cons_zero, Nat.zero_add]
    rw [List.drop_append_of_le_length (by rw [hf]; exact Nat.le_refl _), List.drop_of_length_le (by rw [hf]; exact Nat.le_refl _), List.nil_append]
  | y :: r, j + 1, h => by
    have := cellsT_set hf (x' := x') (L := r) (j := j) (by simpa using h)
    simp only [cellsT, List.flatMap_cons, List.set_cons_succ] at this ⊢
    rw [← this]
    have h0 : (f y).length = sz := hf y
    have h1 : (f y ++ List.flatMap f r).take ((j + 1) * sz) = f y ++ (List.flatMap f r).take (j * sz) := by
      rw [List.take_append, List.take_of_length_le (by rw [h0, Nat.succ_mul]; omega), h0, Nat.succ_mul, Nat.add_sub_cancel]
    have h2 : (f y ++ List.flatMap f r).drop ((j + 1) * sz + sz) = (List.flatMap f r).drop (j * sz + sz) := by
      rw [List.drop_append, List.drop_of_length_le (by rw [h0, Nat.succ_mul]; omega), List.nil_append, h0, Nat.succ_mul]
      congr 1; omega
    rw [h1, h2, List.append_assoc]
/-- A row of structs, all alike. -/
theorem MkT {by' : Nat} (q : Nat) (x0 : α) (hf : ∀ x, (f x).length = sz) (hu : P.underlying T = some (.slice el)) (hz : zeroOf P el = some (f x0)) (hs : szOf P el = some sz) (hb : (P.info? el).map (·.bytes) = some by')
    (h : (runs ops s o.guard, o.dst, o.op, ev s x, n, Nat.ble by' 1000) = (some true, some d, .makeSlice T x x, some (vI ik a), q, true)) (h3 : 0 < sz := by decide) (h0 : 0 ≤ a := by first | omega | (simp; done) | (simp; omega)) (h1 : a ≤ 100000000000 := by first | omega | (simp; done) | (simp; omega)) :
    Stp P ops o n s E (q + 1) (setAt s d (some (.own q a.toNat))) (setAt E q (some (rowT sz f (List.replicate a.toNat x0)))) [q] := by
  simp only [Prod.mk.injEq] at h; obtain ⟨b1, b2, b3, b4, rfl, b5⟩ := h
  have b5 := Nat.le_of_ble_eq_true b5
  refine st1 b1 b2 (b3 ▸ ?_)
  have hm : (by' : Int) * a ≤ 1000 * 100000000000 := Int.le_trans (Int.mul_le_mul_of_nonneg_right (show (by' : Int) ≤ 1000 by omega) h0) (by omega)
  have := Eff.make (P := P) (id := n) (E := E) T x a el (f x0) by' ik b4 hu hz (by rw [hf]; exact hs) hb (fun h => by have := hf x0; rw [h] at this; simp at this; omega) h0 (by omega) (by omega)
  have e : (some ⟨(f x0).length, ((List.replicate a.toNat (f x0)).flatten).map .b, true⟩ : Option Ent) = some (rowT sz f (List.replicate a.toNat x0)) := by
    have e2 : (List.replicate a.toNat (f x0)).flatten = cellsT f (List.replicate a.toNat x0) := by
      unfold cellsT
      rw [List.flatMap_def, List.map_replicate]
    rw [e2, hf]; rfl
  rw [e] at this
  exact this
/-- An element is stored. -/
theorem SrT (x' : α) (hf : ∀ x, (f x).length = sz) (hs : szOf P T = some sz) (h : (runs ops s o.guard, o.dst, o.op, ev s p, E i, ev s x, v.cells, v.noTup) = (some true, none, .store T p x, some (.ptr i (j * sz)), some (rowT sz f L), some v, (f x').map .b, true)) (hj : j < L.length) :
    Stp P ops o n s E (n + 1) s (setAt E i (some (rowT sz f (L.set j x')))) [i] := by
  simp only [Prod.mk.injEq] at h
  obtain ⟨h1, h2, h3, h4, h5, h6, h7, h8⟩ := h
  have hl : v.cells.length = sz := by rw [h7, List.length_map, hf]
  have hle : j * sz + sz ≤ (cellsT f L).length := by rw [cellsT_len hf, ← Nat.succ_mul]; exact Nat.mul_le_mul_right _ hj
  have := Eff.store (P := P) (id := n) (E := E) T p x i (j * sz) (rowT sz f L) v h4 h5 rfl h6 (by rw [hl]; exact hs) (by rw [hl]; simpa [rowT] using hle) h8
  have e : (some { rowT sz f L with cells := (rowT sz f L).cells.take (j * sz) ++ (v.cells ++ (rowT sz f L).cells.drop (j * sz + v.cells.length)) } : Option Ent) = some (rowT sz f (L.set j x')) := by
    rw [hl, h7]
    simp only [rowT, ← List.map_take, ← List.map_drop, ← List.map_append, cellsT_set hf hj]
  rw [e] at this
  exact stS h1 h2 (h3 ▸ this)
end
section
/-- Conversions. -/
theorem cv_own {E : Env} {i m : Nat} {ik : IntKind} {L : List Int} (he : E i = some (rowK ik L).cold) (hl : L.length = m) : ConvV E (.own i m) (.b (slK ik L)) := by
  refine .inr (.inl ⟨_, ?_, rfl, ?_⟩)
  · have := res_rowK (E := setAt E i (some (rowK ik L))) (i := i) (m := m) (k := ik) (L := L) (setAt_self _ _ _) hl
    rw [← this]
    simp only [res, resL, he, setAt_self]
  · intro j hj e h
    simp only [V.names, List.mem_singleton] at hj
    subst hj
    rw [he] at h; injection h with h; subst h; rfl
theorem cv_ownT {α : Type} {sz : Nat} {f : α → List B} {E : Env} {i m : Nat} {L : List α} (hf : ∀ x, (f x).length = sz) (he : E i = some (rowT sz f L).cold) (hl : L.length = m) : ConvV E (.own i m) (.b (slT sz f L)) := by
  refine .inr (.inl ⟨_, ?_, rfl, ?_⟩)
  · have := res_rowT (E := setAt E i (some (rowT sz f L))) (i := i) (m := m) (L := L) hf (setAt_self _ _ _) hl
    rw [← this]
    simp only [res, resL, he, setAt_self]
  · intro j hj e h
    simp only [V.names, List.mem_singleton] at hj
    subst hj
    rw [he] at h; injection h with h; subst h; rfl
theorem cv_nil {E : Env} {x : V} {sz : Nat} (h : x.nilLike = true) (h0 : 0 < sz := by decide) : ConvV E x (.b (.sl sz [])) := .inr (.inr (.inl ⟨h, sz, h0, rfl⟩))
/-- From one region to the next. -/
theorem Cx {k n n1 : Nat} {s : Slots} {E : Env} {P : Program} {b : Code} {X : VExit → Nat → Slots → Env → Prop} {S1 : List (Nat × V)} {L1 : List (Nat × Ent)} (hw : Weak k s E n1 (sl S1) (en L1)) (h : VCode P k b n1 (sl S1) (en L1) X) : Then P k b X .normal n s E := .inr ⟨_, _, _, hw, h⟩
end
/-- What a call leaves, entry by entry. -/
def UsOk (ρ σ : Nat → Nat) (L1 : List (Option Ent)) : Nat → List (Nat × Option Ent) → Prop
  | _, [] => True
  | j, p :: r => (p.1 = ρ j ∧ p.2 = (tab L1 j).map (Ent.ren σ)) ∧ UsOk ρ σ L1 (j + 1) r
theorem UsOk.eq {ρ σ : Nat → Nat} {L1 : List (Option Ent)} : ∀ {us : List (Nat × Option Ent)} {j : Nat}, UsOk ρ σ L1 j us → us = (List.range' j us.length).map fun j => (ρ j, (tab L1 j).map (Ent.ren σ))
  | [], j, h => rfl
  | p :: r, j, h => by
    obtain ⟨⟨h1, h2⟩, h3⟩ := h
    rw [List.length_cons, List.range'_succ, List.map_cons, ← UsOk.eq h3, ← h1, ← h2]
section
variable {R : List (List Nat × List Nat) → Nat → Slots → Env → Prop} {log : List (List Nat × List Nat)} {r : List Oper} {Q : Nat → Slots → Env → Prop} {d : Nat} {v : V}
variable {fop : Operand} {args : Array Operand} {ts : Array TypeId} {f : FuncId} {caps vs xs : List V} {L0 : List Ent} {L1 : List (Option Ent)}
/-- A call that is lent entries, in a region whose order is open. -/
theorem Gl (l nv : List Nat) {rr : V} (us : List (Nat × Option Ent)) (h : (runs ops s o.guard, o.dst, o.op, ev s fop, evs s args.toList) = (some true, some d, .call { callee := .value fop, args := args, argTypes := ts }, some (.fn f caps), some vs)) (hv : VG P f xs L0 rr L1) (hr : rr.ren (nm (rho l) L0.length n) = v)
    (h3 : VLog P ops r (n + 1) (setAt s d (some v)) (upds E (nv.map (cool E) ++ us)) (log ++ [((List.range L0.length).map (rho l) ++ nv, (nv.map (cool E) ++ us).map (·.1))]) R)
    (hus : UsOk (nm (rho l) L0.length n) (nm (rho l) L0.length n) L1 0 us := by repeat' (first | exact trivial | refine ⟨⟨rfl, by first | exact rowK_ren' | exact rowG_ren' | exact rowT_ren' | rfl⟩, ?_⟩))
    (hx : Args E (rho l) L0.length nv (vs ++ caps) xs := by repeat' (first | exact Args.nil | refine Args.name _ _ _ _ rfl rfl ?_ | refine Args.val _ _ _ _ (by first | rfl | exact Rr rfl | exact Ra rfl) rfl ?_))
    (hl : Lent E (rho l) nv L0 := by refine Lent.of rfl (by decide) ?_; repeat' (first | exact trivial | refine ⟨⟨by first | exact rowK_ren' | exact rowG_ren' | exact rowT_ren' | rfl, rfl, by first | exact row_cellsK | exact row_cellsG | exact rowT_cells | exact cells_of rfl⟩, ?_⟩))
    (hsz : (us.length, Nat.ble L1.length (L0.length + 1)) = (L1.length, true) := by rfl) : VLog P ops (o :: r) n s E log R := by
  simp only [Prod.mk.injEq] at h hsz; obtain ⟨h1, h2, h4, h5, h6⟩ := h
  have e := hus.eq
  rw [hsz.1] at e
  have c : CallL P n s E (.call { callee := .value fop, args := args, argTypes := ts }) (rr.ren (nm (rho l) L0.length n)) (nv.map (cool E) ++ us) ((List.range L0.length).map (rho l) ++ nv) :=
    .mk fop args ts f caps vs xs L0 rr L1 (rho l) nv us h5 h6 hx hl hv (Nat.le_of_ble_eq_true hsz.2) (by rw [List.range_eq_range']; exact e)
  refine .inl ⟨h1, some v, nv.map (cool E) ++ us, (List.range L0.length).map (rho l) ++ nv, .inr ⟨v, rfl, ?_⟩, ?_⟩
  · rw [h4, ← hr]; exact c
  · rw [h2]; exact h3
/-- A call that may yield names. -/
theorem Gm (q : Nat) (l nv : List Nat) {rr : V} (L2 : List (Nat × Ent)) (h : (n, runs ops s o.guard, o.dst, o.op, ev s fop, evs s args.toList) = (q, some true, some d, .call { callee := .value fop, args := args, argTypes := ts }, some (.fn f caps), some vs)) (hv : VG P f xs L0 rr L1) (hr : rr.ren (nm (rho l) L0.length q) = v)
    (h3 : VList P ops r (q + (L1.length - L0.length) + 1) (setAt s d (some v)) (en L2) Q)
    (hx : Args E (rho l) L0.length nv (vs ++ caps) xs := by repeat' (first | exact Args.nil | refine Args.name _ _ _ _ rfl rfl ?_ | refine Args.val _ _ _ _ (by first | rfl | exact Rr rfl | exact Ra rfl) rfl ?_))
    (hl : Lent E (rho l) nv L0 := by refine Lent.of rfl (by decide) ?_; repeat' (first | exact trivial | refine ⟨⟨by first | exact rowK_ren' | exact rowG_ren' | exact rowT_ren' | rfl, rfl, by first | exact row_cellsK | exact row_cellsG | exact rowT_cells | exact cells_of rfl⟩, ?_⟩))
    (ha : AllE (fun i e => (∃ j e0, L1[j]? = some (some e0) ∧ nm (rho l) L0.length q j = i ∧ e = e0.ren (nm (rho l) L0.length q)) ∨ (upds E (nv.map (cool E)) i = some e ∧ l.contains i = false)) L2 := by
      repeat' (first | exact trivial | refine ⟨.inr ⟨rfl, rfl⟩, ?_⟩ | refine ⟨.inl ⟨0, _, rfl, rfl, by first | exact rowK_ren.symm | exact rowG_ren.symm | exact rowT_ren.symm | rfl⟩, ?_⟩ | refine ⟨.inl ⟨1, _, rfl, rfl, by first | exact rowK_ren.symm | exact rowG_ren.symm | exact rowT_ren.symm | rfl⟩, ?_⟩ | refine ⟨.inl ⟨2, _, rfl, rfl, by first | exact rowK_ren.symm | exact rowG_ren.symm | exact rowT_ren.symm | rfl⟩, ?_⟩ | refine ⟨.inl ⟨3, _, rfl, rfl, by first | exact rowK_ren.symm | exact rowG_ren.symm | exact rowT_ren.symm | rfl⟩, ?_⟩ | refine ⟨.inl ⟨4, _, rfl, rfl, by first | exact rowK_ren.symm | exact rowG_ren.symm | exact rowT_ren.symm | rfl⟩, ?_⟩ | refine ⟨.inl ⟨5, _, rfl, rfl, by first | exact rowK_ren.symm | exact rowG_ren.symm | exact rowT_ren.symm | rfl⟩, ?_⟩))
    (hk : l.length = L0.length := by rfl) : VList P ops (o :: r) n s E Q := by
  simp only [Prod.mk.injEq] at h; obtain ⟨rfl, h1, h2, h4, h5, h6⟩ := h
  refine VList.goV h1 h2 (h4 ▸ .mk _ _ _ _ _ _ _ _ _ _ _ nv _ (en L2) h5 h6 hx hl hv (Nat.le_succ _) (After.of hk ha)) hr h3
/-- The end of a function that is lent entries. -/
theorem Gg {fn : Func} {k : Nat} {rv r' : V} {L1 L1' : List (Option Ent)} {A : Prop} {xs : List V} (l : List Nat) (hg : ResG P s E (rho l) L1' fn.results.toList xs) (ho : ResOf xs r') (hr : r' = rv) (hL : L1' = L1)
    (h : AllO (fun j e => E (rho l j) = some (e.ren (rho l)) ∧ ∀ v ∈ e.cells, v.all1.all (fun i => decide (i < L1'.length)) = true) 0 L1' := by repeat' (first | exact trivial | refine ⟨⟨by first | exact rowK_ren' | exact rowG_ren' | exact rowT_ren' | rfl, by first | exact row_cellsK | exact row_cellsG | exact rowT_cells | exact cells_of rfl⟩, ?_⟩))
    (hlen : L1'.length = l.length := by rfl) (hk : k ≤ L1'.length := by exact Nat.le_of_ble_eq_true rfl) (hlow : (List.range k).all (fun i => rho l i == i) = true := by rfl) (hn : l.Nodup := by decide) (he : A := by trivial) :
    A ∧ ∃ ρ, WeakR ρ k s E L1.length (fun _ => none) (tab L1) ∧ ∃ l, ResG P s E ρ L1 fn.results.toList l ∧ ResOf l rv := Gf l hg ho hr hL h hlen hk hlow hn he
end
/-- A row, a part of which is overwritten. -/
def cpw (D : List Int) (off m : Nat) (L : List Int) : List Int := D.take off ++ (L.take (Nat.min L.length m) ++ D.drop (off + Nat.min L.length m))
section
variable {d i off m q by' : Nat} {x y hi mx : Operand} {T T' el : TypeId} {ik ik' : IntKind} {D L : List Int} {w : V}
theorem Cv3 {z' : B} {by' : Nat} (K : SlT P T el z' by') (h : (runs ops s o.guard, o.dst, o.op, ev s x, ev s y, E i) = (some true, some d, .call { callee := .builtin .copy, args := #[x, y], argTypes := #[T, T'] }, some (.win i off m), some w, some (rowK ik D)))
    (hr : res E w = some (slK ik L)) (hl : off + m ≤ D.length := by first | omega | (simp; done) | (simp; omega)) :
    Stp P ops o n s E (n + 1) (setAt s d (some (vI .i64 (Nat.min L.length m)))) (setAt E i (some (rowK ik (cpw D off m L)))) [i] := Cv2 K h hr hl
theorem Cp3 {z' : B} {by' : Nat} (K : SlT P T el z' by') (h : (runs ops s o.guard, o.dst, o.op, ev s x, ev s y, E i) = (some true, some d, .call { callee := .builtin .copy, args := #[x, y], argTypes := #[T, T'] }, some (.own i m), some w, some (rowK ik D)))
    (hr : res E w = some (slK ik L)) (hl : m ≤ D.length := by first | omega | (simp; done) | (simp; omega)) :
    Stp P ops o n s E (n + 1) (setAt s d (some (vI .i64 (Nat.min L.length m)))) (setAt E i (some (rowK ik (cpw D 0 m L)))) [i] := by
  simp only [Prod.mk.injEq] at h
  obtain ⟨h1, h2, h3, h4, h5, h6⟩ := h
  have := Eff.copy (P := P) (id := n) x y T T' el i m (rowK ik D) w (L.map (numB ik)) h4 h6 rfl rfl (by simpa [rowK] using hl) h5 hr K.u K.s lits_allK
  rw [List.length_map] at this
  have e : (some { rowK ik D with cells := ((L.map (numB ik)).take (Nat.min L.length m)).map .b ++ (rowK ik D).cells.drop (Nat.min L.length m) } : Option Ent) = some (rowK ik (cpw D 0 m L)) := by
    simp only [rowK, cpw, List.map_append, List.map_take, List.map_drop, List.map_map, List.take_zero, List.nil_append, Nat.zero_add]
    rfl
  rw [e] at this
  exact st1 h1 h2 (h3 ▸ this)
/-- What a window shows. -/
theorem Rw {i off m : Nat} {D : List Int} (he : E i = some (rowK ik D)) (hl : off + m ≤ D.length := by first | omega | (simp; done) | (simp; omega)) : res E (.win i off m) = some (slK ik ((D.drop off).take m)) := by
  have hb : bs (rowK ik D).cells = some (D.map (numB ik)) := by
    have := bs_map (D.map (numB ik))
    rw [List.map_map] at this
    exact this
  show resL E (.win i off m) = _
  simp only [resL, he, hb]
  have h1 : (rowK ik D).sz = 1 := rfl
  rw [h1, Nat.mul_one, if_pos (by rw [List.length_map]; exact hl), ← List.map_drop, ← List.map_take]
variable {α : Type} {sz : Nat} {f : α → List B} {A : List α} {b : Int}
theorem CuT (hf : ∀ x, (f x).length = sz) (hu : P.underlying T = some (.slice el)) (hs : szOf P el = some sz) (h : (runs ops s o.guard, o.dst, o.op, ev s x, ev s hi, ev s mx) = (some true, some d, .slice T x none (some hi) (some mx), some (.b (slT sz f A)), some (vI ik (A.length : Int)), some (vI ik' (A.length : Int)))) :
    Stp P ops o n s E (n + 1) (setAt s d (some (.cut sz (cellsT f A)))) E [] := by
  have hl := cellsT_len hf A
  exact Cu hu hs h (by rw [Int.toNat_natCast, ← hl, List.take_length]) (by omega) (by rw [Int.toNat_natCast, hl]; exact Nat.le_refl _)
theorem AcT {i2 : Nat} {e2 : Ent} {x1 : α} (q : Nat) (hu : P.underlying T = some (.slice el)) (hs : szOf P el = some sz) (hb : (P.info? el).map (·.bytes) = some by') (hz : (zeroOf P el).map List.length = some sz)
    (h : (n, runs ops s o.guard, o.dst, o.op, ev s x, ev s y, E i2, e2.cells, e2.sz) = (q, some true, some d, .call { callee := .builtin .append, args := #[x, y], argTypes := #[T, T] }, some (.cut sz (cellsT f A)), some (.own i2 1), some e2, (f x1).map .b, sz)) (hf : ∀ x, (f x).length = sz)
    (hm : (A.length + 1) * by' ≤ 140737488355328 ∧ A.length + 1 ≤ maxLen := by simp only [maxLen]; omega) (hz1 : sz ≠ 1 := by decide) :
    Stp P ops o n s E (q + 1) (setAt s d (some (.own q (A.length + 1)))) (setAt E q (some (rowT sz f (A ++ [x1])))) [q] := by
  simp only [Prod.mk.injEq] at h
  obtain ⟨h0, h1, h2, h3, h4, h5, h6, h7, h8⟩ := h
  have hl : e2.cells.length = sz := by rw [h7, List.length_map, hf]
  have := Ac (P := P) (ops := ops) (o := o) (n := n) (s := s) (E := E) (d := d) (x := x) (y := y) (T := T) (l := cellsT f A) (m := A.length) (m' := 1) (e2 := e2) (j := i2) (sz := sz) q hu hs hb hz (by simp only [Prod.mk.injEq]; exact ⟨h0, h1, h2, h3, h4, h5, h6⟩) (cellsT_len hf A) h8 (by rw [hl, Nat.one_mul]; exact Nat.le_refl _) ⟨by decide, fun h => absurd h hz1⟩ hm.1 hm.2
  have e : (some ⟨sz, (cellsT f A).map .b ++ e2.cells.take (1 * sz), true⟩ : Option Ent) = some (rowT sz f (A ++ [x1])) := by
    rw [Nat.one_mul, List.take_of_length_le (by omega), h7]
    simp only [rowT, cellsT_append, List.map_append]
    simp [cellsT]
  rw [e] at this
  exact this
end
section
theorem Iw {d i off m : Nat} {x y : Operand} {T el : TypeId} {ik' : IntKind} {j : Int} (hu : P.underlying T = some (.slice el)) (hs : szOf P el = some 1) (h : (runs ops s o.guard, o.dst, o.op, ev s x, ev s y) = (some true, some d, .indexAddr T x y, some (.win i off m), some (vI ik' j))) (h0 : 0 ≤ j := by first | omega | (simp; done) | (simp; omega)) (h1 : j < m := by first | omega | (simp; done) | (simp; omega)) :
    Stp P ops o n s E (n + 1) (setAt s d (some (.ptr i (off + j.toNat)))) E [] := by
  simp only [Prod.mk.injEq] at h; obtain ⟨h1', h2, h3, h4, h5⟩ := h
  exact st0 h1' h2 (h3 ▸ .indexWin _ _ _ _ _ _ _ _ _ h4 h5 hu hs h0 h1)
end
section
theorem Sz {d i m : Nat} {x lo hi mx : Operand} {T el : TypeId} {ik ik' ik'' : IntKind} {a b : Int} (q : Nat) (hu : P.underlying T = some (.slice el)) (hs : szOf P el = some 1) (h : (runs ops s o.guard, o.dst, o.op, ev s x, ev s lo, ev s hi, ev s mx) = (some true, some d, .slice T x (some lo) (some hi) (some mx), some (.own i m), some (vI ik a), some (vI ik' b), some (vI ik'' b)))
    (hq : (b - a).toNat = q := by omega) (h0 : 0 ≤ a := by first | omega | (simp; done) | (simp; omega)) (h1 : a < b := by first | omega | (simp; done) | (simp; omega)) (h2 : b ≤ m := by first | omega | (simp; done) | (simp; omega)) (h3 : b - a ≤ 9223372036854775807 := by first | omega | (simp; done) | (simp; omega)) :
    Stp P ops o n s E (n + 1) (setAt s d (some (.win i a.toNat q))) E [] := by
  subst hq; exact Sw hu hs h h0 h1 h2 h3
end
/-- What is asked at the end, or a little before it. -/
def PostW (P : Program) (fn : Func) (k : Nat) (r : V) (L1 : List (Option Ent)) : VExit → Nat → Slots → Env → Prop := fun e n s E => PostG P fn k r L1 e n s E ∨ ∃ n1 s1 E1, Weak k s E n1 s1 E1 ∧ PostG P fn k r L1 e n1 s1 E1
theorem VGw_of {P : Program} {f : FuncId} {fn : Func} {c : Code} {xs : List V} {L0 : List Ent} {r : V} {L1 : List (Option Ent)} (hm : P.follows .mixedOrders = true) (hfn : P.funcs[f]? = some fn) (hb : fn.body = some c) (hname : (fn.name == "runtime.NumGoroutine") = false)
    (hc : codeOk (.of (xs.length + (fn.ntmps - xs.length))) c = true) (hlen : L0.length ≤ L1.length) (hnew : ((L1.drop L0.length).all fun | some e => e.hot | none => true) = true)
    (hbody : VCode P L0.length c L0.length (fun t => xs[t]?) (tab (L0.map some)) (PostW P fn L0.length r L1)) : VG P f xs L0 r L1 :=
  VG_ofX hm hfn hb hname hc hlen hnew (fun e n s E h => by
    rcases h with h | ⟨n1, s1, E1, hw, h⟩
    · exact ⟨h.1, .inl h.2⟩
    · exact ⟨h.1, .inr ⟨n1, s1, E1, hw, h.2⟩⟩) hbody
theorem Pw {P : Program} {fn : Func} {k n : Nat} {s : Slots} {E : Env} {r : V} {L1 : List (Option Ent)} {e : VExit} (h : PostG P fn k r L1 e n s E) : PostW P fn k r L1 e n s E := .inl h
theorem Px {P : Program} {fn : Func} {k n n1 : Nat} {s : Slots} {E : Env} {r : V} {L1 : List (Option Ent)} {e : VExit} {S2 : List (Nat × V)} {L2 : List (Nat × Ent)} (hw : Weak k s E n1 (sl S2) (en L2)) (h : PostG P fn k r L1 e n1 (sl S2) (en L2)) : PostW P fn k r L1 e n s E := .inr ⟨_, _, _, hw, h⟩
end
end Go.VL

/- A plain model of a disk that may lose or tear writes: sectors, writes that are pending, a fuse. -/
set_option linter.unusedVariables false
set_option linter.unusedSimpArgs false
namespace Go.VL

abbrev Pen := Int × List Int
/-- The cells of a pending write. -/
def penB (w : Pen) : List B := [numB .i64 w.1, slK .u8 w.2]
theorem penB_len : ∀ w, (penB w).length = 2 := fun _ => rfl
def boB (t : Bool) : List B := [boolB t]
theorem boB_len : ∀ t, (boB t).length = 1 := fun _ => rfl
abbrev w0 : Pen := (0, [])

structure Dk where
  dur : List Int
  pen : List Pen
  fuse : Int
  off : Bool

/-- What is always so of a disk of n bytes. -/
structure Dk.Ok (n : Nat) (m : Nat) (d : Dk) : Prop where
  len : d.dur.length = n
  lo : 64 ≤ n
  hi : n ≤ 65536
  whole : n % 64 = 0
  pen : d.pen.length ≤ m
  fu : -1 ≤ d.fuse ∧ d.fuse ≤ 9223372036854775807
  ins : ∀ w ∈ d.pen, 0 ≤ w.1 ∧ w.1 * 64 + 64 ≤ n ∧ w.2.length = 64

def sec (D : List Int) (s : Int) : List Int := (D.drop (s * 64).toNat).take 64
def put (D : List Int) (s : Int) (b : List Int) : List Int := cpw D (s * 64).toNat 64 b
/-- What counts an operation. -/
def Dk.burn (d : Dk) : Dk := if d.fuse = 0 then { d with fuse := -1, off := true } else if 0 < d.fuse then { d with fuse := d.fuse - 1 } else d
def Dk.out (d : Dk) : Bool := d.fuse == 0
def hasS (n : Nat) (s : Int) : Bool := decide (0 ≤ s) && decide (s < (n : Int) / 64)
/-- What Read returns of the sector, the first i pending writes heeded. -/
def rdL (s : Int) (P : List Pen) (R0 : List Int) : Nat → List Int
  | 0 => R0
  | i + 1 => if (P.getD i w0).1 = s then cpw (rdL s P R0 i) 0 64 (P.getD i w0).2 else rdL s P R0 i
def rdS (d : Dk) (s : Int) : List Int := rdL s d.pen (cpw (List.replicate 64 0) 0 64 (sec d.dur s)) d.pen.length
def Dk.readR (n : Nat) (d : Dk) (s : Int) : Dk × List Int × Int :=
  if d.off = true then (d, [], 290) else if hasS n s = false then (d, [], 1) else if d.out = true then (d.burn, [], 290) else (d.burn, rdS d s, 0)
def Dk.writeR (n : Nat) (d : Dk) (s : Int) (b : List Int) : Dk × Int :=
  if d.off = true then (d, 290) else if hasS n s = false ∨ b.length ≠ 64 then (d, 1) else ({ d.burn with pen := d.pen ++ [(s, b)] }, if d.out = true then 290 else 0)
/-- The first i pending writes made durable. -/
def syL (P : List Pen) (D : List Int) : Nat → List Int
  | 0 => D
  | i + 1 => put (syL P D i) (P.getD i w0).1 (P.getD i w0).2
def Dk.syncR (d : Dk) : Dk × Int :=
  if d.off = true then (d, 290) else if d.out = true then (d.burn, 290) else ({ d.burn with dur := syL d.pen d.dur d.pen.length, pen := [] }, 0)
def Dk.fuseR (d : Dk) (x : Int) : Dk := { d with fuse := if -1 > x then -1 else x }
/-- Which pending writes are kept, and the last of them. -/
def kpL (keep : List Int) (m : Nat) : Nat → List Bool × Int
  | 0 => (List.replicate m false, -1)
  | i + 1 => if 0 ≤ keep.getD i 0 ∧ keep.getD i 0 < m then ((kpL keep m i).1.set (keep.getD i 0).toNat true, if keep.getD i 0 > (kpL keep m i).2 then keep.getD i 0 else (kpL keep m i).2) else kpL keep m i
def tearB (last torn : Int) (i : Nat) (b : List Int) : List Int := if (i : Int) = last ∧ 0 ≤ torn ∧ torn < b.length then b.take torn.toNat else b
def boL (K : List Bool) (last torn : Int) (P : List Pen) (D : List Int) : Nat → List Int
  | 0 => D
  | i + 1 => if K.getD i false = true then put (boL K last torn P D i) (P.getD i w0).1 (tearB last torn i (P.getD i w0).2) else boL K last torn P D i
def Dk.bootR (d : Dk) (keep : List Int) (torn : Int) : Dk :=
  ⟨boL (kpL keep d.pen.length keep.length).1 (kpL keep d.pen.length keep.length).2 torn d.pen d.dur d.pen.length, [], -1, false⟩
/-- A bit of a byte inverted. -/
def flipB (x : Int) (k : Int) : Int := ((BitVec.ofInt 8 x ^^^ BitVec.ofInt 8 (2 ^ (k % 8).toNat)).toNat : Int)
def Dk.rotR (n : Nat) (d : Dk) (s k : Int) : Dk × Int :=
  if hasS n s = false ∨ k < 0 ∨ 512 ≤ k then (d, 1) else ({ d with dur := d.dur.set ((s * 64).toNat + (k / 8).toNat) (flipB (d.dur.getD ((s * 64).toNat + (k / 8).toNat) 0) k) }, 0)

theorem cpw_len {D : List Int} {off m : Nat} {L : List Int} (h : off + m ≤ D.length) : (cpw D off m L).length = D.length := by
  simp only [cpw, List.length_append, List.length_take, List.length_drop]
  have := Nat.min_le_right L.length m
  have h2 : Nat.min L.length m = min L.length m := rfl
  omega
theorem put_len {D : List Int} {s : Int} {b : List Int} (h0 : 0 ≤ s) (h : s * 64 + 64 ≤ D.length) : (put D s b).length = D.length := cpw_len (by omega)
theorem sec_len {D : List Int} {s : Int} (h0 : 0 ≤ s) (h : s * 64 + 64 ≤ D.length) : (sec D s).length = 64 := by
  simp only [sec, List.length_take, List.length_drop]; omega
theorem cpw_all {D L : List Int} (h : D.length = 64) (hl : L.length = 64) : cpw D 0 64 L = L := by
  simp only [cpw, hl, List.take_zero, List.nil_append]
  have h2 : Nat.min 64 64 = 64 := rfl
  rw [h2, List.take_of_length_le (by omega), List.drop_of_length_le (by omega), List.append_nil]
theorem hasS_in {n : Nat} {s : Int} (h : hasS n s = true) (hw : n % 64 = 0) : 0 ≤ s ∧ s * 64 + 64 ≤ n := by
  simp only [hasS, Bool.and_eq_true, decide_eq_true_eq] at h
  omega
section
variable {n m : Nat} {d : Dk}
theorem getD_mem' {α : Type} {L : List α} {i : Nat} {x : α} (h : i < L.length) : L.getD i x ∈ L := by
  rw [List.getD_eq_getElem?_getD, List.getElem?_eq_getElem h]
  exact List.getElem_mem h
theorem Dk.Ok.at (h : d.Ok n m) {i : Nat} (hi : i < d.pen.length) : 0 ≤ (d.pen.getD i w0).1 ∧ (d.pen.getD i w0).1 * 64 + 64 ≤ n ∧ (d.pen.getD i w0).2.length = 64 := h.ins _ (getD_mem' hi)
theorem rdL_len {s : Int} {P : List Pen} {R0 : List Int} (h : R0.length = 64) : ∀ i, (rdL s P R0 i).length = 64
  | 0 => h
  | i + 1 => by
    simp only [rdL]
    split
    · rw [cpw_len (by rw [rdL_len h i]; omega)]; exact rdL_len h i
    · exact rdL_len h i
theorem rdS_len (s : Int) : (rdS d s).length = 64 := rdL_len (by rw [cpw_len (by simp)]; simp) _
theorem syL_len (h : d.Ok n m) : ∀ i, i ≤ d.pen.length → (syL d.pen d.dur i).length = n
  | 0, _ => h.len
  | i + 1, hi => by
    have h1 := syL_len h i (by omega)
    obtain ⟨a, b, _⟩ := h.at (i := i) (by omega)
    simp only [syL]
    rw [put_len a (by rw [h1]; exact b)]; exact h1
theorem boL_len (h : d.Ok n m) {K : List Bool} {last torn : Int} : ∀ i, i ≤ d.pen.length → (boL K last torn d.pen d.dur i).length = n
  | 0, _ => h.len
  | i + 1, hi => by
    have h1 := boL_len h (K := K) (last := last) (torn := torn) i (by omega)
    obtain ⟨a, b, _⟩ := h.at (i := i) (by omega)
    simp only [boL]
    split
    · rw [put_len a (by rw [h1]; exact b)]; exact h1
    · exact h1
theorem kpL_len {keep : List Int} {m : Nat} : ∀ i, (kpL keep m i).1.length = m
  | 0 => by simp [kpL]
  | i + 1 => by
    simp only [kpL]
    split
    · rw [List.length_set]; exact kpL_len i
    · exact kpL_len i
theorem Dk.Ok.mono (h : d.Ok n m) {k : Nat} (hk : m ≤ k) : d.Ok n k := { h with pen := Nat.le_trans h.pen hk }
theorem Dk.Ok.burn (h : d.Ok n m) : d.burn.Ok n m := by
  have hf := h.fu
  unfold Dk.burn
  split
  · exact { h with fu := by simp }
  · split
    · exact { h with fu := by simp only; omega }
    · exact h
theorem burn_dur : d.burn.dur = d.dur := by unfold Dk.burn; split <;> (try split) <;> rfl
theorem burn_pen : d.burn.pen = d.pen := by unfold Dk.burn; split <;> (try split) <;> rfl
theorem Dk.Ok.read (h : d.Ok n m) (s : Int) : (d.readR n s).1.Ok n m := by
  unfold Dk.readR; repeat' (first | exact h | exact h.burn | split)
theorem Dk.Ok.write (h : d.Ok n m) (s : Int) (b : List Int) : (d.writeR n s b).1.Ok n (m + 1) := by
  unfold Dk.writeR
  split
  · exact h.mono (Nat.le_succ _)
  · split
    · exact h.mono (Nat.le_succ _)
    · rename_i h1
      have h2 : hasS n s = true := by cases hq : hasS n s <;> simp_all
      have h3 : b.length = 64 := by
        apply Classical.byContradiction; intro hc; exact h1 (.inr hc)
      have hb := h.burn
      obtain ⟨a, c⟩ := hasS_in h2 h.whole
      have e1 : ∀ w ∈ d.pen ++ [(s, b)], 0 ≤ w.1 ∧ w.1 * 64 + 64 ≤ (n : Int) ∧ w.2.length = 64 := fun w hw => by
        simp only [List.mem_append, List.mem_singleton] at hw
        rcases hw with hw | rfl
        · exact h.ins w hw
        · exact ⟨a, c, h3⟩
      have e2 : (d.pen ++ [(s, b)]).length ≤ m + 1 := by simp only [List.length_append, List.length_singleton]; have := h.pen; omega
      exact { hb with pen := e2, ins := e1 }
theorem Dk.Ok.sync (h : d.Ok n m) : d.syncR.1.Ok n m := by
  unfold Dk.syncR
  split
  · exact h
  · split
    · exact h.burn
    · have hb := h.burn
      exact { hb with len := syL_len h _ (Nat.le_refl _), pen := Nat.zero_le _, ins := fun w hw => by cases hw }
theorem Dk.Ok.fuse (h : d.Ok n m) {x : Int} (hx : x ≤ 9223372036854775807) : (d.fuseR x).Ok n m := { h with fu := by simp only [Dk.fuseR]; split <;> omega }
theorem Dk.Ok.boot (h : d.Ok n m) (keep : List Int) (torn : Int) : (d.bootR keep torn).Ok n m :=
  ⟨boL_len h _ (Nat.le_refl _), h.lo, h.hi, h.whole, Nat.zero_le _, by simp [Dk.bootR], fun w hw => by cases hw⟩
theorem Dk.Ok.rot (h : d.Ok n m) (s k : Int) : (d.rotR n s k).1.Ok n m := by
  unfold Dk.rotR
  split
  · exact h
  · exact { h with len := by simp only [List.length_set]; exact h.len }
theorem cpw_rep (b : List Int) : cpw (List.replicate b.length 0) 0 b.length b = b := by
  have h2 : Nat.min b.length b.length = b.length := Nat.min_self _
  simp only [cpw, List.take_zero, List.nil_append, h2]
  rw [List.take_of_length_le (Nat.le_refl _), List.drop_of_length_le (by simp), List.append_nil]
theorem Dk.Ok.syL (h : d.Ok n m) {i : Nat} (hi : i ≤ d.pen.length) : ({ d with dur := Go.VL.syL d.pen d.dur i } : Dk).Ok n m := { h with len := syL_len h i hi }
theorem Dk.Ok.boL (h : d.Ok n m) {K : List Bool} {last torn : Int} {i : Nat} (hi : i ≤ d.pen.length) : ({ d with dur := Go.VL.boL K last torn d.pen d.dur i } : Dk).Ok n m := { h with len := boL_len h i hi }
theorem Dk.Ok.ofDur (h : d.Ok n m) {D : List Int} (hD : D.length = n) : ({ d with dur := D } : Dk).Ok n m := { h with len := hD }
section
variable {keep : List Int} {N i : Nat} {K : List Bool} {last torn : Int} {P : List Pen} {D b : List Int}
theorem kpL_in (h1 : keep.getD i 0 ≥ 0) (h2 : keep.getD i 0 < N) : kpL keep N (i + 1) = ((kpL keep N i).1.set (keep.getD i 0).toNat true, if keep.getD i 0 > (kpL keep N i).2 then keep.getD i 0 else (kpL keep N i).2) := by
  rw [kpL, if_pos (And.intro h1 h2)]
theorem kpL_lo (h1 : ¬ keep.getD i 0 ≥ 0) : kpL keep N (i + 1) = kpL keep N i := by rw [kpL, if_neg (fun h => h1 h.1)]
theorem kpL_hi (h1 : ¬ keep.getD i 0 < N) : kpL keep N (i + 1) = kpL keep N i := by rw [kpL, if_neg (fun h => h1 h.2)]
theorem boL_no (h : K.getD i false = false) : boL K last torn P D (i + 1) = boL K last torn P D i := by rw [boL, if_neg (by rw [h]; decide)]
theorem boL_y (h : K.getD i false = true) (h1 : (i : Int) = last) (h2 : torn ≥ 0) (h3 : torn < ((P.getD i w0).2.length : Int)) : boL K last torn P D (i + 1) = put (boL K last torn P D i) (P.getD i w0).1 ((P.getD i w0).2.take torn.toNat) := by
  rw [boL, if_pos h, tearB, if_pos ⟨h1, h2, h3⟩]
theorem boL_1 (h : K.getD i false = true) (h1 : ¬ (i : Int) = last) : boL K last torn P D (i + 1) = put (boL K last torn P D i) (P.getD i w0).1 (P.getD i w0).2 := by
  rw [boL, if_pos h, tearB, if_neg (fun h => h1 h.1)]
theorem boL_2 (h : K.getD i false = true) (h1 : ¬ torn ≥ 0) : boL K last torn P D (i + 1) = put (boL K last torn P D i) (P.getD i w0).1 (P.getD i w0).2 := by
  rw [boL, if_pos h, tearB, if_neg (fun h => h1 h.2.1)]
theorem boL_3 (h : K.getD i false = true) (h1 : ¬ torn < ((P.getD i w0).2.length : Int)) : boL K last torn P D (i + 1) = put (boL K last torn P D i) (P.getD i w0).1 (P.getD i w0).2 := by
  rw [boL, if_pos h, tearB, if_neg (fun h => h1 h.2.2)]
end
end
theorem bop_shl1 {y : Int} (h0 : 0 ≤ y) (h1 : y < 8) : bop .shl (.int .u8 1) (.int .i64 y) = some (.int .u8 (2 ^ y.toNat)) := by
  obtain ⟨k, rfl⟩ : ∃ k : Nat, y = k := ⟨y.toNat, by omega⟩
  have hk : k < 8 := by omega
  match k, hk with
  | 0, _ | 1, _ | 2, _ | 3, _ | 4, _ | 5, _ | 6, _ | 7, _ => rfl
theorem bop_add8 {x y : Int} : bop .add (.int .u8 x) (.int .u8 y) = some (.int .u8 ((x + y) % 256)) := by
  show some (Value.int .u8 (IntKind.wrap .u8 (x + y))) = _
  rw [wrapM_u8]
theorem bop_xor8 {x z : Int} : bop .xor (.int .u8 x) (.int .u8 z) = some (.int .u8 ((BitVec.ofInt 8 x ^^^ BitVec.ofInt 8 z).toNat : Int)) := by
  have h : (BitVec.ofInt 8 x ^^^ BitVec.ofInt 8 z).toNat < 256 := (BitVec.ofInt 8 x ^^^ BitVec.ofInt 8 z).isLt
  have hw := wrap_u8 (x := ((BitVec.ofInt 8 x ^^^ BitVec.ofInt 8 z).toNat : Int)) (by omega)
  show some (Value.int .u8 (IntKind.wrap .u8 ((BitVec.ofInt 8 x ^^^ BitVec.ofInt 8 z).toNat : Int))) = _
  rw [hw]
end Go.VL

/- A plain model of the journal's checksum and of its numbers. -/
set_option linter.unusedVariables false
set_option linter.unusedSimpArgs false
namespace Go.VL

def bv (x : BitVec 32) : Int := (x.toNat : Int)
theorem bv_range (x : BitVec 32) : 0 ≤ bv x ∧ bv x < 4294967296 := by
  have := x.isLt
  unfold bv; omega
theorem ofInt_bv (x : BitVec 32) : BitVec.ofInt 32 (bv x) = x := by
  apply BitVec.eq_of_toNat_eq
  simp [bv]
theorem bv_ofInt {c : Int} (h : 0 ≤ c ∧ c < 4294967296) : bv (BitVec.ofInt 32 c) = c := by
  unfold bv
  rw [BitVec.toNat_ofInt]
  omega
theorem wrap_bv (x : BitVec 32) : IntKind.wrap .u32 (x.toNat : Int) = bv x := wrap_u32 (bv_range x)
theorem bop_and_bv (x y : BitVec 32) : bop .and (.int .u32 (bv x)) (.int .u32 (bv y)) = some (.int .u32 (bv (x &&& y))) := by
  show some (Value.int .u32 (IntKind.wrap .u32 ((BitVec.ofInt 32 (bv x) &&& BitVec.ofInt 32 (bv y)).toNat : Int))) = _
  rw [ofInt_bv, ofInt_bv, wrap_bv]
theorem bop_xor_bv (x y : BitVec 32) : bop .xor (.int .u32 (bv x)) (.int .u32 (bv y)) = some (.int .u32 (bv (x ^^^ y))) := by
  show some (Value.int .u32 (IntKind.wrap .u32 ((BitVec.ofInt 32 (bv x) ^^^ BitVec.ofInt 32 (bv y)).toNat : Int))) = _
  rw [ofInt_bv, ofInt_bv, wrap_bv]
theorem bop_xor_bvc (x : BitVec 32) (c : Int) : bop .xor (.int .u32 (bv x)) (.int .u32 c) = some (.int .u32 (bv (x ^^^ BitVec.ofInt 32 c))) := by
  show some (Value.int .u32 (IntKind.wrap .u32 ((BitVec.ofInt 32 (bv x) ^^^ BitVec.ofInt 32 c).toNat : Int))) = _
  rw [ofInt_bv, wrap_bv]
theorem bop_shr_bv (x : BitVec 32) (k : Nat) (hk : k ≤ 32 := by decide) {ik : IntKind} : bop .shr (.int .u32 (bv x)) (.int ik (k : Int)) = some (.int .u32 (bv (x >>> k))) := by
  rw [bop_shr_u32 (by omega) (by omega)]
  congr 2
  simp only [bv, BitVec.toNat_ushiftRight, Int.toNat_natCast, Nat.shiftRight_eq_div_pow]
  rfl
theorem uop_not_bv (x : BitVec 32) : uop .xor (.int .u32 (bv x)) = some (.int .u32 (bv (~~~x))) := by
  show some (Value.int .u32 (IntKind.wrap .u32 ((BitVec.ofInt 32 4294967295 ^^^ BitVec.ofInt 32 (bv x)).toNat : Int))) = _
  rw [ofInt_bv, wrap_bv]
  have : BitVec.ofInt 32 4294967295 = BitVec.allOnes 32 := rfl
  rw [this, BitVec.allOnes_xor]

theorem bop_xor_all (x : BitVec 32) : bop .xor (.int .u32 (bv x)) (.int .u32 4294967295) = some (.int .u32 (bv (~~~x))) := by
  rw [bop_xor_bvc, show BitVec.ofInt 32 4294967295 = BitVec.allOnes 32 from rfl, BitVec.xor_allOnes]
theorem wrap_ofNat {i : Nat} (h : i < 4294967296) : IntKind.wrap .u32 (i : Int) = bv (BitVec.ofNat 32 i) := by
  rw [wrap_u32 (by omega), bv, BitVec.toNat_ofNat, Nat.mod_eq_of_lt h]
theorem bv_inj {x y : BitVec 32} (h : bv x = bv y) : x = y := BitVec.eq_of_toNat_eq (by unfold bv at h; omega)
/-- A shift of the register. -/
def stp (r : BitVec 32) : BitVec 32 := if r &&& 1#32 = 1#32 then (r >>> 1) ^^^ 2197175160#32 else r >>> 1
theorem stp_y {r : BitVec 32} (h : bv (r &&& 1#32) = 1) : stp r = (r >>> 1) ^^^ 2197175160#32 := if_pos (bv_inj h)
theorem stp_n {r : BitVec 32} (h : bv (r &&& 1#32) ≠ 1) : stp r = r >>> 1 := if_neg (fun e => h (by rw [e]; rfl))
def stpN : Nat → BitVec 32 → BitVec 32
  | 0, r => r
  | k + 1, r => stp (stpN k r)
def tabV (i : Nat) : BitVec 32 := stpN 4 (BitVec.ofNat 32 i)
def tabL (i : Nat) : List Int := (List.range 16).map fun j => if j < i then bv (tabV j) else 0
@[simp] theorem tabL_len (i : Nat) : (tabL i).length = 16 := by simp [tabL]
theorem tabL_set {i : Nat} (h : i < 16) : (tabL i).set i (bv (tabV i)) = tabL (i + 1) := by
  apply List.ext_getElem?
  intro j
  by_cases hj : j < 16
  · rw [List.getElem?_set]
    simp only [tabL, List.getElem?_map, List.getElem?_range hj, List.length_map, List.length_range, Option.map_some]
    by_cases hij : i = j
    · subst hij; simp [h]
    · rw [if_neg hij]
      congr 1
      by_cases h2 : j < i
      · rw [if_pos h2, if_pos (by omega)]
      · rw [if_neg h2, if_neg (by omega)]
  · rw [List.getElem?_eq_none (by rw [List.length_set, tabL_len]; omega), List.getElem?_eq_none (by rw [tabL_len]; omega)]
theorem tabL_get {j : Nat} (h : j < 16) : (tabL 16).getD j 0 = bv (tabV j) := by
  simp [tabL, List.getD_eq_getElem?_getD, List.getElem?_range h, h]
theorem and15 (r : BitVec 32) : 0 ≤ bv (r &&& 15#32) ∧ bv (r &&& 15#32) < 16 := by
  have : (r &&& 15#32).toNat ≤ 15 := by rw [BitVec.toNat_and]; exact Nat.and_le_right
  unfold bv; omega
theorem and_one (r : BitVec 32) : (r &&& 1#32 = 1#32) ↔ r.toNat % 2 = 1 := by
  rw [← BitVec.toNat_inj, BitVec.toNat_and]
  show r.toNat &&& 1 = 1 ↔ _
  rw [Nat.and_one_is_mod]
theorem stp_xor (x y : BitVec 32) : stp (x ^^^ y) = stp x ^^^ stp y := by
  have e : ∀ z : BitVec 32, (z &&& 1#32 = 1#32) ↔ z.getLsbD 0 = true := fun z => by
    rw [and_one, BitVec.getLsbD, Nat.testBit_zero]; simp
  simp only [stp, e, BitVec.getLsbD_xor, BitVec.ushiftRight_xor_distrib]
  have lc : ∀ a b c : BitVec 32, a ^^^ (b ^^^ c) = b ^^^ (a ^^^ c) := fun a b c => by rw [← BitVec.xor_assoc, BitVec.xor_comm a b, BitVec.xor_assoc]
  cases x.getLsbD 0 <;> cases y.getLsbD 0 <;> simp [BitVec.xor_assoc]
  · exact BitVec.xor_comm _ _
  · rw [lc, BitVec.xor_self, BitVec.xor_zero]
theorem stpN_xor (x y : BitVec 32) : ∀ k, stpN k (x ^^^ y) = stpN k x ^^^ stpN k y
  | 0 => rfl
  | k + 1 => by rw [stpN, stpN_xor x y k, stp_xor]; rfl
theorem stp_even {r : BitVec 32} (h : r.toNat % 2 = 0) : (stp r).toNat = r.toNat / 2 := by
  rw [stp, if_neg (by rw [and_one]; omega), BitVec.toNat_ushiftRight, Nat.shiftRight_eq_div_pow]
theorem stpN_four {r : BitVec 32} (h : r.toNat % 16 = 0) : stpN 4 r = r >>> 4 := by
  apply BitVec.eq_of_toNat_eq
  have h1 := stp_even (r := r) (by omega)
  have h2 := stp_even (r := stp r) (by omega)
  have h3 := stp_even (r := stp (stp r)) (by omega)
  have h4 := stp_even (r := stp (stp (stp r))) (by omega)
  rw [BitVec.toNat_ushiftRight, Nat.shiftRight_eq_div_pow]
  show (stp (stp (stp (stp r)))).toNat = _
  omega
theorem nib (r : BitVec 32) : (r >>> 4) ^^^ tabV (r &&& 15#32).toNat = stpN 4 r := by
  have e0 : r = (r &&& ~~~15#32) ^^^ (r &&& 15#32) := by
    apply BitVec.eq_of_getLsbD_eq
    intro i hi
    simp only [BitVec.getLsbD_xor, BitVec.getLsbD_and, BitVec.getLsbD_not, hi, decide_true, Bool.true_and]
    cases r.getLsbD i <;> cases (15#32).getLsbD i <;> rfl
  have e1 : (r &&& ~~~15#32).toNat % 16 = 0 := by
    have h : (r &&& ~~~15#32) &&& 15#32 = 0#32 := by
      rw [BitVec.and_assoc, BitVec.and_comm (~~~15#32), BitVec.and_not_self]; exact BitVec.and_zero
    have h2 := congrArg BitVec.toNat h
    rw [BitVec.toNat_and] at h2
    have h3 : (r &&& ~~~15#32).toNat &&& 15 = (r &&& ~~~15#32).toNat % 16 := Nat.and_two_pow_sub_one_eq_mod _ 4
    rw [← h3]; exact h2
  have e2 : (r &&& ~~~15#32) >>> 4 = r >>> 4 := by
    apply BitVec.eq_of_getLsbD_eq
    intro i hi
    simp only [BitVec.getLsbD_ushiftRight, BitVec.getLsbD_and, BitVec.getLsbD_not]
    by_cases h : 4 + i < 32
    · have : (15#32).getLsbD (4 + i) = false := by
        simp only [BitVec.getLsbD, BitVec.toNat_ofNat]
        exact Nat.testBit_lt_two_pow (by
          have : 2 ^ 4 ≤ 2 ^ (4 + i) := Nat.pow_le_pow_right (by decide) (by omega)
          simp; omega)
      simp only [this, Bool.not_false, Bool.and_true, h, decide_true]
    · rw [BitVec.getLsbD_of_ge r (4 + i) (by omega)]; simp
  have e3 : BitVec.ofNat 32 (r &&& 15#32).toNat = r &&& 15#32 := by apply BitVec.eq_of_toNat_eq; simp
  rw [tabV, e3]
  conv => rhs; rw [e0]
  rw [stpN_xor, stpN_four e1, e2]
theorem stpN_add (k : Nat) (r : BitVec 32) : ∀ m, stpN m (stpN k r) = stpN (m + k) r
  | 0 => by rw [Nat.zero_add]; rfl
  | m + 1 => by rw [stpN, stpN_add k r m, Nat.succ_add]; rfl

/-- The register behind the first bytes. -/
def crcF (b : List Int) : Nat → BitVec 32
  | 0 => 4294967295#32
  | i + 1 => stpN 8 (crcF b i ^^^ BitVec.ofInt 32 (b.getD i 0))
def crcQ (b : List Int) : BitVec 32 := ~~~(crcF b b.length)
theorem crc_step (r : BitVec 32) : ((r >>> 4 ^^^ tabV (r &&& 15#32).toNat) >>> 4) ^^^ tabV ((r >>> 4 ^^^ tabV (r &&& 15#32).toNat) &&& 15#32).toNat = stpN 8 r := by
  rw [nib, nib, stpN_add]
theorem tab_in (r : BitVec 32) : 0 + (bv (r &&& 15#32)).toNat < (tabL 16).length := by
  rw [tabL_len]; have := and15 r; omega
theorem bop_xor_tab (x r : BitVec 32) : bop .xor (.int .u32 (bv x)) (.int .u32 ((tabL 16).getD (0 + (bv (r &&& 15#32)).toNat) 0)) = some (.int .u32 (bv (x ^^^ tabV (r &&& 15#32).toNat))) := by
  have e : 0 + (bv (r &&& 15#32)).toNat = (r &&& 15#32).toNat := by unfold bv; simp
  have h : (r &&& 15#32).toNat < 16 := by have := and15 r; unfold bv at this; omega
  rw [e, tabL_get h]; exact bop_xor_bv _ _
/-- Bytes. -/
def ByR (L : List Int) : Prop := ∀ x ∈ L, 0 ≤ x ∧ x < 256
theorem ByR.getD {L : List Int} (h : ByR L) (i : Nat) : 0 ≤ L.getD i 0 ∧ L.getD i 0 < 256 := by
  by_cases hi : i < L.length
  · exact h _ (getD_mem' hi)
  · rw [List.getD_eq_getElem?_getD, List.getElem?_eq_none (by omega)]; decide
theorem ByR.wide {L : List Int} (h : ByR L) (i : Nat) : 0 ≤ L.getD i 0 ∧ L.getD i 0 < 4294967296 := by have := h.getD i; omega
/-- A number in so many bytes, the lowest first. -/
def leB (n : Int) : Nat → List Int
  | 0 => []
  | k + 1 => leB n k ++ [n / 256 ^ k % 256]
theorem div_step (n : Int) (i : Nat) : n / 256 ^ i / 256 = n / 256 ^ (i + 1) := by
  rw [Int.pow_succ, Int.ediv_ediv_of_nonneg (Int.le_of_lt (Int.pow_pos (by decide)))]
@[simp] theorem leB_len (n : Int) : ∀ k, (leB n k).length = k
  | 0 => rfl
  | k + 1 => by simp [leB, leB_len n k]
theorem leB_by (n : Int) : ∀ k, ByR (leB n k)
  | 0 => fun x h => by cases h
  | k + 1 => fun x h => by
    rw [leB, List.mem_append] at h
    rcases h with h | h
    · exact leB_by n k x h
    · simp at h; omega
theorem ByR.append {A B : List Int} (h : ByR A) (k : ByR B) : ByR (A ++ B) := fun x hx => by
  rcases List.mem_append.1 hx with hx | hx
  · exact h x hx
  · exact k x hx
theorem ByR.rep {n : Nat} : ByR (List.replicate n 0) := fun x hx => by rw [List.eq_of_mem_replicate hx]; decide
theorem ByR.take {A : List Int} (h : ByR A) (n : Nat) : ByR (A.take n) := fun x hx => h x (List.mem_of_mem_take hx)
theorem ByR.drop {A : List Int} (h : ByR A) (n : Nat) : ByR (A.drop n) := fun x hx => h x (List.mem_of_mem_drop hx)
/-- Sectors of a record. -/
def cntQ (n : Nat) : Nat := (n + 73) / 64
/-- The form of a record. -/
def headQ (n : Int) (b : List Int) : List Int := leB n 4 ++ leB (b.length : Int) 2 ++ b
def bodyQ (n : Int) (b : List Int) : List Int := headQ n b ++ leB (bv (crcQ (headQ n b))) 4
def formQ (n : Int) (b : List Int) : List Int := bodyQ n b ++ List.replicate (cntQ b.length * 64 - (b.length + 10)) 0
theorem headQ_len (n : Int) (b : List Int) : (headQ n b).length = b.length + 6 := by simp [headQ, leB_len]; omega
theorem bodyQ_len (n : Int) (b : List Int) : (bodyQ n b).length = b.length + 10 := by simp [bodyQ, headQ_len, leB_len]
theorem cntQ_le (n : Nat) : n + 10 ≤ cntQ n * 64 := by unfold cntQ; omega
theorem formQ_len (n : Int) (b : List Int) : (formQ n b).length = cntQ b.length * 64 := by
  have := cntQ_le b.length
  simp [formQ, bodyQ_len]; omega
theorem headQ_by {n : Int} {b : List Int} (h : ByR b) : ByR (headQ n b) := ((leB_by _ _).append (leB_by _ _)).append h
theorem formQ_by {n : Int} {b : List Int} (h : ByR b) : ByR (formQ n b) := ((headQ_by h).append (leB_by _ _)).append .rep
end Go.VL

/- The message, plain: the form of an edit. -/
set_option linter.unusedVariables false
set_option linter.unusedSimpArgs false
namespace Go.VL
structure Mov where
  step : Int
  coord : Int
  nn : Bool
  nm : List Int
  dn : Bool
  dm : List Int
structure Edt where
  au : Int
  sq : Int
  st : Int
  seen : List Int
  kind : Int
  text : ByteArray
  names : List ByteArray
  moves : List Mov
  oa : Int
  os : Int
  pk : Int
def mvB (m : Mov) : List B := [numB .i64 m.step, numB .i64 m.coord, boolB m.nn, slK .u32 m.nm, boolB m.dn, slK .u32 m.dm]
theorem mvB_len : ∀ m, (mvB m).length = 6 := fun _ => rfl
abbrev mv0 : Mov := ⟨0, 0, false, [], false, []⟩
def stB (b : ByteArray) : List B := [.lit (.string b)]
theorem stB_len : ∀ b, (stB b).length = 1 := fun _ => rfl
def edB (e : Edt) : List B := [numB .i64 e.au, numB .i64 e.sq, numB .i64 e.st, slK .i64 e.seen, numB .i64 e.kind, .lit (.string e.text), slT 1 stB e.names, slT 6 mvB e.moves, numB .i64 e.oa, numB .i64 e.os, numB .i64 e.pk]
/-- A number in groups of seven bits. -/
def numQ (n : Nat) : List Int := if n < 128 then [(n : Int)] else ((n % 128 + 128 : Nat) : Int) :: numQ (n / 128)
theorem numQ_lo {n : Nat} (h : n < 128) : numQ n = [(n : Int)] := by rw [numQ, if_pos h]
theorem numQ_hi {n : Nat} (h : ¬ n < 128) : numQ n = ((n % 128 + 128 : Nat) : Int) :: numQ (n / 128) := by rw [numQ, if_neg h]
theorem numQ_by (n : Nat) : ByR (numQ n) := by
  induction n using Nat.strongRecOn with
  | ind n ih =>
    by_cases h : n < 128
    · rw [numQ_lo h]; intro x hx; simp at hx; omega
    · rw [numQ_hi h]
      intro x hx
      rcases List.mem_cons.1 hx with rfl | hx
      · omega
      · exact ih _ (by omega) x hx
theorem bop_or128 {x : Int} : bop .or (.int .u8 (x % 256)) (.int .u8 128) = some (.int .u8 (x % 128 + 128)) := by
  have e : ((BitVec.ofInt 8 (x % 256) ||| BitVec.ofInt 8 128).toNat : Int) = x % 128 + 128 := by
    have h1 : (BitVec.ofInt 8 (x % 256)).toNat = (x % 256).toNat := by rw [BitVec.toNat_ofInt]; congr 1; simp
    have key : ∀ b : Fin 256, b.val ||| 128 = b.val % 128 + 128 := by decide +kernel
    have h2 := key ⟨(x % 256).toNat, by omega⟩
    rw [BitVec.toNat_or, h1]
    show (((x % 256).toNat ||| 128 : Nat) : Int) = _
    rw [h2]; simp only; omega
  show some (Value.int .u8 (IntKind.wrap .u8 ((BitVec.ofInt 8 (x % 256) ||| BitVec.ofInt 8 128).toNat : Int))) = _
  rw [e, wrap_u8 (by omega)]
/-- The limbs of an integer. -/
def limsQ : List Int → List Int
  | [] => []
  | x :: l => leB x 4 ++ limsQ l
theorem limsQ_app : ∀ (l : List Int) (x : Int), limsQ (l ++ [x]) = limsQ l ++ leB x 4
  | [], x => by simp [limsQ]
  | y :: l, x => by simp [limsQ, limsQ_app l x, List.append_assoc]
theorem numQ_len1 (n : Nat) : 1 ≤ (numQ n).length := by
  by_cases h : n < 128
  · rw [numQ_lo h]; simp
  · rw [numQ_hi h]; simp
theorem numQ_lenB : ∀ (k n : Nat), n < 128 ^ (k + 1) → (numQ n).length ≤ k + 1
  | 0, n, h => by rw [numQ_lo (by simpa using h)]; simp
  | k + 1, n, h => by
    by_cases h1 : n < 128
    · rw [numQ_lo h1]; simp
    · rw [numQ_hi h1, List.length_cons]
      have := numQ_lenB k (n / 128) (by rw [Nat.pow_succ] at h; exact Nat.div_lt_of_lt_mul (by rw [Nat.mul_comm]; exact h))
      omega
theorem numQ_len {n : Nat} (h : n ≤ 9223372036854775807) : (numQ n).length ≤ 9 := numQ_lenB 8 n (Nat.lt_of_le_of_lt h (by decide))
theorem num_eq {x : Int} (hx : x ≥ 128) : numQ x.toNat = (x % 128 + 128) :: numQ (x / 128).toNat := by
  rw [numQ_hi (n := x.toNat) (by omega), show x.toNat / 128 = (x / 128).toNat by omega, show ((x.toNat % 128 + 128 : Nat) : Int) = x % 128 + 128 by omega]
theorem num_step {x : Int} {R Z : List Int} (hx : x ≥ 128) (h : R ++ numQ x.toNat = Z) : (R ++ [x % 128 + 128]) ++ numQ (x / 128).toNat = Z := by
  rw [← h, num_eq hx]; simp
theorem num_len {x : Int} {q z : Nat} (hx : x ≥ 128) (h : q + (numQ x.toNat).length = z) : q + 1 + (numQ (x / 128).toNat).length = z := by
  rw [← h, num_eq hx, List.length_cons]; omega
theorem num_fin {x : Int} {R Z : List Int} (hx : x < 128) (h0 : 0 ≤ x) (h : R ++ numQ x.toNat = Z) : R ++ [x % 256] = Z := by
  rw [← h, numQ_lo (by omega), show ((x.toNat : Nat) : Int) = x % 256 by omega]
theorem num_finl {x : Int} {q z : Nat} (hx : x < 128) (h0 : 0 ≤ x) (h : q + (numQ x.toNat).length = z) : q + 1 = z := by
  rw [← h, numQ_lo (by omega)]; rfl
end Go.VL

/- A small program logic over the translated Go code, further part: facts of this program's types. -/
set_option linter.unusedVariables false
set_option maxRecDepth 100000
namespace Go.VL
open Go.Proofs
theorem TA4 : aggOf Try.prog 4 = some false := by kernel_rfl
theorem TA5 : aggOf Try.prog 5 = some false := by kernel_rfl
theorem TA52 : aggOf Try.prog 52 = some false := by kernel_rfl
theorem TA53 : aggOf Try.prog 53 = some false := by kernel_rfl
theorem TA55 : aggOf Try.prog 55 = some true := by kernel_rfl
theorem TF55_0 : fieldOf Try.prog 55 0 = some (0, 1, false) := by kernel_rfl
theorem TF55_1 : fieldOf Try.prog 55 1 = some (1, 1, false) := by kernel_rfl
theorem TK23 : SlT Try.prog 23 5 (numB .u8 (0)) 1 := ⟨Try.underlying23, by kernel_rfl, by kernel_rfl, by kernel_rfl⟩
theorem TK52 : SlT Try.prog 52 53 (numB .u32 (0)) 4 := ⟨Try.underlying52, by kernel_rfl, by kernel_rfl, by kernel_rfl⟩
theorem TQ55 : StT Try.prog 55 [boolB (false), u32S ([])] [(0, 1), (1, 1)] := ⟨by kernel_rfl, ⟨_, Try.underlying55, by kernel_rfl⟩, fun k q h => match k, h with | 0, h => by injection h with h; subst h; kernel_rfl | 1, h => by injection h with h; subst h; kernel_rfl | k + 2, h => by simp at h⟩
theorem TS5 : szOf Try.prog 5 = some 1 := by kernel_rfl
theorem TS53 : szOf Try.prog 53 = some 1 := by kernel_rfl
theorem TS55 : szOf Try.prog 55 = some 2 := by kernel_rfl
theorem TU3 : Try.prog.underlying 3 = some (.int .i64) := Try.underlying3
theorem TU4 : Try.prog.underlying 4 = some .bool := Try.underlying4
theorem TU5 : Try.prog.underlying 5 = some (.int .u8) := Try.underlying5
theorem TU9 : Try.prog.underlying 9 = some .string := Try.underlying9
theorem TU22 : Try.prog.underlying 22 = some (.int .u64) := Try.underlying22
theorem TU23 : Try.prog.underlying 23 = some (.slice 5) := Try.underlying23
theorem TU52 : Try.prog.underlying 52 = some (.slice 53) := Try.underlying52
theorem TU53 : Try.prog.underlying 53 = some (.int .u32) := Try.underlying53
theorem TZ55 : zeroOf Try.prog 55 = some [boolB (false), u32S ([])] := by kernel_rfl
end Go.VL

/- Walks over the Go functions, printed by a program of this session over the kit's print, and by hand. -/
set_option linter.unusedVariables false
set_option linter.unusedSimpArgs false
namespace Go.VL
open Go.Proofs
theorem f64 (L : List Int) (hL : L.length ≤ 1000000000) (ho : ok32 L) : VF Try.prog 111 [u32S (L)] (u32S (dg (val L))) := by
  refine VF_of P_mixed Try.func111 rfl rfl (by kernel_rfl) <| Sq <| Rg <| Vs (As rfl) <| Nx <| Sq <| Rg <| Vs (Mv rfl) <| Vs (Ls TK52 rfl) <| Vs (As rfl) <| Nx <| Sq <| Bk <| VCode.loop (α := (Int)) (fun k => (0, sl [(0, vS (L)), (3, vI .i64 (k))], en [])) (fun k => 0 ≤ k ∧ k ≤ L.length ∧ ∀ i : Nat, k ≤ i → i < L.length → L.getD i 0 = 0) (fun k => k.toNat) ((L.length : Int)) ⟨by omega, by omega, fun i h1 h2 => by omega⟩ Wk ?_
  intro k hok
  change VCode _ _ _ 0 (sl _) (en _) _
  refine Sq <| Sq <| Rg <| Vs (Mv rfl) <| Vs (Bi rfl) <| Vs (Mv rfl) <| Sp 8 rfl (fun hc1 => ?_) (fun hc1 => ?_)
  · replace hc1 := of_decide_eq_true hc1
    refine Vs (Mv rfl) <| Vs (Mv rfl) <| Vs (Bo rfl suI) <| Vs (Ix TK52 rfl) <| Vs (Lq TA53 rfl) <| Vs (Bi rfl) <| Vs (Pk rfl) <| Nx <| Cd rfl (fun hc2 => ?_) (fun hc2 => ?_)
    · replace hc2 := eq_of_beq hc2
      exact Ks <| Tg <| Bk <| Rg <| Vs (Mv rfl) <| Vs (Bo rfl suI) <| Vs (As rfl) <| VList.nil <| Ig <| Go (k - 1) (by obtain ⟨h1, h2, h3⟩ := hok; refine ⟨by omega, by omega, fun i hi hl => ?_⟩; by_cases hq : k ≤ i; exact h3 i hq hl; have e : i = (k - 1).toNat := (by omega); rw [e]; assumption) Wk
    · replace hc2 := ne_of_beq_false hc2
      exact Ke <| Te <| Oe <| Ih <| Tg <| Sq <| Rg <| Vs (Mv rfl) <| Vs (Mv rfl) <| Vs (Ct TK52 rfl) <| Vs (As rfl) <| Nx <| Re <| Fi (l := [u32S ((L).take (k).toNat)]) (Rc (resVar_tmp rfl rfl) Rn) (by rw [dg_take (k := k.toNat) ho (by omega) (fun i h1 h2 => hok.2.2 i (by omega) h2) (.inr (by have e : k.toNat - 1 = (k - 1).toNat := (by omega); rw [e]; assumption))]; rfl)
  · replace hc1 := of_decide_eq_false hc1
    exact Sk rfl <| Sk rfl <| Sk rfl <| Sk rfl <| Sk rfl <| Sk rfl <| Vs (Pk rfl) <| Nx <| Cz rfl <| Ke <| Te <| Oe <| Ih <| Tg <| Sq <| Rg <| Vs (Mv rfl) <| Vs (Mv rfl) <| Vs (Ct TK52 rfl) <| Vs (As rfl) <| Nx <| Re <| Fi (l := [u32S ((L).take (k).toNat)]) (Rc (resVar_tmp rfl rfl) Rn) (by rw [dg_take (k := k.toNat) ho (by omega) (fun i h1 h2 => hok.2.2 i (by omega) h2) (.inl (by omega))]; rfl)
theorem f36 (neg : Bool) (L : List Int) (hL : L.length ≤ 9223372036854775807) : VF Try.prog 49 [.agg [boolB (neg), u32S (L)]] (boolB (validB neg L)) := by
  refine VF_of P_mixed Try.func49 rfl rfl (by kernel_rfl) <| Sq <| Rg <| Vs (Bx 0 rfl) <| Vs (As rfl) <| Nx <| Sq <| Rg <| Vs (Fa TF55_1 rfl) <| Vs (Ld TA52 rfl) <| Vs (Ls TK52 rfl) <| Vs (As rfl) <| Nx <| Sq <| Sq <| Rg <| Vs (Mv rfl) <| Vs (Bi rfl) <| Nx <| Cd rfl (fun hc1 => ?_) (fun hc1 => ?_)
  · replace hc1 := eq_of_beq hc1
    exact Sq <| Rg <| Vs (Fa TF55_0 rfl) <| Vs (Ld TA4 rfl) <| Vs (Un rfl) <| Vs (As rfl) <| Nx <| Re <| Tr <| Fi (l := [boolB ((!neg))]) (Rc (resVar_tmp rfl rfl) Rn) (by rw [validB_nil (by omega)]; rfl)
  · replace hc1 := ne_of_beq_false hc1
    refine Ks <| Tg <| Sq <| Rg <| Vs (Mv rfl) <| Vs (Bi rfl) <| Vs (Mv rfl) <| Sp 14 rfl (fun hc2 => ?_) (fun hc2 => ?_)
    · replace hc2 := of_decide_eq_true hc2
      exact Vs (Fa TF55_1 rfl) <| Vs (Ld TA52 rfl) <| Vs (Mv rfl) <| Vs (Bo rfl suI) <| Vs (Ix TK52 rfl) <| Vs (Lq TA53 rfl) <| Vs (Bi rfl) <| Vs (Pk rfl) <| Vs (As rfl) <| Nx <| Re <| Fi (l := [boolB (((L).getD ((((L).length : Int) - 1)).toNat 0 != 0))]) (Rc (resVar_tmp rfl rfl) Rn) (by rw [validB_some (q := ((((L).length : Int) - 1)).toNat) (by omega) (by omega) (by omega)]; rfl)
    · replace hc2 := of_decide_eq_false hc2
      exact Sk rfl <| Sk rfl <| Sk rfl <| Sk rfl <| Sk rfl <| Sk rfl <| Sk rfl <| Vs (Pk rfl) <| Vs (As rfl) <| Nx <| Re <| Fi (l := [boolB (false)]) (Rc (resVar_tmp rfl rfl) Rn) (by rw [validB_long (by omega)]; rfl)
theorem f50 (n : Bool) (A : List Int) (m : Bool) (B : List Int) (hA : A.length ≤ 9223372036854775807) (hB : B.length ≤ 9223372036854775807) : VF Try.prog 95 [.agg [boolB (n), u32S (A)], .agg [boolB (m), u32S (B)]] (boolB (validB n A && validB m B)) := by
  refine VF_of P_mixed Try.func95 rfl rfl (by kernel_rfl) <| Sq <| Rg <| Vs (Bx 0 rfl) <| Vs (Bx 1 rfl) <| Vs (As rfl) <| Nx <| Sq <| Rg <| Vs (LdS TA55 TS55 rfl) <| Vs (Cf rfl rfl (f36 _ _ (by first | omega | assumption | (simp; done) | (simp; omega))) rfl) <| Vs (Mv rfl) <| Sp 7 rfl (fun hc1 => ?_) (fun hc1 => ?_)
  · replace hc1 := hc1
    exact Vs (LdS TA55 TS55 rfl) <| Vs (Cf rfl rfl (f36 _ _ (by first | omega | assumption | (simp; done) | (simp; omega))) rfl) <| Vs (Pk rfl) <| Vs (As rfl) <| Nx <| Re <| Fi (l := [boolB ((validB (m) (B)))]) (Rc (resVar_tmp rfl rfl) Rn) (by rw [hc1, Bool.true_and]; rfl)
  · replace hc1 := hc1
    exact Sk rfl <| Sk rfl <| Vs (Pk rfl) <| Vs (As rfl) <| Nx <| Re <| Fi (l := [boolB (false)]) (Rc (resVar_tmp rfl rfl) Rn) (by rw [hc1, Bool.false_and]; rfl)
theorem f52 (A B : List Int) (hA : A.length ≤ 900000000) (hB : B.length ≤ 900000000) (oA : ok32 A) (oB : ok32 B) : VF Try.prog 99 [u32S (A), u32S (B)] (u32S (dg (val A + val B))) := by
  refine VF_of P_mixed Try.func99 rfl rfl (by kernel_rfl) <| Sq <| Rg <| Vs (As rfl) <| Nx <| VCode.join (α := (List Int) × (List Int)) (fun x_ => match x_ with | (X, Y) => (0, sl [(0, vS (X)), (1, vS (Y))], en [])) (fun x_ => match x_ with | (X, Y) => (ok32 X ∧ ok32 Y) ∧ Y.length ≤ X.length ∧ X.length ≤ 900000000 ∧ val X + val Y = val A + val B) ?_ ?_
  · skip
    refine Sq <| Rg <| Vs (Mv rfl) <| Vs (Ls TK52 rfl) <| Vs (Mv rfl) <| Vs (Ls TK52 rfl) <| Vs (Bi rfl) <| Nx <| Cd rfl (fun hc1 => ?_) (fun hc1 => ?_)
    · replace hc1 := of_decide_eq_true hc1
      exact Rg <| Vs (Mv rfl) <| Vs (Mv rfl) <| Vs (As rfl) <| Vs (As rfl) <| VList.nil <| Jg (B, A) ⟨⟨oB, oA⟩, by omega, by omega, by omega⟩ Wk
    · replace hc1 := of_decide_eq_false hc1
      exact Ks <| Jg (A, B) ⟨⟨oA, oB⟩, by omega, by omega, by omega⟩ Wk
  · rintro ⟨X, Y⟩ hok
    obtain ⟨⟨hX, hY⟩, hl, hLX, he⟩ := hok
    change VCode _ _ _ 0 (sl _) (en _) _
    refine Sq <| Rg <| Vs (Mv rfl) <| Vs (Ls TK52 rfl) <| Vs (Bo rfl adI) <| Vs (Mk 3 TK52 rfl) <| Vs (As rfl) <| Nx <| Sq <| Rg <| Vs (Mv rfl) <| Vs (Mv rfl) <| Vs (Cp TK52 rfl rfl) <| Nx <| Sq <| Rg <| Vs (As rfl) <| Nx <| Sq <| Sq <| Rg <| Vs (Mv rfl) <| Vs (Ls TK52 rfl) <| Vs (Mv rfl) <| Nx <| Bk <| VCode.loop (α := (Nat) × (Int) × (List Int)) (fun x_ => match x_ with | (n, c, O) => (4, sl [(0, vS (X)), (1, vS (Y)), (5, .own 3 (((((X).length : Int) + 1)).toNat)), (6, vI .u64 (c)), (24, vI .i64 (((X).length : Int))), (25, vI .i64 ((n : Int)))], en [(3, rowK .u32 (O))])) (fun x_ => match x_ with | (n, c, O) => SumInv X Y O n c) (fun x_ => match x_ with | (n, c, O) => X.length - n) (0, 0, (X).take (Nat.min (X).length (((X).length : Int) + 1).toNat) ++ (List.replicate (((X).length : Int) + 1).toNat 0).drop (Nat.min (X).length (((X).length : Int) + 1).toNat)) (SumInv.start (by first | omega | (simp; done) | (simp; omega))) Wk ?_
    rintro ⟨n, c, O⟩ hok
    change VCode _ _ _ 4 (sl _) (en _) _
    refine Sq <| Rg <| Vs (Bi rfl) <| Nx <| Sq <| Cd rfl (fun hc2 => ?_) (fun hc2 => ?_)
    · replace hc2 := of_decide_eq_true hc2
      refine Ks <| Tg <| Sq <| Bk <| Sq <| Rg <| Vs (Mv rfl) <| Vs (As rfl) <| Nx <| Sq <| ?_
      have hx := ok32_getD hX n
      have hy := ok32_getD hY n
      have h0 := hok.c0
      have h1 := hok.c1
      have hO := hok.len
      refine Rg <| Vs (Mv rfl) <| Vs (Mv rfl) <| Vs (IxN TK52 rfl) <| Vs (Lq TA53 rfl) <| Vs (Cv TU53 TU22 rfl wrW) <| Vs (Mv rfl) <| Vs (Bo rfl adW) <| Vs (As rfl) <| Nx <| Sq <| Sq <| Rg <| Vs (Mv rfl) <| Vs (Mv rfl) <| Vs (Ls TK52 rfl) <| Vs (Bi rfl) <| Nx <| Cd rfl (fun hc3 => ?_) (fun hc3 => ?_)
      · replace hc3 := of_decide_eq_true hc3
        exact Rg <| Vs (Mv rfl) <| Vs (Mv rfl) <| Vs (Mv rfl) <| Vs (IxN TK52 rfl) <| Vs (Lq TA53 rfl) <| Vs (Cv TU53 TU22 rfl wrW) <| Vs (Bo rfl adW) <| Vs (As rfl) <| Nx <| Sq <| Rg <| Vs (Mv rfl) <| Vs (Mv rfl) <| Vs (Mv rfl) <| Vs (Cv TU22 TU53 rfl (wrapM_u32 _)) <| Vs (IrN TK52 rfl) <| Vs (SrK TS53 rfl) <| Nx <| Rg <| Vs (Mv rfl) <| Vs (Bo rfl (srW 4294967296)) <| Vs (As rfl) <| VList.nil <| Ig <| Tg <| Rg <| Vs (Bo rfl adI) <| Vs (Mv rfl) <| VList.nil <| Go (n + 1, (X.getD n 0 + c + Y.getD n 0) / 4294967296, O.set n ((X.getD n 0 + c + Y.getD n 0) % 4294967296)) (SumInv.step hX hY hok (by omega) (by first | rfl | (rw [getD_out (L := Y) (by omega)]; omega))) Wk
      · replace hc3 := of_decide_eq_false hc3
        exact Ks <| Tg <| Sq <| Rg <| Vs (Mv rfl) <| Vs (Mv rfl) <| Vs (Mv rfl) <| Vs (Cv TU22 TU53 rfl (wrapM_u32 _)) <| Vs (IrN TK52 rfl) <| Vs (SrK TS53 rfl) <| Nx <| Rg <| Vs (Mv rfl) <| Vs (Bo rfl (srW 4294967296)) <| Vs (As rfl) <| VList.nil <| Ig <| Tg <| Rg <| Vs (Bo rfl adI) <| Vs (Mv rfl) <| VList.nil <| Go (n + 1, (X.getD n 0 + c) / 4294967296, O.set n ((X.getD n 0 + c) % 4294967296)) (SumInv.step hX hY hok (by omega) (by first | rfl | (rw [getD_out (L := Y) (by omega)]; omega))) Wk
    · replace hc2 := of_decide_eq_false hc2
      refine Ke <| Te <| Oe <| Ih <| Tg <| Sq <| ?_
      have hn := hok.le
      have hO := hok.len
      obtain ⟨e1, e2⟩ := hok.fin (by omega) hl
      exact Rg <| Vs (Mv rfl) <| Vs (Mv rfl) <| Vs (Ls TK52 rfl) <| Vs (Mv rfl) <| Vs (Cv TU22 TU53 rfl (wrapM_u32 _)) <| Vs (IrN TK52 rfl) <| Vs (SrK TS53 rfl) <| Nx <| Sq <| Rg <| Vs (Mv rfl) <| Vs (Cc rfl (Rk (Rr rfl) Rz) (f64 _ (by first | omega | assumption | (simp; done) | (simp; omega)) (e2))) <| Vs (As rfl) <| Nx <| Re <| Fi (l := [u32S (dg (val ((O).set (((X).length)) (((c) % 4294967296)))))]) (Rc (resVar_tmp rfl rfl) Rn) (by rw [e1, he]; rfl)
theorem f53 (A B : List Int) (hA : A.length ≤ 900000000) (hB : B.length ≤ 900000000) (oA : ok32 A) (oB : ok32 B) (hl : B.length ≤ A.length) (hv : val B ≤ val A) : VF Try.prog 100 [u32S (A), u32S (B)] (u32S (dg (val A - val B))) := by
  refine VF_of P_mixed Try.func100 rfl rfl (by kernel_rfl) <| Sq <| Rg <| Vs (As rfl) <| Nx <| Sq <| Rg <| Vs (Mv rfl) <| Vs (Ls TK52 rfl) <| Vs (Mk 3 TK52 rfl) <| Vs (As rfl) <| Nx <| Sq <| Rg <| Vs (Mv rfl) <| Vs (Mv rfl) <| Vs (Cp TK52 rfl rfl) <| Nx <| Sq <| Rg <| Vs (As rfl) <| Nx <| Sq <| Sq <| Rg <| Vs (Mv rfl) <| Vs (Ls TK52 rfl) <| Vs (Mv rfl) <| Nx <| Bk <| VCode.loop (α := (Nat) × (Int) × (List Int)) (fun x_ => match x_ with | (n, c, O) => (4, sl [(0, vS (A)), (1, vS (B)), (5, .own 3 ((((A).length : Int)).toNat)), (6, vI .u64 (c)), (16, vI .i64 (((A).length : Int))), (17, vI .i64 ((n : Int)))], en [(3, rowK .u32 (O))])) (fun x_ => match x_ with | (n, c, O) => DiffInv A B O n c) (fun x_ => match x_ with | (n, c, O) => A.length - n) (0, 0, (A).take (Nat.min (A).length (((A).length : Int)).toNat) ++ (List.replicate (((A).length : Int)).toNat 0).drop (Nat.min (A).length (((A).length : Int)).toNat)) (DiffInv.start (by simp)) Wk ?_
  rintro ⟨n, c, O⟩ hok
  change VCode _ _ _ 4 (sl _) (en _) _
  refine Sq <| Rg <| Vs (Bi rfl) <| Nx <| Sq <| Cd rfl (fun hc1 => ?_) (fun hc1 => ?_)
  · replace hc1 := of_decide_eq_true hc1
    refine Ks <| Tg <| Sq <| Bk <| Sq <| Rg <| Vs (Mv rfl) <| Vs (As rfl) <| Nx <| Sq <| ?_
    have hx := ok32_getD oA n
    have hy := ok32_getD oB n
    have h0 := hok.c0
    have h1 := hok.c1
    have hO := hok.len
    refine Rg <| Vs (Mv rfl) <| Vs (Mv rfl) <| Vs (IxN TK52 rfl) <| Vs (Lq TA53 rfl) <| Vs (Cv TU53 TU22 rfl wrW) <| Vs (Mv rfl) <| Vs (Bo (c := .int .u64 ((((A).getD (n) 0 - c) % 18446744073709551616))) rfl (bopM_sub_u64 _ _)) <| Vs (As rfl) <| Nx <| Sq <| Sq <| Rg <| Vs (Mv rfl) <| Vs (Mv rfl) <| Vs (Ls TK52 rfl) <| Vs (Bi rfl) <| Nx <| Cd rfl (fun hc2 => ?_) (fun hc2 => ?_)
    · replace hc2 := of_decide_eq_true hc2
      exact Rg <| Vs (Mv rfl) <| Vs (Mv rfl) <| Vs (Mv rfl) <| Vs (IxN TK52 rfl) <| Vs (Lq TA53 rfl) <| Vs (Cv TU53 TU22 rfl wrW) <| Vs (Bo (c := .int .u64 ((((((A).getD (n) 0 - c) % 18446744073709551616) - (B).getD (n) 0) % 18446744073709551616))) rfl (bopM_sub_u64 _ _)) <| Vs (As rfl) <| Nx <| Sq <| Rg <| Vs (Mv rfl) <| Vs (Mv rfl) <| Vs (Mv rfl) <| Vs (Cv TU22 TU53 rfl (wrapM_u32 _)) <| Vs (IrN TK52 rfl) <| Vs (SrK TS53 rfl) <| Nx <| Rg <| Vs (Mv rfl) <| Vs (Bo rfl (srW 9223372036854775808)) <| Vs (As rfl) <| VList.nil <| Ig <| Tg <| Rg <| Vs (Bo rfl adI) <| Vs (Mv rfl) <| VList.nil <| Go (n + 1, ((A.getD n 0 - c) % 18446744073709551616 - B.getD n 0) % 18446744073709551616 / 9223372036854775808, O.set n (((A.getD n 0 - c) % 18446744073709551616 - B.getD n 0) % 18446744073709551616 % 4294967296)) (DiffInv.step oA oB hok (by omega) (by first | omega | (rw [getD_out (L := B) (by omega)]; omega))) Wk
    · replace hc2 := of_decide_eq_false hc2
      exact Ks <| Tg <| Sq <| Rg <| Vs (Mv rfl) <| Vs (Mv rfl) <| Vs (Mv rfl) <| Vs (Cv TU22 TU53 rfl (wrapM_u32 _)) <| Vs (IrN TK52 rfl) <| Vs (SrK TS53 rfl) <| Nx <| Rg <| Vs (Mv rfl) <| Vs (Bo rfl (srW 9223372036854775808)) <| Vs (As rfl) <| VList.nil <| Ig <| Tg <| Rg <| Vs (Bo rfl adI) <| Vs (Mv rfl) <| VList.nil <| Go (n + 1, (A.getD n 0 - c) % 18446744073709551616 / 9223372036854775808, O.set n ((A.getD n 0 - c) % 18446744073709551616 % 4294967296)) (DiffInv.step oA oB hok (by omega) (by first | omega | (rw [getD_out (L := B) (by omega)]; omega))) Wk
  · replace hc1 := of_decide_eq_false hc1
    refine Ke <| Te <| Oe <| Ih <| Tg <| Sq <| ?_
    have hn := hok.le
    have hO := hok.len
    obtain ⟨e1, e2⟩ := hok.fin oB (by omega) hl hv
    exact Rg <| Vs (Mv rfl) <| Vs (Cc rfl (Rk (Rr rfl) Rz) (f64 _ (by first | omega | assumption | (simp; done) | (simp; omega)) (e2))) <| Vs (As rfl) <| Nx <| Re <| Fi (l := [u32S (dg (val (O)))]) (Rc (resVar_tmp rfl rfl) Rn) (by rw [e1]; rfl)
theorem f60 (A : List Int) (d : Int) (hA : A.length ≤ 900000000) (oA : ok32 A) (hd : 0 < d) (hd1 : d < 4294967296) : VF Try.prog 110 [u32S (A), numB .u32 (d)] (.tup [u32S (dg (val A / d)), numB .u32 (val A % d)]) := by
  refine VF_of P_mixed Try.func110 rfl rfl (by kernel_rfl) <| Sq <| Rg <| Vs (As rfl) <| Vs (As rfl) <| Nx <| Sq <| Rg <| Vs (Mv rfl) <| Vs (Ls TK52 rfl) <| Vs (Mk 4 TK52 rfl) <| Vs (As rfl) <| Nx <| Sq <| Rg <| Vs (As rfl) <| Nx <| Sq <| Sq <| Rg <| Vs (Mv rfl) <| Vs (Ls TK52 rfl) <| Vs (Mv rfl) <| Nx <| Bk <| VCode.loop (α := (Nat) × (Int) × (List Int)) (fun x_ => match x_ with | (n, r, O) => (5, sl [(0, vS (A)), (1, vI .u32 (d)), (6, .own 4 ((((A).length : Int)).toNat)), (7, vI .u64 (r)), (15, vI .i64 (((A).length : Int))), (16, vI .i64 ((n : Int)))], en [(4, rowK .u32 (O))])) (fun x_ => match x_ with | (n, r, O) => SmallInv A O d n r) (fun x_ => match x_ with | (n, r, O) => A.length - n) (0, 0, List.replicate (((A).length : Int)).toNat 0) (SmallInv.start (by simp) hd) Wk ?_
  rintro ⟨n, r, O⟩ hok
  change VCode _ _ _ 5 (sl _) (en _) _
  refine Sq <| Rg <| Vs (Bi rfl) <| Nx <| Sq <| Cd rfl (fun hc1 => ?_) (fun hc1 => ?_)
  · replace hc1 := of_decide_eq_true hc1
    refine Ks <| Tg <| Sq <| Bk <| Sq <| Rg <| Vs (Mv rfl) <| Vs (As rfl) <| Nx <| Sq <| Rg <| Vs (Mv rfl) <| Vs (Ls TK52 rfl) <| Vs (Bo rfl suI) <| Vs (Mv rfl) <| Vs (Bo rfl suI) <| Vs (As rfl) <| Nx <| Sq <| ?_
    have hx := ok32_getD oA ((((A).length : Int) - 1) - (n : Int)).toNat
    have h0 := hok.r0
    have h1 := hok.r1
    have hO := hok.len
    have hw := div_word ⟨h0, h1⟩ hd1 hx rfl
    exact Rg <| Vs (Mv rfl) <| Vs (Bo (c := .int .u64 ((r * 4294967296))) rfl (bop_shlL_u64 (q := 4294967296) (by decide) (by decide) (by decide) (by omega))) <| Vs (Mv rfl) <| Vs (Mv rfl) <| Vs (Ix TK52 rfl) <| Vs (Lq TA53 rfl) <| Vs (Cv TU53 TU22 rfl wrW) <| Vs (Bo (c := .int .u64 (((r * 4294967296) + (A).getD (((((A).length : Int) - 1) - (n : Int))).toNat 0))) rfl (bop_or_u64 (q := 4294967296) 32 (by decide) ⟨r, h0, rfl⟩ hx (by omega))) <| Vs (As rfl) <| Nx <| Sq <| Rg <| Vs (Mv rfl) <| Vs (Mv rfl) <| Vs (Mv rfl) <| Vs (Mv rfl) <| Vs (Cv TU53 TU22 rfl wrW) <| Vs (Bo rfl quW) <| Vs (Cv TU22 TU53 rfl (wrapM_u32 _)) <| Vs (Ir TK52 rfl) <| Vs (SrK TS53 rfl) <| Nx <| Rg <| Vs (Mv rfl) <| Vs (Mv rfl) <| Vs (Cv TU53 TU22 rfl wrW) <| Vs (Bo rfl reW) <| Vs (As rfl) <| VList.nil <| Ig <| Tg <| Rg <| Vs (Bo rfl adI) <| Vs (Mv rfl) <| VList.nil <| Go (n + 1, ((r * 4294967296) + (A).getD ((((A).length : Int) - 1) - (n : Int)).toNat 0) % d, O.set ((((A).length : Int) - 1) - (n : Int)).toNat ((((r * 4294967296) + (A).getD ((((A).length : Int) - 1) - (n : Int)).toNat 0) / d) % 4294967296)) (hok.step oA hd1 (by omega) rfl) Wk
  · replace hc1 := of_decide_eq_false hc1
    refine Ke <| Te <| Oe <| Ih <| Tg <| Sq <| ?_
    have hn := hok.le
    have hO := hok.len
    have h0 := hok.r0
    have h1 := hok.r1
    obtain ⟨e1, e2, e3⟩ := hok.fin (by omega) oA
    exact Rg <| Vs (Mv rfl) <| Vs (Cc rfl (Rk (Rr rfl) Rz) (f64 _ (by first | omega | assumption | (simp; done) | (simp; omega)) (e1))) <| Vs (Mv rfl) <| Vs (Cv TU22 TU53 rfl (wrapM_u32 _)) <| Vs (As rfl) <| Vs (As rfl) <| Nx <| Re <| Fi (l := [u32S (dg (val (O))), numB .u32 (((r) % 4294967296))]) (Rc (resVar_tmp rfl rfl) (Rc (resVar_tmp rfl rfl) Rn)) (by rw [e2, e3, show val A % d % 4294967296 = val A % d by omega]; rfl)
theorem f67 (L : List Int) (n : Int) (hL : L.length ≤ 400000000) (oL : ok32 L) (h0 : 0 ≤ n) (h1 : n ≤ 1000000000) : VF Try.prog 113 [u32S (L), numB .i64 (n)] (u32S (dg (val L * 2 ^ n.toNat))) := by
  refine VF_of P_mixed Try.func113 rfl rfl (by kernel_rfl) <| Sq <| Rg <| Vs (As rfl) <| Nx <| Sq <| Rg <| Vs (Mv rfl) <| Vs (Ls TK52 rfl) <| Vs (Mv rfl) <| Vs (Bo rfl quI) <| Vs (Bo rfl adI) <| Vs (Bo rfl adI) <| Vs (Mk 7 TK52 rfl) <| Vs (As rfl) <| Nx <| Sq <| Sq <| Rg <| Vs (Mv rfl) <| Vs (Ls TK52 rfl) <| Vs (Mv rfl) <| Nx <| Bk <| VCode.loop (α := (Nat) × (List Int)) (fun x_ => match x_ with | (k, O) => (8, sl [(0, vS (L)), (1, vI .i64 (n)), (5, .own 7 ((((((L).length : Int) + (n / 32)) + 1)).toNat)), (16, vI .i64 (((L).length : Int))), (17, vI .i64 ((k : Int)))], en [(7, rowK .u32 (O))])) (fun x_ => match x_ with | (k, O) => LeftInv L O (n / 32).toNat (n % 32).toNat k) (fun x_ => match x_ with | (k, O) => L.length - k) (0, List.replicate ((((L).length : Int) + (n / 32)) + 1).toNat 0) (by have e : ((((L).length : Int) + (n / 32)) + 1).toNat = L.length + (n / 32).toNat + 1 := (by omega); show LeftInv L (List.replicate _ 0) _ _ 0; rw [e]; exact LeftInv.start) Wk ?_
  rintro ⟨k, O⟩ hok
  change VCode _ _ _ 8 (sl _) (en _) _
  refine Sq <| Rg <| Vs (Bi rfl) <| Nx <| Sq <| Cd rfl (fun hc1 => ?_) (fun hc1 => ?_)
  · replace hc1 := of_decide_eq_true hc1
    refine Ks <| Tg <| Sq <| Bk <| Sq <| Rg <| Vs (Mv rfl) <| Vs (As rfl) <| Nx <| Sq <| ?_
    have hx := ok32_getD oL k
    have hs := shl_word (r := (n % 32).toNat) (by omega) hx
    have hO := hok.len
    have hi : (((k : Int)) + (n / 32)).toNat = k + (n / 32).toNat := (by omega)
    have hi1 : ((((k : Int)) + (n / 32)) + 1).toNat = k + (n / 32).toNat + 1 := (by omega)
    have hz := ok32_getD hok.ok (k + (n / 32).toNat)
    have htop := hok.top
    have hsum := hok.sum oL (by omega) (by omega) rfl
    rw [← hi] at hz htop hsum
    exact Rg <| Vs (Mv rfl) <| Vs (Mv rfl) <| Vs (IxN TK52 rfl) <| Vs (Lq TA53 rfl) <| Vs (Cv TU53 TU22 rfl wrW) <| Vs (Mv rfl) <| Vs (Bo rfl reI) <| Vs (Bo (c := .int .u64 (((L).getD (k) 0 * 2 ^ ((n % 32)).toNat))) rfl (bop_shl_u64 (by omega) (by omega) (by omega))) <| Vs (As rfl) <| Nx <| Sq <| Rg <| Vs (Mv rfl) <| Vs (Mv rfl) <| Vs (Mv rfl) <| Vs (Bo rfl quI) <| Vs (Bo rfl adI) <| Vs (Ir TK52 rfl) <| Vs (LrK TA53 rfl) <| Vs (Mv rfl) <| Vs (Cv TU22 TU53 rfl (wrapM_u32 _)) <| Vs (Bo (c := .int .u32 (((O).getD ((((k : Int) + (n / 32))).toNat) 0 + ((((L).getD (k) 0 * 2 ^ ((n % 32)).toNat)) % 4294967296)))) rfl (bop_orR_u32 (q := 2 ^ (n % 32).toNat) (n % 32).toNat rfl ⟨hz.1, htop⟩ (shl_low (by omega) hx.1) (by omega))) <| Vs (Ir TK52 rfl) <| Vs (SrK TS53 rfl) <| Nx <| Rg <| Vs (Mv rfl) <| Vs (Mv rfl) <| Vs (Mv rfl) <| Vs (Bo rfl quI) <| Vs (Bo rfl adI) <| Vs (Bo rfl adI) <| Vs (Mv rfl) <| Vs (Bo rfl (srW 4294967296)) <| Vs (Cv TU22 TU53 rfl (wrapM_u32 _)) <| Vs (Ir TK52 rfl) <| Vs (SrK TS53 rfl) <| VList.nil <| Ig <| Tg <| Rg <| Vs (Bo rfl adI) <| Vs (Mv rfl) <| VList.nil <| Go (k + 1, ((O).set ((((k : Int)) + (n / 32)).toNat) ((O).getD ((((k : Int)) + (n / 32)).toNat) 0 + (((L).getD (k) 0 * 2 ^ (n % 32).toNat) % 4294967296))).set (((((k : Int)) + (n / 32)) + 1).toNat) ((((L).getD (k) 0 * 2 ^ (n % 32).toNat) / 4294967296) % 4294967296)) (by show LeftInv L (((O).set ((((k : Int)) + (n / 32)).toNat) ((O).getD ((((k : Int)) + (n / 32)).toNat) 0 + (((L).getD (k) 0 * 2 ^ (n % 32).toNat) % 4294967296))).set (((((k : Int)) + (n / 32)) + 1).toNat) ((((L).getD (k) 0 * 2 ^ (n % 32).toNat) / 4294967296) % 4294967296)) _ _ (k + 1); rw [hi, hi1]; exact hok.step oL (by omega) (by omega) rfl) Wk
  · replace hc1 := of_decide_eq_false hc1
    refine Ke <| Te <| Oe <| Ih <| Tg <| Sq <| ?_
    have hle := hok.le
    have hO := hok.len
    have e1 := hok.fin (m := n.toNat) (by omega) (by omega)
    exact Rg <| Vs (Mv rfl) <| Vs (Cc rfl (Rk (Rr rfl) Rz) (f64 _ (by first | omega | assumption | (simp; done) | (simp; omega)) (hok.ok))) <| Vs (As rfl) <| Nx <| Re <| Fi (l := [u32S (dg (val (O)))]) (Rc (resVar_tmp rfl rfl) Rn) (by rw [e1]; rfl)
theorem f74 (A B : List Int) (hA : A.length ≤ 900000000) (hB : B.length ≤ 900000000) (oA : ok32 A) (oB : ok32 B) (hn : A.length ≠ B.length → cmp3 (val A) (val B) = if A.length < B.length then -1 else 1) : VF Try.prog 101 [u32S (A), u32S (B)] (numB .i64 (cmp3 (val A) (val B))) := by
  refine VF_of P_mixed Try.func101 rfl rfl (by kernel_rfl) <| Sq <| Rg <| Vs (As rfl) <| Nx <| Sq <| Sq <| Rg <| Vs (Mv rfl) <| Vs (Ls TK52 rfl) <| Vs (Mv rfl) <| Vs (Ls TK52 rfl) <| Vs (Bi rfl) <| Nx <| Cd rfl (fun hc1 => ?_) (fun hc1 => ?_)
  · replace hc1 := bne_iff_ne.1 hc1
    refine Sq <| Sq <| Rg <| Vs (Mv rfl) <| Vs (Ls TK52 rfl) <| Vs (Mv rfl) <| Vs (Ls TK52 rfl) <| Vs (Bi rfl) <| Nx <| Cd rfl (fun hc2 => ?_) (fun hc2 => ?_)
    · replace hc2 := of_decide_eq_true hc2
      exact Sq <| Rg <| Vs (As rfl) <| Nx <| Re <| Tr <| Tr <| Fi (l := [numB .i64 ((-1))]) (Rc (resVar_tmp rfl rfl) Rn) (by rw [hn (by omega), if_pos (by omega)]; rfl)
    · replace hc2 := of_decide_eq_false hc2
      exact Ks <| Tg <| Sq <| Rg <| Vs (As rfl) <| Nx <| Re <| Tr <| Fi (l := [numB .i64 (1)]) (Rc (resVar_tmp rfl rfl) Rn) (by rw [hn (by omega), if_neg (by omega)]; rfl)
  · replace hc1 := bne_eq_false_iff_eq.1 hc1
    refine Ks <| Tg <| Sq <| Sq <| Rg <| Vs (Mv rfl) <| Vs (Ls TK52 rfl) <| Vs (Mv rfl) <| Nx <| Bk <| VCode.loop (α := (Nat)) (fun n => (0, sl [(0, vS (A)), (1, vS (B)), (18, vI .i64 (((A).length : Int))), (19, vI .i64 ((n : Int)))], en [])) (fun n => CmpInv A B n) (fun n => A.length - n) (0) (CmpInv.start (by omega)) Wk ?_
    intro n hok
    change VCode _ _ _ 0 (sl _) (en _) _
    refine Sq <| Rg <| Vs (Bi rfl) <| Nx <| Sq <| Cd rfl (fun hc3 => ?_) (fun hc3 => ?_)
    · replace hc3 := of_decide_eq_true hc3
      refine Ks <| Tg <| Sq <| Bk <| Sq <| Rg <| Vs (Mv rfl) <| Vs (As rfl) <| Nx <| Sq <| Rg <| Vs (Mv rfl) <| Vs (Ls TK52 rfl) <| Vs (Bo rfl suI) <| Vs (Mv rfl) <| Vs (Bo rfl suI) <| Vs (As rfl) <| Nx <| Sq <| ?_
      have hlen := hok.len
      refine Rd (by kernel_rfl) <| Vl (Mv rfl) <| Vl (Mv rfl) <| Vl (Ix TK52 rfl) <| Vl (Lq TA53 rfl) <| Vl (Mv rfl) <| Vl (Mv rfl) <| Vl (Ix TK52 rfl) <| Vl (Lq TA53 rfl) <| Vl (Bi rfl) <| ?_
      refine VLog.nil ⟨by kernel_rfl, ?_⟩
      refine Tg <| Cd rfl (fun hc4 => ?_) (fun hc4 => ?_)
      · replace hc4 := bne_iff_ne.1 hc4
        refine Sq <| Sq <| Rd (by kernel_rfl) <| Vl (Mv rfl) <| Vl (Mv rfl) <| Vl (Ix TK52 rfl) <| Vl (Lq TA53 rfl) <| Vl (Mv rfl) <| Vl (Mv rfl) <| Vl (Ix TK52 rfl) <| Vl (Lq TA53 rfl) <| Vl (Bi rfl) <| ?_
        refine VLog.nil ⟨by kernel_rfl, ?_⟩
        refine Tg <| Cd rfl (fun hc5 => ?_) (fun hc5 => ?_)
        · replace hc5 := of_decide_eq_true hc5
          exact Sq <| Rg <| Vs (As rfl) <| Nx <| Re <| Tr <| Iq <| Tr <| Or <| Iq <| Tr <| Fi (l := [numB .i64 ((-1))]) (Rc (resVar_tmp rfl rfl) Rn) (by rw [hok.diff (q := ((((A).length : Int) - 1) - (n : Int)).toNat) oA oB (by omega) hc4, if_pos hc5]; rfl)
        · replace hc5 := of_decide_eq_false hc5
          exact Ks <| Tg <| Sq <| Rg <| Vs (As rfl) <| Nx <| Re <| Iq <| Tr <| Or <| Iq <| Tr <| Fi (l := [numB .i64 (1)]) (Rc (resVar_tmp rfl rfl) Rn) (by rw [hok.diff (q := ((((A).length : Int) - 1) - (n : Int)).toNat) oA oB (by omega) hc4, if_neg hc5]; rfl)
      · replace hc4 := bne_eq_false_iff_eq.1 hc4
        exact Ks <| Ig <| Tg <| Rg <| Vs (Bo rfl adI) <| Vs (Mv rfl) <| VList.nil <| Go (n + 1) (hok.step (q := ((((A).length : Int) - 1) - (n : Int)).toNat) (by omega) hc4) Wk
    · replace hc3 := of_decide_eq_false hc3
      refine Ke <| Te <| Oe <| Ih <| Tg <| Sq <| ?_
      have hle := hok.le
      exact Rg <| Vs (As rfl) <| Nx <| Re <| Fi (l := [numB .i64 (0)]) (Rc (resVar_tmp rfl rfl) Rn) (by rw [hok.fin (by omega)]; rfl)
theorem f54 (neg : Bool) (L : List Int) (hL : L.length ≤ 1000000000) (oL : ok32 L) : VF Try.prog 97 [boolB (neg), u32S (L)] (zR (sg neg (val L))) := by
  refine VF_of P_mixed Try.func97 rfl rfl (by kernel_rfl) <| Sq <| Rg <| Vs (Al 0 TZ55 rfl) <| Vs (As rfl) <| Nx <| Sq <| Rg <| Vs (Mv rfl) <| Vs (C0 rfl rfl (f64 _ (by first | omega | assumption | (simp; done) | (simp; omega)) (by first | omega | assumption | (simp; done) | (simp; omega)))) <| Vs (As rfl) <| Nx <| Sq <| Sq <| ?_
  have hv := val_nonneg oL
  refine Rg <| Vs (Mv rfl) <| Vs (Ls TK52 rfl) <| Vs (Bi rfl) <| Nx <| Cd rfl (fun hc1 => ?_) (fun hc1 => ?_)
  · replace hc1 := of_decide_eq_true hc1
    exact Sq <| Rg <| Vs (Bd TQ55 rfl) <| Vs (StS TS55 rfl) <| Vs (As rfl) <| Nx <| Re <| Tr <| Fi (l := [.agg [boolB (false), u32S ([])], numB .i64 (2)]) (Rc (resVar_cell rfl rfl TA55 TS55 (Nat.le_of_ble_eq_true rfl) rfl) (Rc (resVar_tmp rfl rfl) Rn)) (by obtain ⟨r1, r2, r3⟩ := res_big (neg := neg) hv hc1; rw [zR, r1, r2, r3]; rfl)
  · replace hc1 := of_decide_eq_false hc1
    refine Ks <| Tg <| Sq <| Rg <| Vs (Mv rfl) <| Vs (Ls TK52 rfl) <| Vs (Mk 10 TK52 rfl) <| Vs (As rfl) <| Nx <| Sq <| Rg <| Vs (Mv rfl) <| Vs (Mv rfl) <| Vs (Cp TK52 rfl rfl) <| Nx <| Sq <| Rg <| Vs (Mv rfl) <| Vs (Mv rfl) <| Sp 20 rfl (fun hc2 => ?_) (fun hc2 => ?_)
    · (try simp at hc2)
      exact Vs (Mv rfl) <| Vs (Ls TK52 rfl) <| Vs (Bi rfl) <| Vs (Pk rfl) <| Vs (Mv rfl) <| Vs (Bd TQ55 rfl) <| Vs (StS TS55 rfl) <| Vs (As rfl) <| Nx <| Re <| Fi (l := [.agg [boolB (decide (((dg (val (L))).length : Int) > 0)), u32S ((dg (val (L))).take (Nat.min (dg (val (L))).length ((((dg (val (L))).length : Int)).toNat)) ++ (List.replicate (((dg (val (L))).length : Int)).toNat 0).drop (Nat.min (dg (val (L))).length ((((dg (val (L))).length : Int)).toNat)))], numB .i64 (0)]) (Rc (resVar_cell rfl rfl TA55 TS55 (Nat.le_of_ble_eq_true rfl) (Ra rfl (hl := (by simp)))) (Rc (resVar_tmp rfl rfl) Rn)) (by obtain ⟨r1, r2, r3⟩ := res_small (neg := neg) hv hc1; rw [zR, r1, r2, r3, copy_all, hc2, Bool.true_and]; rfl)
    · (try simp at hc2)
      exact Sk rfl <| Sk rfl <| Sk rfl <| Vs (Pk rfl) <| Vs (Mv rfl) <| Vs (Bd TQ55 rfl) <| Vs (StS TS55 rfl) <| Vs (As rfl) <| Nx <| Re <| Fi (l := [.agg [boolB (false), u32S ((dg (val (L))).take (Nat.min (dg (val (L))).length ((((dg (val (L))).length : Int)).toNat)) ++ (List.replicate (((dg (val (L))).length : Int)).toNat 0).drop (Nat.min (dg (val (L))).length ((((dg (val (L))).length : Int)).toNat)))], numB .i64 (0)]) (Rc (resVar_cell rfl rfl TA55 TS55 (Nat.le_of_ble_eq_true rfl) (Ra rfl (hl := (by simp)))) (Rc (resVar_tmp rfl rfl) Rn)) (by obtain ⟨r1, r2, r3⟩ := res_small (neg := neg) hv hc1; rw [zR, r1, r2, r3, copy_all, hc2, Bool.false_and]; rfl)
theorem f33 (n : Bool) (A : List Int) (m : Bool) (B : List Int) (hA : A.length ≤ 9223372036854775807) (hB : B.length ≤ 9223372036854775807) (oA : ok32 A) (oB : ok32 B) : VF Try.prog 80 [.agg [boolB (n), u32S (A)], .agg [boolB (m), u32S (B)]] (.tup [numB .i64 (cC (validB n A && validB m B) (zOf n A) (zOf m B)), numB .i64 (cE (validB n A && validB m B))]) := by
  refine VF_of P_mixed Try.func80 rfl rfl (by kernel_rfl) <| Sq <| Rg <| Vs (Bx 0 rfl) <| Vs (Bx 1 rfl) <| Vs (As rfl) <| Vs (As rfl) <| Nx <| Sq <| Sq <| Rg <| Vs (LdS TA55 TS55 rfl) <| Vs (LdS TA55 TS55 rfl) <| Vs (Cf rfl rfl (f50 _ _ _ _ (by first | omega | assumption | (simp; done) | (simp; omega)) (by first | omega | assumption | (simp; done) | (simp; omega))) rfl) <| Vs (Un rfl) <| Nx <| Cd rfl (fun hc1 => ?_) (fun hc1 => ?_)
  · replace hc1 := (bnot_t hc1)
    exact Sq <| Rg <| Vs (As rfl) <| Vs (As rfl) <| Nx <| Re <| Tr <| Fi (l := [numB .i64 (0), numB .i64 (1)]) (Rc (resVar_tmp rfl rfl) (Rc (resVar_tmp rfl rfl) Rn)) (by rw [cC_false hc1, cE_false hc1]; rfl)
  · replace hc1 := (bnot_f hc1)
    refine Ks <| Tg <| Sq <| ?_
    obtain ⟨v1, v2⟩ := Bool.and_eq_true_iff.1 hc1
    obtain ⟨nA, lA, sA⟩ := valid_norm oA v1
    obtain ⟨nB, lB, sB⟩ := valid_norm oB v2
    have hr := cmp3_range (val A) (val B)
    refine Rg <| Vs (Fa TF55_1 rfl) <| Vs (Ld TA52 rfl) <| Vs (Fa TF55_1 rfl) <| Vs (Ld TA52 rfl) <| Vs (Cf rfl rfl (f74 _ _ (by first | omega | assumption | (simp; done) | (simp; omega)) (by first | omega | assumption | (simp; done) | (simp; omega)) (by first | omega | assumption | (simp; done) | (simp; omega)) (by first | omega | assumption | (simp; done) | (simp; omega)) (fun h => cmp_len nA nB h)) rfl) <| Vs (As rfl) <| Nx <| Sq <| Bk <| Sq <| Rg <| Vs (Fa TF55_0 rfl) <| Vs (Ld TA4 rfl) <| Vs (Mv rfl) <| Sp 19 rfl (fun hc2 => ?_) (fun hc2 => ?_)
    · (try simp at hc2)
      refine Vs (Fa TF55_0 rfl) <| Vs (Ld TA4 rfl) <| Vs (Pk rfl) <| Vs (As rfl) <| Nx <| Cd rfl (fun hc3 => ?_) (fun hc3 => ?_)
      · (try simp at hc3)
        exact Sq <| Rg <| Vs (Mv rfl) <| Vs (Uo rfl nvI) <| Vs (As rfl) <| Vs (As rfl) <| Nx <| Re <| Iq <| Tr <| Fi (l := [numB .i64 ((-cmp3 (val (A)) (val (B)))), numB .i64 (0)]) (Rc (resVar_tmp rfl rfl) (Rc (resVar_tmp rfl rfl) Rn)) (by rw [cC_true hc1, cE_true hc1]; have vA := val_nonneg oA; have vB := val_nonneg oB; subst_vars; first | contradiction | (rw [cmp3_nn]; rfl) | (rw [cmp3_np (neg_pos nA sA rfl) vB]; rfl) | (rw [cmp3_pn vA (neg_pos nB sB rfl)]; rfl) | (rw [cmp3_pp]; rfl))
      · (try simp at hc3)
        refine Sq <| Rg <| Vs (Fa TF55_0 rfl) <| Vs (Ld TA4 rfl) <| Vs (As rfl) <| Nx <| Cd rfl (fun hc4 => ?_) (fun hc4 => ?_)
        · (try simp at hc4)
          exact Sq <| Rg <| Vs (As rfl) <| Vs (As rfl) <| Nx <| Re <| Iq <| Tr <| Fi (l := [numB .i64 ((-1)), numB .i64 (0)]) (Rc (resVar_tmp rfl rfl) (Rc (resVar_tmp rfl rfl) Rn)) (by rw [cC_true hc1, cE_true hc1]; have vA := val_nonneg oA; have vB := val_nonneg oB; subst_vars; first | contradiction | (rw [cmp3_nn]; rfl) | (rw [cmp3_np (neg_pos nA sA rfl) vB]; rfl) | (rw [cmp3_pn vA (neg_pos nB sB rfl)]; rfl) | (rw [cmp3_pp]; rfl))
        · (try simp at hc4)
          refine Sq <| Rg <| Vs (Fa TF55_0 rfl) <| Vs (Ld TA4 rfl) <| Vs (As rfl) <| Nx <| Cd rfl (fun hc5 => ?_) (fun hc5 => ?_)
          · (try simp at hc5)
            exact Sq <| Rg <| Vs (As rfl) <| Vs (As rfl) <| Nx <| Re <| Iq <| Tr <| Fi (l := [numB .i64 (1), numB .i64 (0)]) (Rc (resVar_tmp rfl rfl) (Rc (resVar_tmp rfl rfl) Rn)) (by rw [cC_true hc1, cE_true hc1]; have vA := val_nonneg oA; have vB := val_nonneg oB; subst_vars; first | contradiction | (rw [cmp3_nn]; rfl) | (rw [cmp3_np (neg_pos nA sA rfl) vB]; rfl) | (rw [cmp3_pn vA (neg_pos nB sB rfl)]; rfl) | (rw [cmp3_pp]; rfl))
          · (try simp at hc5)
            exact Ks <| Ig <| Tg <| Sq <| Rg <| Vs (Mv rfl) <| Vs (As rfl) <| Vs (As rfl) <| Nx <| Re <| Fi (l := [numB .i64 (cmp3 (val (A)) (val (B))), numB .i64 (0)]) (Rc (resVar_tmp rfl rfl) (Rc (resVar_tmp rfl rfl) Rn)) (by rw [cC_true hc1, cE_true hc1]; have vA := val_nonneg oA; have vB := val_nonneg oB; subst_vars; first | contradiction | (rw [cmp3_nn]; rfl) | (rw [cmp3_np (neg_pos nA sA rfl) vB]; rfl) | (rw [cmp3_pn vA (neg_pos nB sB rfl)]; rfl) | (rw [cmp3_pp]; rfl))
    · (try simp at hc2)
      refine Sk rfl <| Sk rfl <| Vs (Pk rfl) <| Vs (As rfl) <| Nx <| Cz rfl <| Sq <| Rg <| Vs (Fa TF55_0 rfl) <| Vs (Ld TA4 rfl) <| Vs (As rfl) <| Nx <| Cd rfl (fun hc6 => ?_) (fun hc6 => ?_)
      · (try simp at hc6)
        exact Sq <| Rg <| Vs (As rfl) <| Vs (As rfl) <| Nx <| Re <| Iq <| Tr <| Fi (l := [numB .i64 ((-1)), numB .i64 (0)]) (Rc (resVar_tmp rfl rfl) (Rc (resVar_tmp rfl rfl) Rn)) (by rw [cC_true hc1, cE_true hc1]; have vA := val_nonneg oA; have vB := val_nonneg oB; subst_vars; first | contradiction | (rw [cmp3_nn]; rfl) | (rw [cmp3_np (neg_pos nA sA rfl) vB]; rfl) | (rw [cmp3_pn vA (neg_pos nB sB rfl)]; rfl) | (rw [cmp3_pp]; rfl))
      · (try simp at hc6)
        refine Sq <| Rg <| Vs (Fa TF55_0 rfl) <| Vs (Ld TA4 rfl) <| Vs (As rfl) <| Nx <| Cd rfl (fun hc7 => ?_) (fun hc7 => ?_)
        · (try simp at hc7)
          exact Sq <| Rg <| Vs (As rfl) <| Vs (As rfl) <| Nx <| Re <| Iq <| Tr <| Fi (l := [numB .i64 (1), numB .i64 (0)]) (Rc (resVar_tmp rfl rfl) (Rc (resVar_tmp rfl rfl) Rn)) (by rw [cC_true hc1, cE_true hc1]; have vA := val_nonneg oA; have vB := val_nonneg oB; subst_vars; first | contradiction | (rw [cmp3_nn]; rfl) | (rw [cmp3_np (neg_pos nA sA rfl) vB]; rfl) | (rw [cmp3_pn vA (neg_pos nB sB rfl)]; rfl) | (rw [cmp3_pp]; rfl))
        · (try simp at hc7)
          exact Ks <| Ig <| Tg <| Sq <| Rg <| Vs (Mv rfl) <| Vs (As rfl) <| Vs (As rfl) <| Nx <| Re <| Fi (l := [numB .i64 (cmp3 (val (A)) (val (B))), numB .i64 (0)]) (Rc (resVar_tmp rfl rfl) (Rc (resVar_tmp rfl rfl) Rn)) (by rw [cC_true hc1, cE_true hc1]; have vA := val_nonneg oA; have vB := val_nonneg oB; subst_vars; first | contradiction | (rw [cmp3_nn]; rfl) | (rw [cmp3_np (neg_pos nA sA rfl) vB]; rfl) | (rw [cmp3_pn vA (neg_pos nB sB rfl)]; rfl) | (rw [cmp3_pp]; rfl))
end Go.VL
