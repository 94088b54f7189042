/- RationalTextRoundTrip returns true for every input and leaves the input as it was. No condition. -/
import Derived.Test.YtnabpemjcidhdaaK4
/- Plain laws of rationals: the place of the slash. No program. -/
set_option linter.unusedVariables false
namespace Go.VL
def slA (s : ByteArray) : Int := if 0 ≤ ixB s then ixB s else (s.size : Int)
def SlI (s : ByteArray) (i : Nat) : Prop := ∀ j, j < i → at8 s j ≠ 47
theorem indexByte_at {c : UInt8} : ∀ (l : List UInt8) (i : Nat), i < l.length → (∀ j, j < i → l.getD j 0 ≠ c) → l.getD i 0 = c → Lib.indexByte l c = (i : Int)
  | [], i, h, _, _ => by cases h
  | b :: l, 0, _, _, h => by
    unfold Lib.indexByte
    rw [if_pos (by simpa using h)]; rfl
  | b :: l, i + 1, h, hn, he => by
    have h0 : b ≠ c := hn 0 (by omega)
    have hh : i < l.length := by simpa using h
    have ih := indexByte_at l i hh (fun j hj => hn (j + 1) (by omega)) he
    unfold Lib.indexByte
    rw [if_neg (by simpa using h0), ih]
    rw [if_neg (by simp)]; omega
theorem indexByte_no {c : UInt8} : ∀ (l : List UInt8), (∀ j, j < l.length → l.getD j 0 ≠ c) → Lib.indexByte l c = -1
  | [], _ => by unfold Lib.indexByte; rfl
  | b :: l, hn => by
    have h0 : b ≠ c := hn 0 (by simp)
    have ih := indexByte_no l (fun j hj => hn (j + 1) (by simp; omega))
    unfold Lib.indexByte
    rw [if_neg (by simpa using h0), ih]
    rfl
theorem at8_iff {s : ByteArray} {i : Nat} : at8 s i = 47 ↔ s.data.toList.getD i 0 = (47 : Int).toNat.toUInt8 := by
  have e : s.data.toList.getD i 0 = s.data.getD i 0 := by simp [List.getD_eq_getElem?_getD, Array.getD_eq_getD_getElem?]
  rw [e]
  unfold at8
  constructor
  · intro h
    apply UInt8.toNat_inj.1
    have : (47 : Int).toNat.toUInt8.toNat = 47 := rfl
    omega
  · intro h; rw [h]; rfl
theorem SlI.start {s : ByteArray} : SlI s 0 := fun j hj => by omega
theorem SlI.next {s : ByteArray} {i : Nat} (h : SlI s i) (h2 : ¬ at8 s i = 47) : SlI s (i + 1) := fun j hj => by
  rcases Nat.lt_or_eq_of_le (Nat.le_of_lt_succ hj) with h1 | h1
  · exact h j h1
  · rw [h1]; exact h2
theorem SlI.found {s : ByteArray} {i : Nat} (h : SlI s i) (hi : i < s.size) (h2 : at8 s i = 47) : numB .i64 (slA s) = oneB [numB .i64 (i : Int)] := by
  have e : ixB s = (i : Int) := indexByte_at _ i (by simpa using hi) (fun j hj hc => h j hj (at8_iff.2 hc)) (at8_iff.1 h2)
  rw [slA, e, if_pos (by omega)]; rfl
theorem SlI.done {s : ByteArray} {i : Nat} (h : SlI s i) (hi : ¬ i < s.size) : numB .i64 (slA s) = oneB [numB .i64 (s.size : Int)] := by
  have hl : s.data.toList.length = s.size := by simp
  have e : ixB s = -1 := indexByte_no _ (fun j hj hc => h j (by omega) (at8_iff.2 hc))
  rw [slA, e, if_neg (by omega)]; rfl
section
variable {s : ByteArray}
theorem slA_rng (s : ByteArray) : 0 ≤ slA s ∧ slA s ≤ s.size := by
  have := ixB_lt s
  unfold slA; split <;> omega
theorem slA_a (s : ByteArray) : s.extract 0 (slA s).toNat = cuA s := by
  unfold slA cuA
  split
  · rfl
  · rw [Int.toNat_natCast]; exact ByteArray.extract_zero_size
theorem slA_b (h : ¬ slA s = s.size) : s.extract (slA s + 1).toNat s.size = cuB s ∧ cuF s = true := by
  unfold slA at h ⊢
  unfold cuB cuF
  split at h
  · rename_i h1; rw [if_pos h1, if_pos h1]; exact ⟨rfl, decide_eq_true h1⟩
  · exact absurd rfl h
theorem slA_e (h : slA s = s.size) : cuF s = false := by
  have := ixB_lt s
  unfold slA at h
  unfold cuF
  split at h
  · omega
  · exact decide_eq_false (by assumption)
end
theorem ps_in (s : ByteArray) : inB (psP s) = true ∧ inB (psQ s) = true := by
  unfold psP psQ
  split
  · refine ⟨pW_in _, ?_⟩
    split
    · exact pW_in _
    · exact in_one
  · exact ⟨in_zero, in_zero⟩
end Go.VL

/- Plain laws of rationals: what the functions return stays in bounds. No program. -/
set_option linter.unusedVariables false
namespace Go.VL
section
variable {x y p q r s : Int}
theorem rdS_in (h : inB x = true) : inB (rdS x y) = true := by
  unfold rdS; split
  · exact (in_neg x).trans h
  · exact h
theorem rdN_in (hx : inB x = true) : inB (rdN x y) = true := by
  unfold rdN
  by_cases h : rdG x y = 0
  · rw [h, Int.fdiv_zero]; exact in_zero
  · exact fdiv_in (rdS_in hx) h
theorem rdD_in (hy : inB y = true) : inB (rdD x y) = true := by
  unfold rdD
  by_cases h : rdG x y = 0
  · rw [h, Int.fdiv_zero]; exact in_zero
  · exact fdiv_in (rdS_in hy) h
theorem mkN_in (hx : inB x = true) : inB (mkN x y) = true := by
  unfold mkN; split
  · exact in_zero
  · exact rdN_in hx
theorem mkD_in (hy : inB y = true) : inB (mkD x y) = true := by
  unfold mkD; split
  · exact in_zero
  · exact rdD_in hy
theorem sh_nil (z : Int) : shZ z 0 = z := by simp [shZ]
theorem fl_nil {k : Int} (h : ¬ k > 0) (h1 : k ≥ 0) (hi : inB (p.fdiv q) = true) : zR (flZ p q k) = oneB [iB (p.fdiv q), numB .i64 0] := by
  have : k = 0 := by omega
  subst this
  rw [flZ, if_pos (Int.le_refl 0), sh_nil, zR, zE_in.2 hi]; rfl
theorem fl_ins (z : Int) : ∃ w e : Int, inB w = true ∧ zR z = .tup [iB w, numB .i64 e] := by
  cases h : inB z with
  | true => exact ⟨z, zE z, h, rfl⟩
  | false => exact ⟨0, zE z, in_zero, by rw [zR, zB_zero, ← iB_out (z := z) (fun hc => by rw [zE_in.1 hc] at h; cases h)]⟩
theorem sq_ins (hp : inB p = true) (hq : inB q = true) : inB (sqQn p q) = true ∧ inB (sqQd p q) = true := by
  have hs : ∀ z : Int, inB z = true → inB (isq z) = true := fun z hz => by
    by_cases h : 0 ≤ z
    · exact (sq_in h hz).1
    · have : isq z = 0 := by unfold isq; rw [show z.toNat = 0 by omega]; rfl
      rw [this]; exact in_zero
  unfold sqQn sqQd
  split
  · exact ⟨hs _ hp, hs _ hq⟩
  · exact ⟨in_zero, in_zero⟩
end
end Go.VL

/- Plain laws of rationals: texts of numbers and back. No program. -/
set_option linter.unusedVariables false
namespace Go.VL
theorem ba_ext {a b : ByteArray} (h : a.data.toList = b.data.toList) : a = b := ByteArray.ext (Array.toList_inj.1 h)
theorem ba_app (a b : ByteArray) : (a ++ b).data.toList = a.data.toList ++ b.data.toList := by rw [ByteArray.data_append, Array.toList_append]
theorem ba_cut (a : ByteArray) (i j : Nat) : (a.extract i j).data.toList = (a.data.toList.drop i).take (j - i) := by
  rw [ByteArray.data_extract, Array.toList_extract, List.extract_eq_take_drop]
theorem ba_len (a : ByteArray) : a.data.toList.length = a.size := by simp
theorem at8_tx (z : Int) (i : Nat) (h : i < (txB z).size) : at8 (txB z) i ≠ 47 := by
  unfold txB at *
  rw [bytesOf_size] at h
  rw [at8_of (tx_ok8' z) h]
  have hm : (txL z).getD i 0 ∈ txL z := List.mem_of_getElem? (getD_get h)
  generalize (txL z).getD i 0 = x at hm ⊢
  unfold txL at hm
  rw [List.mem_reverse, List.mem_append] at hm
  rcases hm with hm | hm
  · have := txD_range _ _ hm; omega
  · split at hm
    · simp at hm; omega
    · cases hm
theorem ixB_tx (z : Int) : ixB (txB z) = -1 := by
  refine indexByte_no _ (fun j hj hc => at8_tx z j (by rw [← ba_len]; exact hj) (at8_iff.2 hc))
theorem ixB_two (z : Int) (t : ByteArray) : ixB (txB z ++ slashB ++ t) = ((txB z).size : Int) := by
  have hl := ba_len (txB z)
  have e : (txB z ++ slashB ++ t).data.toList = (txB z).data.toList ++ (47 :: t.data.toList) := by
    rw [ba_app, ba_app]; simp
  refine indexByte_at _ _ ?_ (fun j hj hc => ?_) ?_
  · rw [e, List.length_append, List.length_cons]; omega
  · rw [e, List.getD_eq_getElem?_getD, List.getElem?_append_left (by omega), ← List.getD_eq_getElem?_getD] at hc
    exact at8_tx z j hj (at8_iff.2 hc)
  · rw [e, List.getD_eq_getElem?_getD, List.getElem?_append_right (by omega), hl, Nat.sub_self]; rfl
theorem cu_two (z : Int) (t : ByteArray) : cuA (txB z ++ slashB ++ t) = txB z ∧ cuB (txB z ++ slashB ++ t) = t ∧ cuF (txB z ++ slashB ++ t) = true := by
  have hl := ba_len (txB z)
  have e : (txB z ++ slashB ++ t).data.toList = (txB z).data.toList ++ (47 :: t.data.toList) := by
    rw [ba_app, ba_app]; simp
  have hs : (txB z ++ slashB ++ t).size = (txB z).size + 1 + t.size := by
    rw [← ba_len, e, List.length_append, List.length_cons, ba_len, ba_len]; omega
  unfold cuA cuB cuF
  rw [ixB_two, if_pos (by omega), if_pos (by omega)]
  refine ⟨ba_ext ?_, ba_ext ?_, decide_eq_true (by omega)⟩
  · rw [ba_cut, e, List.drop_zero, Nat.sub_zero, Int.toNat_natCast, List.take_append_of_le_length (by omega), List.take_of_length_le (by omega)]
  · rw [ba_cut, e, show ((((txB z).size : Nat) : Int) + 1).toNat = (txB z).data.toList.length + 1 by omega, List.drop_append, List.drop_of_length_le (by omega), List.nil_append, show (txB z).data.toList.length + 1 - (txB z).data.toList.length = 1 by omega, List.drop_one, List.tail_cons, List.take_of_length_le]
    rw [ba_len]; omega
theorem cu_one {s : ByteArray} (h : ixB s = -1) : cuA s = s ∧ cuF s = false := by
  unfold cuA cuF
  rw [h]
  exact ⟨rfl, rfl⟩
theorem pW_tx {z : Int} (h : inB z = true) : pW (txB z) = z ∧ pX (txB z) = 0 := by
  unfold pW pX prE
  rw [okS_tx, pZ_tx, if_pos rfl, if_pos rfl, clip_in h, zE_in.2 h]
  exact ⟨rfl, rfl⟩
theorem pX_ok {s : ByteArray} (h : pX s = 0) : txB (pW s) = s ∧ inB (pW s) = true := by
  unfold pX prE at h
  cases e : okS s with
  | false => rw [e, if_neg (by decide)] at h; exact absurd h (by decide)
  | true =>
    rw [e, if_pos rfl] at h
    have hi := zE_in.1 h
    unfold pW
    rw [e, if_pos rfl, clip_in hi]
    exact ⟨tx_pZ e, hi⟩
section
variable {p q : Int} {s : ByteArray}
theorem ps_tx (ok : okR p q) : psR (txQ p q) = rR p q 0 := by
  obtain ⟨q0, g, hp, hq⟩ := ok
  unfold txQ
  by_cases h : q = 1
  · rw [if_pos h]
    obtain ⟨c1, c2⟩ := cu_one (ixB_tx p)
    have e1 : pX (cuA (txB p)) = 0 := by rw [c1]; exact (pW_tx hp).2
    rw [ps2 e1 c2, c1, (pW_tx hp).1, h]; rfl
  · rw [if_neg h]
    obtain ⟨c1, c2, c3⟩ := cu_two p (txB q)
    show psR (txB p ++ slashB ++ txB q) = _
    have e1 : pX (cuA (txB p ++ slashB ++ txB q)) = 0 := by rw [c1]; exact (pW_tx hp).2
    have e2 : pX (cuB (txB p ++ slashB ++ txB q)) = 0 := by rw [c2]; exact (pW_tx hq).2
    rw [ps5 e1 c3 e2 (by rw [c2, (pW_tx hq).1]; exact h) (by rw [c1, c2, (pW_tx hq).1, (pW_tx hp).1]; exact decide_eq_true ⟨q0, g⟩), c1, c2, (pW_tx hp).1, (pW_tx hq).1]; rfl
theorem indexByte_hit {c : UInt8} : ∀ (l : List UInt8), 0 ≤ Lib.indexByte l c → l.getD (Lib.indexByte l c).toNat 0 = c
  | [], h => by unfold Lib.indexByte at h; exact absurd h (by decide)
  | b :: l, h => by
    unfold Lib.indexByte at h ⊢
    by_cases h1 : (b == c) = true
    · rw [if_pos h1]; simpa using h1
    · rw [if_neg h1] at h ⊢
      by_cases h2 : (Lib.indexByte l c == -1) = true
      · rw [if_pos h2] at h; exact absurd h (by decide)
      · rw [if_neg h2] at h ⊢
        have h3 := (indexByte_lt c l).2
        have h4 : Lib.indexByte l c ≠ -1 := by simpa using h2
        rw [show (Lib.indexByte l c + 1).toNat = (Lib.indexByte l c).toNat + 1 by omega, List.getD_cons_succ]
        exact indexByte_hit l (by omega)
theorem cu_join (h : cuF s = true) : cuA s ++ slashB ++ cuB s = s := by
  have h0 : 0 ≤ ixB s := of_decide_eq_true h
  have h1 := ixB_lt s
  have hl := ba_len s
  have hh := indexByte_hit _ h0
  unfold cuA cuB
  rw [if_pos h0, if_pos h0]
  refine ba_ext ?_
  rw [ba_app, ba_app, ba_cut, ba_cut, List.drop_zero, Nat.sub_zero, List.take_of_length_le (l := List.drop _ _) (by rw [List.length_drop]; omega)]
  have e : slashB.data.toList = [s.data.toList.getD (ixB s).toNat 0] := by
    show [47] = _
    exact congrArg (fun x => [x]) hh.symm
  rw [e, show (ixB s + 1).toNat = (ixB s).toNat + 1 by omega, List.getD_eq_getElem?_getD, List.getElem?_eq_getElem (by omega), Option.getD_some, List.append_assoc, List.singleton_append, ← List.drop_eq_getElem_cons, List.take_append_drop]
theorem ps_ok (h : psE s = 0) : okR (psP s) (psQ s) ∧ txQ (psP s) (psQ s) = s := by
  unfold psP psQ
  rw [if_pos h, if_pos h]
  unfold psE at h
  by_cases h1 : pX (cuA s) ≠ 0
  · rw [if_pos h1] at h; exact absurd h h1
  · rw [if_neg h1] at h
    obtain ⟨t1, i1⟩ := pX_ok (Classical.not_not.1 h1)
    by_cases h2 : cuF s = false
    · rw [if_neg (by rw [h2]; decide)]
      refine ⟨⟨by decide, by simp, i1, in_one⟩, ?_⟩
      unfold txQ
      rw [if_pos rfl, t1]
      unfold cuA
      rw [if_neg (by have := of_decide_eq_false h2; omega)]
    · rw [if_neg h2] at h
      rw [Bool.not_eq_false] at h2
      rw [if_pos h2]
      by_cases h3 : pX (cuB s) ≠ 0
      · rw [if_pos h3] at h; exact absurd h h3
      · rw [if_neg h3] at h
        obtain ⟨t2, i2⟩ := pX_ok (Classical.not_not.1 h3)
        by_cases h4 : pW (cuB s) = 1 ∨ vQ (pW (cuA s)) (pW (cuB s)) = false
        · rw [if_pos h4] at h; exact absurd h (by decide)
        · have h5 : ¬ pW (cuB s) = 1 := fun hc => h4 (.inl hc)
          have h6 : vQ (pW (cuA s)) (pW (cuB s)) = true := by
            rw [← Bool.not_eq_false]; exact fun hc => h4 (.inr hc)
          have h7 := of_decide_eq_true h6
          refine ⟨⟨h7.1, h7.2, i1, i2⟩, ?_⟩
          unfold txQ
          rw [if_neg h5, t1, t2]
          exact cu_join h2
theorem txQ_size (hp : inB p = true) (hq : inB q = true) : (txQ p q).size ≤ 9223372036854775807 := by
  have h1 := tx_size p hp
  have h2 := tx_size q hq
  unfold txQ
  split
  · omega
  · rw [ByteArray.size_append, ByteArray.size_append]
    have : (⟨#[47]⟩ : ByteArray).size = 1 := rfl
    omega
end
end Go.VL

/- Walks over the Go functions, printed by a program of this session over the kit's print, and by hand. -/
set_option linter.unusedVariables false
set_option linter.unusedSimpArgs false
set_option maxRecDepth 100000
namespace Go.VL
open Go.Proofs
theorem x27t {p q : Int} (ok : okR p q) : VF Try.prog 27 [.lit (.string (txQ p q))] (rR p q 0) := by
  have h := g27 (txQ p q) (txQ_size ok.2.2.1 ok.2.2.2)
  rwa [ps_tx ok] at h
theorem g6i {n : Bool} {A : List Int} {m : Bool} {D : List Int} {s : ByteArray} (hv : VF Try.prog 29 [ratB n A m D, ratB n A m D, ratB n A m D, numB .i64 64] (boolB false)) : VF Try.prog 6 [.agg [boolB (n), u32S (A), boolB (m), u32S (D)], .lit (.string (s))] (boolB true) := by
  exact VF_of P_mixed Try.func6 rfl rfl (by kernel_rfl) <| Sq <| Rg <| Vs (Bx 0 rfl) <| Vs (As rfl) <| Nx <| Sq <| Rg <| Vs (Cf rfl rfl (g15) rfl) <| Vs (As rfl) <| Nx <| Sq <| Sq <| Rg <| Vs (LdS TA27 TS27 rfl) <| Vs (LdS TA27 TS27 rfl) <| Vs (LdS TA27 TS27 rfl) <| Vs (Cf rfl rfl (hv) rfl) <| Vs (Un rfl) <| Vs (Mv rfl) <| Sk rfl <| Sk rfl <| Sk rfl <| Vs (Pk rfl) <| Nx <| Cy rfl <| Sq <| Rg <| Vs (Mv rfl) <| Vs (As rfl) <| Nx <| Re <| Tr <| Fi (l := [boolB (true)]) (Rc (resVar_tmp rfl rfl) Rn) rfl
theorem g6v {p q : Int} {s : ByteArray} (ok : okR p q) (hs : s.size ≤ 9223372036854775807) (hv : VF Try.prog 29 [qB p q, qB p q, qB p q, numB .i64 64] (boolB true)) : VF Try.prog 6 [.agg [boolB (zN (p)), u32S (zL (p)), boolB (zN (q)), u32S (zL (q))], .lit (.string (s))] (boolB true) := by
  have hp := ok.2.2.1
  have hq := ok.2.2.2
  refine VF_of P_mixed Try.func6 rfl rfl (by kernel_rfl) <| Sq <| Rg <| Vs (Bx 0 rfl) <| Vs (As rfl) <| Nx <| Sq <| Rg <| Vs (Cf rfl rfl (g15) rfl) <| Vs (As rfl) <| Nx <| Sq <| Sq <| Rg <| Vs (LdS TA27 TS27 rfl) <| Vs (LdS TA27 TS27 rfl) <| Vs (LdS TA27 TS27 rfl) <| Vs (Cf rfl rfl (hv) rfl) <| Vs (Un rfl) <| Vs (Mv rfl) <| Vs (Mv rfl) <| Vs (Lt TU9 rfl) <| Vs (Bi rfl) <| Vs (Pk rfl) <| Nx <| Cd rfl (fun hc1 => ?_) (fun hc1 => ?_)
  · replace hc1 := of_decide_eq_true hc1
    exact Sq <| Rg <| Vs (Mv rfl) <| Vs (As rfl) <| Nx <| Re <| Tr <| Fi (l := [boolB (true)]) (Rc (resVar_tmp rfl rfl) Rn) rfl
  · replace hc1 := of_decide_eq_false hc1
    refine Ks <| Tg <| Sq <| Rg <| Vs (LdS TA27 TS27 rfl) <| Vs (C0 rfl rfl (g25 ok)) <| Vs (Mv rfl) <| Vs (Xt rfl) <| Vs (Xt rfl) <| Vs (As rfl) <| Vs (As rfl) <| Nx <| Sq <| Rg <| Vs (Mv rfl) <| Vs (C0 rfl rfl (x27t ok)) <| Vs (Mv rfl) <| Vs (Xt rfl) <| Vs (Xt rfl) <| Vs (Al 26 TZ27 rfl) <| Vs (StS TS27 rfl) <| Vs (As rfl) <| Nx <| Sq <| Sq <| Rg <| Vs (Mv rfl) <| Vs (Bi (c := .bool false) rfl) <| Vs (Mv rfl) <| Vs (Mv rfl) <| Vs (Bi (c := .bool false) rfl) <| Vs (Pk rfl) <| Vs (Mv rfl) <| Vs (LdS TA27 TS27 rfl) <| Vs (LdS TA27 TS27 rfl) <| Vs (Cf rfl rfl (g22t hp hq) rfl) <| Vs (Un rfl) <| Vs (Pk rfl) <| Nx <| Cz rfl <| Ks <| Tg <| Sq <| Rg <| Vs (Mv rfl) <| Vs (C0 rfl rfl (g27 s hs)) <| Vs (Mv rfl) <| Vs (Xt rfl) <| Vs (Xt rfl) <| Vs (Al 46 TZ27 rfl) <| Vs (StS TS27 rfl) <| Vs (As rfl) <| Nx <| Sq <| Sq <| Rg <| Vs (Mv rfl) <| Vs (Bi rfl) <| Nx <| Cd rfl (fun hc2 => ?_) (fun hc2 => ?_)
    · replace hc2 := bne_iff_ne.1 hc2
      exact Sq <| Rg <| Vs (Mv rfl) <| Vs (As rfl) <| Nx <| Re <| Tr <| Fi (l := [boolB (true)]) (Rc (resVar_tmp rfl rfl) Rn) rfl
    · replace hc2 := bne_eq_false_iff_eq.1 hc2
      exact Ks <| Tg <| Sq <| Rg <| Vs (LdS TA27 TS27 rfl) <| Vs (C0 rfl rfl (g25 (ps_ok hc2).1)) <| Vs (Mv rfl) <| Vs (Xt rfl) <| Vs (Xt rfl) <| Vs (As rfl) <| Vs (As rfl) <| Nx <| Sq <| Rg <| Vs (Mv rfl) <| Vs (Mv rfl) <| Vs (LdS TA27 TS27 rfl) <| Vs (Cf rfl rfl (g20q (ps_ok hc2).1) rfl) <| Vs (Pk rfl) <| Vs (Mv rfl) <| Vs (Mv rfl) <| Vs (Bi (c := .bool true) rfl) <| Vs (Pk rfl) <| Vs (Mv rfl) <| Vs (Mv rfl) <| Vs (Mv rfl) <| Vs (Kb (show ((txQ (psP s) (psQ s)).toList == (s).toList) = true from (beq_iff_eq.2 (by rw [(ps_ok hc2).2]))) (Bi rfl)) <| Vs (Pk rfl) <| Vs (As rfl) <| Nx <| Re <| Fi (l := [boolB (true)]) (Rc (resVar_tmp rfl rfl) Rn) rfl
theorem g6 (n : Bool) (A : List Int) (m : Bool) (D : List Int) (hA : A.length ≤ 9223372036854775807) (hD : D.length ≤ 9223372036854775807) (oA : ok32 A) (oD : ok32 D) (s : ByteArray) (hs : s.size ≤ 9223372036854775807) : VF Try.prog 6 [ratB n A m D, .lit (.string s)] (boolB true) := by
  have h := g29 n A m D n A m D n A m D hA hD hA hD hA hD oA oD oA oD oA oD 64
  cases e : v3 n A m D n A m D n A m D 64 with
  | false => rw [e] at h; exact g6i h
  | true =>
    rw [e] at h
    obtain ⟨c0, _, _⟩ := v3_get e
    obtain ⟨p, q, e1, e2, e3, e4, ok⟩ := as_q oA oD c0.1
    rw [e1, e2, e3, e4] at h ⊢
    exact g6v ok hs h
end Go.VL

set_option linter.unusedVariables false
set_option linter.unusedSimpArgs false
set_option maxRecDepth 100000
namespace Go.Proofs.Ytnabpemjcidhdaa
open Go.ChangeShapes Go.WideShapes Go.ChangeAt Go.RowKit Go.VL

theorem rationalTextRoundTrip_lifted (os : Os) (started : os.Started) (H : Type) (enc : TypeId × Value → H) :
    ReturnsInHanded {} Try.checked os 6 .any (Rows.rationalTextRoundTripSpec.pre6 enc Try.prog Try.f6 Rows.rationalTextRoundTripRow.domain false) (Rows.rationalTextRoundTripSpec.post enc Try.prog Try.f6 false true false false) := by
  refine returnsInHanded_of_change (C := Try.checked) Try_own started (by kernel_rfl) Try.func6
    (ChangeSpec.witness6 (enc := enc) (C := Try.checked) false ⟨#[], #[.agg #[.bool false, .slice none 0 0, .bool false, .slice none 0 0], .string ⟨#[]⟩], []⟩ 8 (by kernel_rfl) (by kernel_rfl) (by kernel_rfl) (by kernel_rfl)) ?_
  intro W base args ds gs before hval0 hW hcnd _
  have hval : ∀ (j : Nat) t v, Try.f6.params[j]? = some t → args[j]? = some v → Value.okWide Try.prog W .any base t v := hval0
  have hW' := hW
  obtain ⟨p, q, hA0, hV, rfl, hfz, hnd⟩ := hW
  have hA : DataW.TrodAll enc Try.prog W 0 (fun _ => true) true Try.f6.params.toList args.toList ds p := hA0
  have hA1 := hA
  rw [Try.params6] at hA hval
  obtain ⟨v0, v1, d0, d1, p0, p1, rfl, rfl, rfl, h0, h1⟩ := trodAll_two hA
  obtain ⟨rfl, rfl⟩ := trodVars_none hV
  obtain ⟨n0, A0, m0, D0, r0, ⟨o0, s0⟩, l0, k0⟩ := open_rat (hval 0 27 v0 rfl rfl) h0
  obtain ⟨s1, r1, l1⟩ := open_str (hval 1 9 v1 rfl rfl) h1
  simp only [List.append_nil] at hW'
  have hlt : ∀ x ∈ p0 ++ p1, x.block < W.heap.size := fun x hx => hW'.lt x hx
  have hread : ∀ t ∈ Try.f6.params.toList, Try.prog.readableRec t = true ∧ t < Try.prog.types.size := by rw [Try.params6]; exact types_cons T27 (types_cons T9 (types_nil))
  refine ((g6 n0 A0 m0 D0 l0 k0 o0 s0 s1 l1).runs (xs := [v0, v1]) rfl (reps_cons r0 (reps_cons r1 reps_nil))).mono fun e W' ⟨he, hb⟩ => ?_
  subst he
  exact ⟨_, rfl, post_of_below (pa := _) (pv := []) hW' (fun _ _ _ => trodAll_mk1 shut_true) (fun sp hsp => args_stay Try_laidOut hb hread hA1 hlt hsp) (fun _ _ => rfl) (by simp) hb (ok_one (by kernel_rfl) rfl ok_true)⟩

theorem rationalTextRoundTrip_facts : joinedFacts Try.pinned.checked.prog 6 Try.f6 Rows.rationalTextRoundTripSpec Rows.rationalTextRoundTripRow = true := by
  unfold joinedFacts
  rw [head_may, head_lifts, head_make]
  kernel_rfl

theorem rationalTextRoundTrip_holds : Rows.RationalTextRoundTripSaid :=
  OpenClaim.holds_of_wide 6 Try.f6 rfl rfl rfl rfl rfl rfl rfl ⟨rfl, rfl, rfl, rfl, rfl⟩ rfl rfl rfl rfl rfl (by kernel_rfl) Try.func6 rationalTextRoundTrip_facts
    (of_decide_eq_true (by kernel_rfl)) (by unfold Func.isWrapper; rw [if_neg (of_decide_eq_false (by kernel_rfl))]; exact ⟨rfl, rfl⟩)
    (fun os started H enc _ => rationalTextRoundTrip_lifted os started H enc)

end Go.Proofs.Ytnabpemjcidhdaa
