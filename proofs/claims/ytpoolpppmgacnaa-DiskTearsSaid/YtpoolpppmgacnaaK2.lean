/- A small program logic over the translated Go code, plain laws, and walks over the functions: several texts in one. No condition. -/
import Derived.Laws.Strings
import Derived.ProofKit
import Derived.Test.YtpoolpppmgacnaaK1
/- Plain laws of reading decimal texts. No program here. -/
set_option linter.unusedVariables false
set_option linter.unusedSimpArgs false
namespace Go.VL

theorem strEq_t {a b : ByteArray} (h : (a.toList == b.toList) = true) : a = b := by
  have h1 : a.toList = b.toList := by simpa using h
  rw [Go.ByteArray.toList_eq, Go.ByteArray.toList_eq] at h1
  exact ByteArray.ext (Array.ext' h1)
theorem strEq_f {a b : ByteArray} (h : (a.toList == b.toList) = false) : a ≠ b := fun e => by subst e; simp at h
def at8 (s : ByteArray) (i : Nat) : Int := ((s.data.getD i 0).toNat : Int)
theorem at8_range (s : ByteArray) (i : Nat) : 0 ≤ at8 s i ∧ at8 s i < 256 := by
  unfold at8
  have := UInt8.toNat_lt (s.data.getD i 0)
  omega
def negS (s : ByteArray) : Bool := decide (0 < s.size ∧ at8 s 0 = 45)
def digS (s : ByteArray) : ByteArray := if negS s = true then s.extract 1 s.size else s
def preS (s : ByteArray) : Bool := decide (digS s ≠ ⟨#[]⟩ ∧ ¬ (at8 (digS s) 0 = 48 ∧ s ≠ ⟨#[48]⟩))
def numS (d : ByteArray) : Bool := decide (∀ i, i < d.size → 48 ≤ at8 d i ∧ at8 d i ≤ 57)
def okS (s : ByteArray) : Bool := preS s && numS (digS s)
def dS (s : ByteArray) : ByteArray := if okS s = true then digS s else ⟨#[]⟩
abbrev dcR (s : ByteArray) : B := .tup [.lit (.string (dS s)), boolB (okS s && negS s), boolB (okS s)]
theorem dc_bad {s : ByteArray} (h : okS s = false) : dcR s = .tup [.lit (.string ⟨#[]⟩), boolB false, boolB false] := by simp [dcR, dS, h]
theorem dc_ok {s : ByteArray} (h : okS s = true) : dcR s = .tup [.lit (.string (digS s)), boolB (negS s), boolB true] := by simp [dcR, dS, h]
theorem neg_in {s : ByteArray} (h : 0 < s.size) : (at8 s 0 == 45) = negS s := by
  unfold negS; rw [Bool.eq_iff_iff]; simp [h]
theorem neg_out {s : ByteArray} (h : ¬ 0 < s.size) : negS s = false := by unfold negS; simp; omega
theorem neg_size {s : ByteArray} (h : negS s = true) : 0 < s.size := by unfold negS at h; rw [decide_eq_true_iff] at h; exact h.1
theorem dig_yes {s : ByteArray} (h : negS s = true) : s.extract 1 s.size = digS s := by unfold digS; rw [if_pos h]
theorem dig_no {s : ByteArray} (h : negS s = false) : s = digS s := by unfold digS; rw [if_neg (by simp [h])]
theorem ok_empty {s : ByteArray} (h : digS s = ⟨#[]⟩) : okS s = false := by simp [okS, preS, h]
theorem ok_zero {s : ByteArray} (h : at8 (digS s) 0 = 48) (h2 : s ≠ ⟨#[48]⟩) : okS s = false := by simp [okS, preS, h, h2]
theorem pre_a {s : ByteArray} (h0 : digS s ≠ ⟨#[]⟩) (h2 : s = ⟨#[48]⟩) : preS s = true := by unfold preS; rw [decide_eq_true_iff]; exact ⟨h0, fun h => h.2 h2⟩
theorem pre_b {s : ByteArray} (h0 : digS s ≠ ⟨#[]⟩) (h2 : at8 (digS s) 0 ≠ 48) : preS s = true := by unfold preS; rw [decide_eq_true_iff]; exact ⟨h0, fun h => h2 h.1⟩
theorem ok_bad {s : ByteArray} {i : Nat} (hi : i < (digS s).size) (h : at8 (digS s) i < 48 ∨ at8 (digS s) i > 57) : okS s = false := by
  have : numS (digS s) = false := by
    unfold numS; rw [decide_eq_false_iff_not]
    intro hc
    have := hc i hi
    omega
  simp [okS, this]
theorem ok_good {s : ByteArray} (hp : preS s = true) (h : ∀ i, i < (digS s).size → 48 ≤ at8 (digS s) i ∧ at8 (digS s) i ≤ 57) : okS s = true := by
  simp only [okS, hp, Bool.true_and, numS, decide_eq_true_iff]; exact h
theorem size_pos {d : ByteArray} (h : d ≠ ⟨#[]⟩) : 0 < d.size := by
  apply Classical.byContradiction
  intro hc
  have h0 : d.data.size = 0 := by have : d.size = 0 := by omega
                                  exact this
  exact h (ByteArray.ext (Array.eq_empty_of_size_eq_zero h0))
theorem dS_ok {s : ByteArray} (h : okS s = true) : dS s = digS s := by rw [dS, if_pos h]
theorem dS_num {s : ByteArray} {i : Nat} (hi : i < (dS s).size) : 48 ≤ at8 (dS s) i ∧ at8 (dS s) i ≤ 57 := by
  by_cases h : okS s = true
  · rw [dS_ok h] at hi ⊢
    simp only [okS, Bool.and_eq_true, numS, decide_eq_true_iff] at h
    exact h.2 i hi
  · rw [dS, if_neg h] at hi
    exact absurd hi (by simp [ByteArray.size])
theorem digS_size (s : ByteArray) : (digS s).size ≤ s.size := by
  unfold digS; split
  · rw [ByteArray.size_extract]; omega
  · omega
theorem dS_size (s : ByteArray) : (dS s).size ≤ s.size := by
  unfold dS; split
  · exact digS_size s
  · exact Nat.zero_le _
/-- The number that digits stand for. -/
def pv (L : List Int) : Int := L.foldl (fun a x => a * 10 + (x - 48)) 0
theorem pv_snoc (L : List Int) (x : Int) : pv (L ++ [x]) = pv L * 10 + (x - 48) := by simp [pv]
def bl (d : ByteArray) : List Int := d.data.toList.map (fun b => (b.toNat : Int))
theorem bl_len (d : ByteArray) : (bl d).length = d.size := by unfold bl; rw [List.length_map, Array.length_toList]; rfl
theorem bl_get {d : ByteArray} {i : Nat} (hi : i < d.size) : (bl d)[i]? = some (at8 d i) := by
  have hi' : i < d.data.size := hi
  unfold bl at8
  rw [List.getElem?_map, Array.getElem?_toList, Array.getElem?_eq_getElem hi']
  have e : d.data.getD i 0 = d.data[i] := by unfold Array.getD; rw [dif_pos hi']; rfl
  rw [e]; rfl
def pvn (d : ByteArray) (i : Nat) : Int := pv ((bl d).take i)
theorem pvn_step {d : ByteArray} {i : Nat} (hi : i < d.size) : pvn d (i + 1) = pvn d i * 10 + (at8 d i - 48) := by
  unfold pvn
  rw [List.take_add_one, bl_get hi]
  exact pv_snoc _ _
theorem pvn_out {d : ByteArray} {i j : Nat} (hi : d.size ≤ i) (hj : d.size ≤ j) : pvn d i = pvn d j := by
  unfold pvn
  rw [List.take_of_length_le (by rw [bl_len]; exact hi), List.take_of_length_le (by rw [bl_len]; exact hj)]
theorem pvn_all {d : ByteArray} {i : Nat} (hi : d.size ≤ i) : pvn d i = pv (bl d) := by
  unfold pvn; rw [List.take_of_length_le (by rw [bl_len]; exact hi)]
theorem pvn_zero (d : ByteArray) : pvn d 0 = 0 := rfl
theorem pvn_range {d : ByteArray} (hd : ∀ i, i < d.size → 48 ≤ at8 d i ∧ at8 d i ≤ 57) : ∀ i, 0 ≤ pvn d i ∧ pvn d i < 10 ^ i
  | 0 => by rw [pvn_zero]; simp
  | i + 1 => by
    have ih := pvn_range hd i
    have hp : (10 : Int) ^ (i + 1) = 10 ^ i * 10 := Int.pow_succ ..
    by_cases hi : i < d.size
    · rw [pvn_step hi, hp]
      have := hd i hi
      omega
    · rw [pvn_out (j := i) (by omega) (by omega), hp]
      omega
/-- A group of digits. -/
structure PartInv (d : ByteArray) (i k : Nat) (p c : Int) : Prop where
  le : i ≤ k
  le9 : k ≤ i + 9
  les : k ≤ d.size
  c_ : c = 10 ^ (k - i)
  p0 : 0 ≤ p
  p1 : p < c
  eq : pvn d k = pvn d i * c + p
theorem PartInv.start {d : ByteArray} {i : Nat} (hi : i ≤ d.size) : PartInv d i i 0 1 := ⟨by omega, by omega, hi, by simp, by omega, by omega, by omega⟩
theorem PartInv.step {d : ByteArray} {i k : Nat} {p c : Int} (hd : 48 ≤ at8 d k ∧ at8 d k ≤ 57) (h : PartInv d i k p c) (hk : k < d.size) (h9 : k < i + 9) : PartInv d i (k + 1) (p * 10 + (at8 d k - 48)) (c * 10) := by
  obtain ⟨h1, h2, h3, h4, h5, h6, h7⟩ := h
  refine ⟨by omega, by omega, by omega, ?_, by omega, by omega, ?_⟩
  · rw [show k + 1 - i = (k - i) + 1 by omega, Int.pow_succ, h4]
  · rw [pvn_step hk, h7, Int.add_mul, Int.mul_assoc]; omega
theorem PartInv.c9 {d : ByteArray} {i k : Nat} {p c : Int} (h : PartInv d i k p c) : 1 ≤ c ∧ c ≤ 1000000000 := by
  have h2 : (10 : Nat) ^ (k - i) ≤ 10 ^ 9 := Nat.pow_le_pow_right (by decide) (by have := h.le9; omega)
  have h3 : ((10 ^ (k - i) : Nat) : Int) ≤ ((10 ^ 9 : Nat) : Int) := Int.ofNat_le.2 h2
  rw [Int.natCast_pow, Int.natCast_pow] at h3
  have e : ((10 : Nat) : Int) ^ 9 = 1000000000 := rfl
  have e2 : ((10 : Nat) : Int) = 10 := rfl
  rw [e, e2, ← h.c_] at h3
  have := ten_pos (k - i)
  rw [← h.c_] at this
  omega
theorem PartInv.c8 {d : ByteArray} {i k : Nat} {p c : Int} (h : PartInv d i k p c) (h9 : k < i + 9) : c ≤ 100000000 := by
  have h2 : (10 : Nat) ^ (k - i) ≤ 10 ^ 8 := Nat.pow_le_pow_right (by decide) (by have := h.le; omega)
  have h3 : ((10 ^ (k - i) : Nat) : Int) ≤ ((10 ^ 8 : Nat) : Int) := Int.ofNat_le.2 h2
  rw [Int.natCast_pow, Int.natCast_pow] at h3
  have e : ((10 : Nat) : Int) ^ 8 = 100000000 := rfl
  have e2 : ((10 : Nat) : Int) = 10 := rfl
  rw [e, e2, ← h.c_] at h3
  exact h3
theorem ten_len {v : Int} {i : Nat} (h0 : 0 ≤ v) (h : v < 10 ^ i) : (dg v).length ≤ i := by
  refine (len_dg h0 i).2 ?_
  have h2 : (10 : Nat) ^ i ≤ 4294967296 ^ i := Nat.pow_le_pow_left (by decide) i
  have h3 : ((10 ^ i : Nat) : Int) ≤ ((4294967296 ^ i : Nat) : Int) := Int.ofNat_le.2 h2
  rw [Int.natCast_pow, Int.natCast_pow] at h3
  have e : ((10 : Nat) : Int) = 10 := rfl
  have e2 : ((4294967296 : Nat) : Int) = 4294967296 := rfl
  rw [e, e2] at h3
  omega
/-- A group is appended. -/
theorem group {d : ByteArray} {X : List Int} {i k : Nat} {p c : Int} (hX : val X = pvn d i) (h : PartInv d i k p c) (hp : 0 ≤ pvn d i) : val (dg (val (dg (val X * val [c])) + val (dg (val [p])))) = pvn d k := by
  have h1 : val [c] = c := by simp [val]
  have h2 : val [p] = p := by simp [val]
  have h3 := h.p0
  have h4 := h.c9
  have h5 : 0 ≤ pvn d i * c := Int.mul_nonneg hp (by omega)
  rw [h1, h2, hX, val_dg h5, val_dg h3, val_dg (by omega), h.eq]
def prE (ok : Bool) (z : Int) : Int := if ok = true then zE z else 3
def pZ (s : ByteArray) : Int := sg (negS s) (pv (bl (digS s)))
abbrev prR (s : ByteArray) : B := .tup [intB (gN (okS s) (pZ s)) (gL (okS s) (pZ s)), numB .i64 (prE (okS s) (pZ s))]
theorem pr_bad {s : ByteArray} (h : okS s = false) : prR s = .tup [intB false [], numB .i64 3] := by simp [prR, gN, gL, prE, h]
theorem pr_ok {s : ByteArray} (h : okS s = true) : prR s = zR (pZ s) := by simp [prR, gN, gL, prE, h]
theorem pvn_ge {d : ByteArray} (hd : ∀ i, i < d.size → 48 ≤ at8 d i ∧ at8 d i ≤ 57) (h0 : 49 ≤ at8 d 0) : ∀ i, i < d.size → (10 : Int) ^ i ≤ pvn d (i + 1)
  | 0, h => by rw [pvn_step h, pvn_zero]; simp; omega
  | i + 1, h => by
    have ih := pvn_ge hd h0 i (by omega)
    rw [pvn_step h, Int.pow_succ]
    have := hd (i + 1) h
    omega
theorem limit_tenG (k : Nat) : (4294967296 : Int) ^ k ≤ 10 ^ (10 * k) := by
  have h3 := Int.ofNat_le.2 (ten_limbs k)
  rw [Int.natCast_pow, Int.natCast_pow] at h3
  exact h3
theorem ten_mono {m n : Nat} (h : m ≤ n) : (10 : Int) ^ m ≤ 10 ^ n := by
  have h3 := Int.ofNat_le.2 (Nat.pow_le_pow_right (show 0 < 10 by decide) h)
  rw [Int.natCast_pow, Int.natCast_pow] at h3
  exact h3
theorem limit_ten : limit ≤ 10 ^ (10 * 128) := limit_tenG 128
theorem digits_big {s : ByteArray} (h : okS s = true) (hb : 1280 < (digS s).size) : limit ≤ pv (bl (digS s)) := by
  have hn : ∀ i, i < (digS s).size → 48 ≤ at8 (digS s) i ∧ at8 (digS s) i ≤ 57 := fun i hi => by
    have := dS_num (s := s) (i := i) (by rw [dS_ok h]; exact hi)
    rwa [dS_ok h] at this
  have h1 : 49 ≤ at8 (digS s) 0 := by
    simp only [okS, Bool.and_eq_true, preS, decide_eq_true_iff] at h
    have h2 := hn 0 (by omega)
    apply Classical.byContradiction
    intro hc
    refine h.1.2 ⟨by omega, fun e => ?_⟩
    have := digS_size s
    rw [e] at this hb
    have e2 : (⟨#[48]⟩ : ByteArray).size = 1 := rfl
    omega
  obtain ⟨m, hm⟩ : ∃ m, (digS s).size = m + 1 := ⟨(digS s).size - 1, by omega⟩
  have h2 := pvn_ge hn h1 m (by omega)
  rw [pvn_all (by omega)] at h2
  exact Int.le_trans limit_ten (Int.le_trans (ten_mono (show 10 * 128 ≤ m by omega)) h2)
theorem mulw_len {X : List Int} {c : Int} (oX : ok32 X) (hX : X.length ≤ 1400) (h0 : 0 ≤ c) (h1 : c < 4294967296) : (dg (val X * val [c])).length ≤ 900000000 := by
  have e : val [c] = c := by simp [val]
  rw [e]
  have v0 := val_nonneg oX
  have h := (len_dg (Int.mul_nonneg v0 h0) 1401).2 (by
    have h2 := val_lt oX
    have h3 := pow_mono hX
    have hp := pow_pos 1400
    rw [show (1401 : Nat) = 1400 + 1 from rfl, Int.pow_succ]
    generalize (4294967296 : Int) ^ 1400 = P at *
    have h4 : val X * c ≤ (P - 1) * c := Int.mul_le_mul_of_nonneg_right (by omega) h0
    have h5 : (P - 1) * c ≤ (P - 1) * 4294967296 := Int.mul_le_mul_of_nonneg_left (by omega) (by omega)
    omega)
  omega
end Go.VL

/- A small program logic over the translated Go code, further part: bytes of strings. -/
set_option linter.unusedVariables false
set_option linter.unusedSimpArgs false
namespace Go.VL
section
variable {P : Program} {id : Nat} {s : Slots} {E : Env} {x ix : Operand} {T : TypeId} {k : IntKind} {str : ByteArray}
theorem Eff.indexSN {q : Nat} (h : ev s x = some (.b (.lit (.string str)))) (hi : ev s ix = some (vI k (q : Int))) (hu : P.underlying T = some .string) (h1 : q < str.size) : Eff P id s E (.index T x ix) (some (vI .u8 (at8 str q))) [] :=
  .index T x ix str k (q : Int) h hi hu (by omega) (by simpa using h1)
theorem Eff.indexS {j : Int} (h : ev s x = some (.b (.lit (.string str)))) (hi : ev s ix = some (vI k j)) (hu : P.underlying T = some .string) (h0 : 0 ≤ j) (h1 : j.toNat < str.size) : Eff P id s E (.index T x ix) (some (vI .u8 (at8 str j.toNat))) [] :=
  .index T x ix str k j h hi hu h0 h1
theorem Eff.strFromN {lo : Operand} {q : Nat} (h : ev s x = some (.b (.lit (.string str)))) (hl : ev s lo = some (vI k (q : Int))) (hu : P.underlying T = some .string) (h1 : q ≤ str.size) :
    Eff P id s E (.slice T x (some lo) none none) (some (.b (.lit (.string (str.extract q str.size))))) [] :=
  .strFrom T x lo str k (q : Int) h hl hu (by omega) (by omega)
theorem Eff.castB {op : Op} {us : List (Nat × Option Ent)} {t t' : Bool} (h : t = t') (he : Eff P id s E op (some (vB t)) us) : Eff P id s E op (some (vB t')) us := h ▸ he
end
end Go.VL

/- A small program logic over the translated Go code, further part: the contract of a function that is lent entries, from its code. -/
set_option linter.unusedVariables false
set_option linter.unusedSimpArgs false
namespace Go.VL
open Go.RowKit

/-- What a result variable holds at the end. -/
def resV (P : Program) (s : Slots) (E : Env) : ResultVar → Option V
  | .tmp t => s t
  | .cell t T => match s t with
    | some (.ptr i off) => match E i, aggOf P T, szOf P T with
      | some e, some true, some n => if off + n ≤ e.cells.length then some (.agg ((e.cells.drop off).take n)) else none
      | some e, some false, _ => e.cells[off]?
      | _, _, _ => none
    | _ => none
/-- Whether a row may be told by its contents from now on: none of what is left of the table writes it. -/
def freeOf (ρ : Nat → Nat) (L1 : List (Option Ent)) (l : List Nat) : Bool := l.all fun i => (List.range L1.length).all fun j => match L1[j]? with
  | some (some e) => !e.hot || !(ρ j == i)
  | _ => true
inductive ResG (P : Program) (s : Slots) (E : Env) (ρ : Nat → Nat) (L1 : List (Option Ent)) : List ResultVar → List V → Prop
  | nil : ResG P s E ρ L1 [] []
  | name (z v x zs xs) (hz : resV P s E z = some v) (hx : v = x.ren ρ) (hb : x.all.all (fun i => decide (i < L1.length)) = true) (h : ResG P s E ρ L1 zs xs) : ResG P s E ρ L1 (z :: zs) (x :: xs)
  | val (z v y zs xs) (hz : resV P s E z = some v) (hr : res E v = some y) (hn : freeOf ρ L1 v.names = true) (h : ResG P s E ρ L1 zs xs) : ResG P s E ρ L1 (z :: zs) (.b y :: xs)
inductive ResOf : List V → V → Prop
  | one (x) : ResOf [x] x
  | vals (l : List V) (ys : List B) (hl : l = ys.map .b) (h : (ys.length == 1) = false) : ResOf l (.b (.tup ys))
  | tup (l) (hl : (l.length == 1) = false) (h : l.all V.noTup = true) : ResOf l (.tup l)

section
variable {P : Program} {w0 W W1 : World} {P0 F : Nat → Prop} {E0 E E1 : Env} {pl0 pl pl1 : Plan} {N id : Nat} {s : Slots} {a : Act}

theorem resV_run (S : Sim w0 P0 E0 pl0 N E pl s a W) {z : ResultVar} {v : V} (h : resV P s E z = some v) :
    ∃ u : Value, (rvRun a.tmps z).run P W = .ok u W ∧ Rep W (Qf (FF w0 P0) E pl) pl v u := by
  cases z with
  | tmp t =>
    obtain ⟨u, hu, hrep⟩ := S.slots t v h
    exact ⟨u, by simp [rvRun, Array.getD_eq_getD_getElem?, hu], hrep⟩
  | cell p T =>
    simp only [resV] at h
    split at h
    · rename_i i off hp
      obtain ⟨q, hq, g, c, hpl, rfl⟩ := S.slots p _ hp
      have hq' : a.tmps.getD p undef = .pointer (some ⟨g, off, none⟩) := by simp [Array.getD_eq_getD_getElem?, hq]
      split at h
      · rename_i e n he ha hn
        split at h
        · rename_i hl
          injection h with h
          subst h
          have rd : ∀ j, j < n → ∃ (x : V) (u : Value), e.cells[off + j]? = some x ∧ W.cell? ⟨g, off + j, none⟩ = some u ∧ u.oneCell' = true ∧ RepL W (Qf (FF w0 P0) E pl) pl x u := fun j hj => by
            have hx : e.cells[off + j]? = some (e.cells[off + j]'(by omega)) := List.getElem?_eq_getElem _
            obtain ⟨u, h1, h2, h3⟩ := S.read he hpl hx
            exact ⟨_, u, hx, h1, h2, h3⟩
          let f : Nat → Value := fun j => (W.cell? ⟨g, off + j, none⟩).getD undef
          have hf1 : ∀ j, j < n → W.cell? ((⟨g, off, none⟩ : Addr).add j) = some (f j) := fun j hj => by
            obtain ⟨x, u, _, h1, _⟩ := rd j hj
            rw [add_plain]
            simp [f, h1]
          have hload := run_loadCells (P := P) W ⟨g, off, none⟩ n f hf1
          refine ⟨.agg ((List.range n).map f).toArray, ?_, ⟨_, rfl, by simp; omega, fun j x hj => ?_⟩⟩
          · simp [rvRun, hq', asAddr, loadVar, run_isAgg ha, run_sizeOf hn, hload]
          · have hjn : j < n := by
              have := (List.getElem?_eq_some_iff.1 hj).1
              simp at this; omega
            obtain ⟨y, u, h0, h1, h2, h3⟩ := rd j hjn
            have : x = y := by
              rw [List.getElem?_take_of_lt hjn, List.getElem?_drop, h0] at hj
              injection hj with hj; exact hj.symm
            subst this
            exact ⟨u, by simp [hjn, f, h1], h2, h3⟩
        · cases h
      · rename_i e he ha
        obtain ⟨u, h1, h2, h3⟩ := S.read he hpl h
        refine ⟨u, ?_, rep_of_repL h3⟩
        simp [rvRun, hq', asAddr, loadVar, run_isAgg ha, h1]
      · cases h
    · cases h

theorem freeOf_get {ρ : Nat → Nat} {L1 : List (Option Ent)} {l : List Nat} (h : freeOf ρ L1 l = true) {i : Nat} (hi : i ∈ l) {j : Nat} {e : Ent} (hj : L1[j]? = some (some e)) (hh : e.hot = true) : ρ j ≠ i := by
  have h1 := List.all_eq_true.1 (List.all_eq_true.1 h i hi) j (List.mem_range.2 (List.getElem?_eq_some_iff.1 hj).1)
  rw [hj] at h1
  simpa [hh] using h1

theorem resG_run (S : Sim w0 P0 E0 pl0 N E pl s a W) {ρ : Nat → Nat} {L1 : List (Option Ent)} {k : Nat} (hw : WeakR ρ k s E L1.length (fun _ => none) (tab L1)) : ∀ {l : List ResultVar} {xs : List V}, ResG P s E ρ L1 l xs →
    ∃ us : List Value, (l.mapM (rvRun a.tmps)).run P W = .ok us W ∧ us.length = xs.length ∧ ∀ (j : Nat) (x : V), xs[j]? = some x → ∃ u, us[j]? = some u ∧ Rep W (Qf (FF w0 P0) (tab L1) (fun i => if i < L1.length then pl (ρ i) else none)) (fun i => if i < L1.length then pl (ρ i) else none) x u := by
  intro l xs h
  have hh : ∀ b, Hot (tab L1) (fun i => if i < L1.length then pl (ρ i) else none) b → Hot E pl b := fun b hb => by
    obtain ⟨j, e, c, h1, h2, h3⟩ := hb
    obtain ⟨q1, q2, _⟩ := hw.ent j e h1
    simp only [q2, if_true] at h3
    exact ⟨ρ j, _, c, q1, h2, h3⟩
  have hQ : ∀ b, Qf (FF w0 P0) E pl b → Qf (FF w0 P0) (tab L1) (fun i => if i < L1.length then pl (ρ i) else none) b := fun b hb => ⟨hb.1, fun h => hb.2 (hh b h)⟩
  have cons : ∀ {z zs} {x : V} {xs : List V}, (∃ u : Value, (rvRun a.tmps z).run P W = .ok u W ∧ Rep W (Qf (FF w0 P0) (tab L1) (fun i => if i < L1.length then pl (ρ i) else none)) (fun i => if i < L1.length then pl (ρ i) else none) x u) →
      (∃ us : List Value, (zs.mapM (rvRun a.tmps)).run P W = .ok us W ∧ us.length = xs.length ∧ ∀ (j : Nat) (x : V), xs[j]? = some x → ∃ u, us[j]? = some u ∧ Rep W (Qf (FF w0 P0) (tab L1) (fun i => if i < L1.length then pl (ρ i) else none)) (fun i => if i < L1.length then pl (ρ i) else none) x u) →
      ∃ us : List Value, ((z :: zs).mapM (rvRun a.tmps)).run P W = .ok us W ∧ us.length = (x :: xs).length ∧ ∀ (j : Nat) (y : V), (x :: xs)[j]? = some y → ∃ u, us[j]? = some u ∧ Rep W (Qf (FF w0 P0) (tab L1) (fun i => if i < L1.length then pl (ρ i) else none)) (fun i => if i < L1.length then pl (ρ i) else none) y u := by
    rintro z zs x xs ⟨u, u1, u2⟩ ⟨us, k1, k2, k3⟩
    refine ⟨u :: us, ?_, by simp [k2], fun j y hj => ?_⟩
    · rw [List.mapM_cons, Sem.run_bind, u1, Result.andThen_ok, Sem.run_bind, k1, Result.andThen_ok]
      rfl
    · cases j with
      | zero => simp at hj; subst hj; exact ⟨u, rfl, u2⟩
      | succ j => simpa using k3 j y (by simpa using hj)
  induction h with
  | nil => exact ⟨[], by simp, rfl, fun j x hj => by simp at hj⟩
  | name z v x zs xs hz hx hb h ih =>
    refine cons ?_ ih
    obtain ⟨u, u1, u2⟩ := resV_run (P := P) S hz
    subst hx
    exact ⟨u, u1, u2.less hQ (fun i hi => by simp [show i < L1.length by simpa using List.all_eq_true.1 hb i hi])⟩
  | val z v y zs xs hz hr hn h ih =>
    refine cons ?_ ih
    obtain ⟨u, u1, u2⟩ := resV_run (P := P) S hz
    refine ⟨u, u1, rep_res S.eok hr u2 hQ (fun i hi e g c he hp hF => ⟨hF, fun hot => ?_⟩)⟩
    obtain ⟨j, e1, c1, h1, h2, h3⟩ := hot
    obtain ⟨q1, q2, _⟩ := hw.ent j e1 h1
    simp only [q2, if_true] at h3
    exact freeOf_get hn hi (tab_some.1 h1) h2 (S.eok.inj (ρ j) i _ e g c1 c q1 he h3 hp)

/-- A function whose code does what is said keeps its contract. -/
theorem VG_ofY {f : FuncId} {fn : Func} {c : Code} {xs : List V} {L0 : List Ent} {r : V} {L1 : List (Option Ent)} {X : VExit → Nat → Slots → Env → Prop} {n1 : Nat} {s1 : Slots} {E1 : Env} (hm : P.follows .mixedOrders = true) (hfn : P.funcs[f]? = some fn) (hb : fn.body = some c) (hname : (fn.name == "runtime.NumGoroutine") = false)
    (hc : codeOk (xs.length + (fn.ntmps - xs.length)) c = true) (hlen : L0.length ≤ L1.length) (hnew : ((L1.drop L0.length).all fun | some e => e.hot | none => true) = true)
    (hX : ∀ e n s E, X e n s E → (match e with | .exit _ => False | _ => True) ∧ ((∃ ρ, WeakR ρ L0.length s E L1.length (fun _ => none) (tab L1) ∧ ∃ l, ResG P s E ρ L1 fn.results.toList l ∧ ResOf l r) ∨
      ∃ n1 s1 E1, Weak L0.length s E n1 s1 E1 ∧ ∃ ρ, WeakR ρ L0.length s1 E1 L1.length (fun _ => none) (tab L1) ∧ ∃ l, ResG P s1 E1 ρ L1 fn.results.toList l ∧ ResOf l r))
    (hst : (n1 = L0.length ∧ s1 = (fun t => xs[t]?) ∧ E1 = tab (L0.map some)) ∨ Weak L0.length (fun t => xs[t]?) (tab (L0.map some)) n1 s1 E1) (hbody : VCode P L0.length c n1 s1 E1 X) : VG P f xs L0 r L1 := by
  refine ⟨⟨fn, c, hfn, hb, hname⟩, hlen, fun j e hj he => ?_, fun w F pl us hsz hE hpl hargs => calls_of_wp hfn hb ?_⟩
  · have := List.all_eq_true.1 hnew (some e) (by
      refine List.mem_of_getElem? (i := j - L0.length) ?_
      rw [List.getElem?_drop, show L0.length + (j - L0.length) = j by omega]
      exact he)
    exact this
  have qm : ∀ b, Qf F (tab (L0.map some)) pl b → Qf (FF w F) (tab (L0.map some)) pl b := fun b hb => ⟨.inl hb.1, hb.2⟩
  have S : Sim w F (tab (L0.map some)) pl (xs.length + (fn.ntmps - xs.length)) (tab (L0.map some)) pl (fun t => xs[t]?) { tmps := us ++ Array.replicate (fn.ntmps - us.size) undef, defers := [] } w := by
    refine ⟨Kept.refl w _ _, fun k hk => .inr hk, ⟨fun i e he => ?_, hE.inj⟩, fun i p h => h, fun t x ht => ?_, by simp [hsz], rfl⟩
    · obtain ⟨g, c, cur, T, r1, r2, r3, r4, r5, r6, r7, r8⟩ := hE.ent i e he
      refine ⟨g, c, cur, T, r1, r2, .inl r3, r4, r5, r6, r7, fun j x hj => ?_⟩
      obtain ⟨u, hu, hu1, hr⟩ := r8 j x hj
      exact ⟨u, hu, hu1, hr.move (fun _ _ _ => rfl) (fun k hk _ => qm k hk) (fun _ _ h => h)⟩
    · obtain ⟨u, hu, hr⟩ := hargs t x ht
      have hlt : t < us.size := (Array.getElem?_eq_some_iff.1 hu).1
      exact ⟨u, by rw [Array.getElem?_append_left hlt]; exact hu, hr.move (fun _ _ _ => rfl) (fun k hk _ => qm k hk) (fun _ _ h => h)⟩
  obtain ⟨pl0', S0, hf0⟩ : ∃ pl0', Sim w F (tab (L0.map some)) pl (xs.length + (fn.ntmps - xs.length)) E1 pl0' s1 { tmps := us ++ Array.replicate (fn.ntmps - us.size) undef, defers := [] } w ∧ ∀ i, n1 ≤ i → pl0' i = none := by
    rcases hst with ⟨rfl, rfl, rfl⟩ | hw
    · exact ⟨pl, S, hpl⟩
    · exact S.weak hpl hw
  refine VCode.sound (k := L0.length) hpl hm c n1 _ _ _ _ _ w _ hbody hc S0 hf0 (fun e n s E a W pl1 he S' hf' => ?_)
  obtain ⟨h1, he⟩ := hX e n s E he
  obtain ⟨n, s, E, pl1, S', hf', ρ, hw, l, h2, h3⟩ : ∃ (n : Nat) (s : Slots) (E : Env) (pl1 : Plan), Sim w F (tab (L0.map some)) pl (xs.length + (fn.ntmps - xs.length)) E pl1 s a W ∧ (∀ i, n ≤ i → pl1 i = none) ∧
      ∃ ρ, WeakR ρ L0.length s E L1.length (fun _ => none) (tab L1) ∧ ∃ l, ResG P s E ρ L1 fn.results.toList l ∧ ResOf l r := by
    rcases he with he | ⟨n1, s1, E1, hw, he⟩
    · exact ⟨n, s, E, pl1, S', hf', he⟩
    · obtain ⟨pl2, S2, hf2⟩ := S'.weak hpl hw
      exact ⟨n1, s1, E1, pl2, S2, hf2, he⟩
  obtain ⟨vs, u1, u2, u3⟩ := resG_run S' hw h2
  have S2 := S'.weakR hpl hw
  have hres : ∃ u, (results fn a.tmps).run P W = .ok u W ∧ Rep W (Qf (FF w F) (tab L1) (fun i => if i < L1.length then pl1 (ρ i) else none)) (fun i => if i < L1.length then pl1 (ρ i) else none) r u := by
    have hmm : (results fn a.tmps).run P W = .ok (if h : vs.toArray.size = 1 then vs.toArray[0] else .tuple vs.toArray) W := by
      have he : results fn a.tmps = (do let vs ← fn.results.mapM (rvRun a.tmps); pure (if h : vs.size = 1 then vs[0] else .tuple vs) : Sem Value) := by
        unfold results
        congr 1
      rw [he, Array.mapM_eq_mapM_toList]
      simp [u1]
    refine ⟨_, hmm, ?_⟩
    cases h3 with
    | one =>
      obtain ⟨v, rfl⟩ := List.length_eq_one_iff.1 u2
      obtain ⟨u, hu, hr⟩ := u3 0 r rfl
      simp at hu; subst hu
      exact hr
    | vals l ys hl hy =>
      subst hl
      have hn1 : ¬ vs.toArray.size = 1 := by simpa [u2] using hy
      rw [dif_neg hn1]
      refine RepB.tup ys vs.toArray (fun j => vs.getD j undef) (by simp [u2]) (fun j hj => ?_) (fun j x hj => ?_)
      · have : j < vs.length := by rw [u2]; simpa using hj
        simp [List.getD_eq_getElem?_getD, this]
      · obtain ⟨u, hu, hr⟩ := u3 j (.b x) (by rw [List.getElem?_map, hj]; rfl)
        have hr' : RepB W _ x u := hr
        simpa [List.getD_eq_getElem?_getD, hu] using hr'
    | tup l hl hnt =>
      have hn1 : ¬ vs.toArray.size = 1 := by simpa [u2] using hl
      rw [dif_neg hn1]
      refine ⟨vs.toArray, rfl, by simp [u2], fun j x hj => ?_⟩
      obtain ⟨u, hu, hr⟩ := u3 j x hj
      refine ⟨u, by simpa using hu, ?_⟩
      have := List.all_eq_true.1 hnt x (List.mem_of_getElem? hj)
      cases x with
      | tup l => cases this
      | b x => exact hr
      | own i n => exact hr
      | ptr i off => exact hr
      | rd l => exact hr
      | agg l => exact hr
      | fn f l => exact hr
      | win i off n => exact hr
      | cut sz l => exact hr
  obtain ⟨u, hu1, hu2⟩ := hres
  have hpost : ∃ (u' : Value) (pl' : Plan), Ending.returned u = .returned u' ∧ (∀ i p, pl i = some p → pl' i = some p) ∧ (∀ i, L1.length ≤ i → pl' i = none) ∧ Kept w W (tab (L0.map some)) pl ∧
    (∀ b, Hot (tab L1) pl' b → w.heap.size ≤ b ∨ Hot (tab (L0.map some)) pl b) ∧ EOk W (fun b => F b ∨ w.heap.size ≤ b) (tab L1) pl' ∧ Rep W (Qf (fun b => F b ∨ w.heap.size ≤ b) (tab L1) pl') pl' r u' :=
    ⟨u, _, rfl, S2.plan, (fun i hi => by simp; omega), S2.keep, S2.mine, S2.eok, hu2⟩
  cases e with
  | normal => exact ⟨S'.defers, u, hu1, hpost⟩
  | ret => exact ⟨S'.defers, u, hu1, hpost⟩
  | exit id => exact h1.elim
theorem VG_ofX {f : FuncId} {fn : Func} {c : Code} {xs : List V} {L0 : List Ent} {r : V} {L1 : List (Option Ent)} {X : VExit → Nat → Slots → Env → Prop} (hm : P.follows .mixedOrders = true) (hfn : P.funcs[f]? = some fn) (hb : fn.body = some c) (hname : (fn.name == "runtime.NumGoroutine") = false)
    (hc : codeOk (xs.length + (fn.ntmps - xs.length)) c = true) (hlen : L0.length ≤ L1.length) (hnew : ((L1.drop L0.length).all fun | some e => e.hot | none => true) = true)
    (hX : ∀ e n s E, X e n s E → (match e with | .exit _ => False | _ => True) ∧ ((∃ ρ, WeakR ρ L0.length s E L1.length (fun _ => none) (tab L1) ∧ ∃ l, ResG P s E ρ L1 fn.results.toList l ∧ ResOf l r) ∨
      ∃ n1 s1 E1, Weak L0.length s E n1 s1 E1 ∧ ∃ ρ, WeakR ρ L0.length s1 E1 L1.length (fun _ => none) (tab L1) ∧ ∃ l, ResG P s1 E1 ρ L1 fn.results.toList l ∧ ResOf l r))
    (hbody : VCode P L0.length c L0.length (fun t => xs[t]?) (tab (L0.map some)) X) : VG P f xs L0 r L1 :=
  VG_ofY hm hfn hb hname hc hlen hnew hX (.inl ⟨rfl, rfl, rfl⟩) hbody
theorem VG_of {f : FuncId} {fn : Func} {c : Code} {xs : List V} {L0 : List Ent} {r : V} {L1 : List (Option Ent)} (hm : P.follows .mixedOrders = true) (hfn : P.funcs[f]? = some fn) (hb : fn.body = some c) (hname : (fn.name == "runtime.NumGoroutine") = false)
    (hc : codeOk (xs.length + (fn.ntmps - xs.length)) c = true) (hlen : L0.length ≤ L1.length) (hnew : ((L1.drop L0.length).all fun | some e => e.hot | none => true) = true)
    (hbody : VCode P L0.length c L0.length (fun t => xs[t]?) (tab (L0.map some)) fun e n s E => (match e with | .exit _ => False | _ => True) ∧ ∃ ρ, WeakR ρ L0.length s E L1.length (fun _ => none) (tab L1) ∧ ∃ l, ResG P s E ρ L1 fn.results.toList l ∧ ResOf l r) : VG P f xs L0 r L1 :=
  VG_ofX hm hfn hb hname hc hlen hnew (fun e n s E h => ⟨h.1, .inl h.2⟩) hbody
end
end Go.VL

/- A small program logic over the translated Go code, further part: calls that are lent entries, in the form in which proofs take them. -/
set_option linter.unusedVariables false
set_option linter.unusedSimpArgs false
namespace Go.VL
open Go.RowKit

def rho (l : List Nat) : Nat → Nat := fun i => l.getD i 0
def AllO (p : Nat → Ent → Prop) : Nat → List (Option Ent) → Prop
  | _, [] => True
  | j, some e :: r => p j e ∧ AllO p (j + 1) r
  | j, none :: r => AllO p (j + 1) r
def AllT (p : Nat → Ent → Prop) : Nat → List Ent → Prop
  | _, [] => True
  | j, e :: r => p j e ∧ AllT p (j + 1) r
theorem AllO.get {p : Nat → Ent → Prop} : ∀ {L : List (Option Ent)} {k : Nat}, AllO p k L → ∀ j e, L[j]? = some (some e) → p (k + j) e
  | [], k, _, j, e, h => by simp at h
  | some x :: r, k, h, j, e, hj => by
    cases j with
    | zero => simp at hj; subst hj; exact h.1
    | succ j => have := AllO.get h.2 j e (by simpa using hj); rwa [show k + 1 + j = k + (j + 1) by omega] at this
  | none :: r, k, h, j, e, hj => by
    cases j with
    | zero => simp at hj
    | succ j => have := AllO.get (show AllO p (k + 1) r from h) j e (by simpa using hj); rwa [show k + 1 + j = k + (j + 1) by omega] at this
theorem AllT.get {p : Nat → Ent → Prop} : ∀ {L : List Ent} {k : Nat}, AllT p k L → ∀ j e, L[j]? = some e → p (k + j) e
  | [], k, _, j, e, h => by simp at h
  | x :: r, k, h, j, e, hj => by
    cases j with
    | zero => simp at hj; subst hj; exact h.1
    | succ j => have := AllT.get h.2 j e (by simpa using hj); rwa [show k + 1 + j = k + (j + 1) by omega] at this

section
variable {P : Program} {ops : Array Oper} {o : Oper} {r : List Oper} {n n' id : Nat} {s : Slots} {E E2 : Env} {Q : Nat → Slots → Env → Prop} {d : Nat} {v v' : V}

theorem VList.goV (h1 : runs ops s o.guard = some true) (hd : o.dst = some d) (h2 : CallG P n s E o.op v' n' E2) (hv : v' = v) (h3 : VList P ops r n' (setAt s d (some v)) E2 Q) : VList P ops (o :: r) n s E Q :=
  VList.goG h1 hd (hv ▸ h2) h3

theorem Lent.of {l nv : List Nat} {L0 : List Ent} (hk : L0.length = l.length) (hn : l.Nodup) (h : AllT (fun j e => E (rho l j) = some (e.ren (rho l)) ∧ nv.contains (rho l j) = false ∧ ∀ v ∈ e.cells, v.all1.all (fun i => decide (i < L0.length)) = true) 0 L0) : Lent E (rho l) nv L0 := by
  refine ⟨fun j e he => ?_, fun i j hi hj h => ?_⟩
  · have := h.get j e he
    rw [Nat.zero_add] at this
    exact ⟨this.1, this.2.1, fun v hv i hi => by simpa using List.all_eq_true.1 (this.2.2 v hv) i hi⟩
  · simp only [rho, List.getD_eq_getElem?_getD] at h
    rw [hk] at hi hj
    rw [List.getElem?_eq_getElem hi, List.getElem?_eq_getElem hj] at h
    exact (List.getElem_inj hn).1 h

theorem After.of {l nv : List Nat} {n : Nat} {L1 : List (Option Ent)} {k : Nat} {L2 : List (Nat × Ent)} (hk : l.length = k)
    (h : AllE (fun i e => (∃ j e0, L1[j]? = some (some e0) ∧ nm (rho l) k n j = i ∧ e = e0.ren (nm (rho l) k n)) ∨ (upds E (nv.map (cool E)) i = some e ∧ l.contains i = false)) L2) : After E (en L2) (rho l) k n nv L1 := fun i e he => by
  rcases h.get _ (lookup_mem he) with h | ⟨h1, h2⟩
  · exact .inl h
  · refine .inr ⟨h1, fun j hj e => ?_⟩
    simp only [rho, List.getD_eq_getElem?_getD] at e
    rw [List.getElem?_eq_getElem (by omega)] at e
    have : i ∈ l := by rw [← e]; exact List.getElem_mem _
    simp [this] at h2

theorem WeakR.fin {k : Nat} {L1 : List (Option Ent)} (l : List Nat) (hlen : L1.length = l.length) (hk : k ≤ L1.length) (hlow : (List.range k).all (fun i => rho l i == i) = true) (hn : l.Nodup)
    (h : AllO (fun j e => E (rho l j) = some (e.ren (rho l)) ∧ ∀ v ∈ e.cells, v.all1.all (fun i => decide (i < L1.length)) = true) 0 L1) : WeakR (rho l) k s E L1.length (fun _ => none) (tab L1) := by
  refine ⟨hk, fun i hi => by simpa using List.all_eq_true.1 hlow i (List.mem_range.2 hi), (fun t x h => by cases h), fun i e he => ?_, fun i j e e' hi hj h => ?_⟩
  · have he' := tab_some.1 he
    have := h.get i e he'
    rw [Nat.zero_add] at this
    exact ⟨this.1, (List.getElem?_eq_some_iff.1 he').1, fun v hv i hi => by simpa using List.all_eq_true.1 (this.2 v hv) i hi⟩
  · have hi' := (List.getElem?_eq_some_iff.1 (tab_some.1 hi)).1
    have hj' := (List.getElem?_eq_some_iff.1 (tab_some.1 hj)).1
    rw [hlen] at hi' hj'
    simp only [rho, List.getD_eq_getElem?_getD] at h
    rw [List.getElem?_eq_getElem hi', List.getElem?_eq_getElem hj'] at h
    exact (List.getElem_inj hn).1 h

def coolE (e : Ent) : Ent := { e with hot := false }
theorem VCode.scope {k : Nat} {b : Code} {X : VExit → Nat → Slots → Env → Prop} (h : VCode P k b n s E X) : VCode P k (.scope b) n s E X := h
theorem VCode.label {k l : Nat} {X : VExit → Nat → Slots → Env → Prop} (h : X .normal n s E) : VCode P k (.label l) n s E X := h
theorem Eff.appendNilS {y : Operand} {T el bytes : Nat} {w : V} {L : List Int} (hy : ev s y = some w) (hr : res E w = some (u32S L)) (hu : P.underlying T = some (.slice el)) (hs : szOf P el = some 1) (hb : (P.info? el).map (·.bytes) = some bytes)
    (hz : (zeroOf P el).map List.length = some 1) (hm : L.length * bytes ≤ 140737488355328 ∧ L.length ≤ maxLen) :
    Eff P id s E (.call { callee := .builtin .append, args := #[.const (.slice none 0 0), y], argTypes := #[T, T] }) (some (vS L)) [] :=
  .appendNilB _ _ _ _ _ _ _ rfl hy hr hu hs hb hz (by simpa using hm.1) (by simpa using hm.2) lits_all
theorem Eff.appendRow0 {x y : Operand} {T el i bytes : Nat} {w : V} {L : List Int} (hx : ev s x = some (.own i 0)) (he : E i = some (row [])) (hy : ev s y = some w) (hr : res E w = some (u32S L)) (hne : i ∉ w.names) (hu : P.underlying T = some (.slice el)) (hs : szOf P el = some 1)
    (hb : (P.info? el).map (·.bytes) = some bytes) (hz : zeroOf P el = some [u32B 0]) (hm : L.length * bytes ≤ 140737488355328 ∧ L.length ≤ maxLen) :
    Eff P id s E (.call { callee := .builtin .append, args := #[x, y], argTypes := #[T, T] }) (some (.own id L.length)) [(i, none), (id, some (row L))] := by
  have := Eff.append (P := P) (id := id) x y T el i 0 (row []) w (L.map u32B) bytes hx he rfl rfl rfl hy hr hne hu hs hb (by rw [hz]; rfl) (by simpa using hm.1) (by simpa using hm.2) lits_all
  rw [List.length_map, Nat.zero_add] at this
  have e : (⟨1, (row []).cells ++ (L.map u32B).map .b, true⟩ : Ent) = row L := by simp only [row, List.map_map]; rfl
  rw [e] at this
  exact this
theorem resV_cellS {t i off m : Nat} {T : TypeId} {e : Ent} (hs : s t = some (.ptr i off)) (he : E i = some e) (ha : aggOf P T = some true) (hn : szOf P T = some m) (hl : off + m ≤ e.cells.length) : resV P s E (.cell t T) = some (.agg ((e.cells.drop off).take m)) := by
  simp only [resV, hs, he, ha, hn, if_pos hl]
theorem resV_cell1 {t i off : Nat} {T : TypeId} {e : Ent} {x : V} (hs : s t = some (.ptr i off)) (he : E i = some e) (ha : aggOf P T = some false) (hx : e.cells[off]? = some x) : resV P s E (.cell t T) = some x := by
  simp only [resV, hs, he, ha, hx]
/-- What is asked at the end of a function that is lent entries. -/
def PostG (P : Program) (fn : Func) (k : Nat) (r : V) (L1 : List (Option Ent)) : VExit → Nat → Slots → Env → Prop := fun e n s E => (match e with | .exit _ => False | _ => True) ∧
  ∃ ρ, WeakR ρ k s E L1.length (fun _ => none) (tab L1) ∧ ∃ l, ResG P s E ρ L1 fn.results.toList l ∧ ResOf l r
theorem postG {fn : Func} {k : Nat} {r r' : V} {L1 L1' : List (Option Ent)} {e : VExit} {ρ : Nat → Nat} {l : List V} (he : match e with | .exit _ => False | _ => True) (hw : WeakR ρ k s E L1'.length (fun _ => none) (tab L1')) (hg : ResG P s E ρ L1' fn.results.toList l) (ho : ResOf l r') (hr : r' = r) (hL : L1' = L1) :
    PostG P fn k r L1 e n s E := by
  subst hr; subst hL
  exact ⟨he, ρ, hw, l, hg, ho⟩
theorem VGp_of {f : FuncId} {fn : Func} {c : Code} {xs : List V} {L0 : List Ent} {r : V} {L1 : List (Option Ent)} (hm : P.follows .mixedOrders = true) (hfn : P.funcs[f]? = some fn) (hb : fn.body = some c) (hname : (fn.name == "runtime.NumGoroutine") = false)
    (hc : codeOk (xs.length + (fn.ntmps - xs.length)) c = true) (hlen : L0.length ≤ L1.length) (hnew : ((L1.drop L0.length).all fun | some e => e.hot | none => true) = true)
    (hbody : VCode P L0.length c L0.length (fun t => xs[t]?) (tab (L0.map some)) (PostG P fn L0.length r L1)) : VG P f xs L0 r L1 := VG_of hm hfn hb hname hc hlen hnew hbody

/-- A function that only reads is one that is lent nothing. -/
theorem VG.ofVF {f : FuncId} {args : List B} {r : B} (h : VF P f args r) : VG P f (args.map .b) [] (.b r) [] := by
  refine ⟨h.1, Nat.le_refl _, fun j e _ he => by simp at he, fun w F pl us hsz hE hpl hargs => ?_⟩
  have nohot : ∀ (pl : Plan) b, ¬ Hot (tab []) pl b := fun pl b hb => by
    obtain ⟨i, e, c, h1, _⟩ := hb
    simp [tab] at h1
  refine Calls.mono (h.2 w (Qf F (tab []) pl) us (by simpa using hsz) (fun j x hj => ?_)) ?_
  · obtain ⟨u, hu, hr⟩ := hargs j (.b x) (by rw [List.getElem?_map, hj]; rfl)
    exact ⟨u, hu, hr⟩
  · rintro e w' ⟨u, rfl, hr, hs⟩
    refine ⟨u, pl, rfl, fun _ _ h => h, hpl, ⟨hs.os, hs.tape, hs.output, hs.size, fun k hk _ => hs.block k hk⟩, fun b hb => (nohot pl b hb).elim, ⟨fun i e he => by simp [tab] at he, fun i j e e' g c c' hi => by simp [tab] at hi⟩, ?_⟩
    refine (show RepB w' _ r u from hr).move (fun _ _ _ => rfl) (fun k hk _ => ⟨?_, nohot pl k⟩)
    rcases hk with h | h
    · exact .inl h.1
    · exact .inr h
end
end Go.VL

/- A small program logic over the translated Go code, further part: its steps in a short form. -/
set_option linter.unusedVariables false
set_option linter.unusedSimpArgs false
namespace Go.VL
open Go.RowKit

/-- Arithmetic, in short. -/
theorem adI {x y : Int} (h : -9223372036854775808 ≤ x + y ∧ x + y ≤ 9223372036854775807 := by first | omega | (simp; done) | (simp; omega)) : bop .add (.int .i64 x) (.int .i64 y) = some (.int .i64 (x + y)) := bop_add_i64 h
theorem suI {x y : Int} (h : -9223372036854775808 ≤ x - y ∧ x - y ≤ 9223372036854775807 := by first | omega | (simp; done) | (simp; omega)) : bop .sub (.int .i64 x) (.int .i64 y) = some (.int .i64 (x - y)) := bop_sub_i64 h
theorem muI {x y : Int} (h : -9223372036854775808 ≤ x * y ∧ x * y ≤ 9223372036854775807 := by first | omega | (simp; done) | (simp; omega)) : bop .mul (.int .i64 x) (.int .i64 y) = some (.int .i64 (x * y)) := bop_mul_i64 h
theorem quI {x y : Int} (h0 : 0 ≤ x := by first | omega | (simp; done) | (simp; omega)) (h1 : 0 < y := by first | omega | (simp; done) | (simp; omega)) (h2 : x ≤ 9223372036854775807 := by first | omega | (simp; done) | (simp; omega)) : bop .quo (.int .i64 x) (.int .i64 y) = some (.int .i64 (x / y)) := bop_quo_i64 h0 h1 h2
theorem reI {x y : Int} (h0 : 0 ≤ x := by first | omega | (simp; done) | (simp; omega)) (h1 : 0 < y := by first | omega | (simp; done) | (simp; omega)) : bop .rem (.int .i64 x) (.int .i64 y) = some (.int .i64 (x % y)) := bop_rem_i64 h0 h1
theorem shI {x y : Int} {k' : IntKind} (h0 : 0 ≤ y := by first | omega | (simp; done) | (simp; omega)) (h1 : y ≤ 64 := by first | omega | (simp; done) | (simp; omega)) : bop .shr (.int .i64 x) (.int k' y) = some (.int .i64 (x / 2 ^ y.toNat)) := bop_shr_i64 h0 h1
theorem srI (q : Int) {x y : Int} {k' : IntKind} (h0 : 0 ≤ y := by decide) (h1 : y ≤ 64 := by decide) (hq : (2 : Int) ^ y.toNat = q := by decide) : bop .shr (.int .i64 x) (.int k' y) = some (.int .i64 (x / q)) := by subst hq; exact bop_shr_i64 h0 h1
theorem nvI {x : Int} (h : -9223372036854775808 ≤ (0 - x) ∧ (0 - x) ≤ 9223372036854775807 := by first | omega | (simp; done) | (simp; omega)) : uop .neg (.int .i64 x) = some (.int .i64 (-x)) := uop_neg_i64 h
theorem wrI {x : Int} (h : -9223372036854775808 ≤ x ∧ x ≤ 9223372036854775807 := by first | omega | (simp; done) | (simp; omega)) : IntKind.wrap .i64 x = x := wrap_i64 h
theorem adW {x y : Int} (h : 0 ≤ x + y ∧ x + y < 18446744073709551616 := by first | omega | (simp; done) | (simp; omega)) : bop .add (.int .u64 x) (.int .u64 y) = some (.int .u64 (x + y)) := bop_add_u64 h
theorem suW {x y : Int} (h : 0 ≤ x - y ∧ x - y < 18446744073709551616 := by first | omega | (simp; done) | (simp; omega)) : bop .sub (.int .u64 x) (.int .u64 y) = some (.int .u64 (x - y)) := bop_sub_u64 h
theorem muW {x y : Int} (h : 0 ≤ x * y ∧ x * y < 18446744073709551616 := by first | omega | (simp; done) | (simp; omega)) : bop .mul (.int .u64 x) (.int .u64 y) = some (.int .u64 (x * y)) := bop_mul_u64 h
theorem quW {x y : Int} (h0 : 0 ≤ x := by first | omega | (simp; done) | (simp; omega)) (h1 : 0 < y := by first | omega | (simp; done) | (simp; omega)) (h2 : x < 18446744073709551616 := by first | omega | (simp; done) | (simp; omega)) : bop .quo (.int .u64 x) (.int .u64 y) = some (.int .u64 (x / y)) := bop_quo_u64 h0 h1 h2
theorem reW {x y : Int} (h0 : 0 ≤ x := by first | omega | (simp; done) | (simp; omega)) (h1 : 0 < y := by first | omega | (simp; done) | (simp; omega)) : bop .rem (.int .u64 x) (.int .u64 y) = some (.int .u64 (x % y)) := bop_rem_u64 h0 h1
theorem shW {x y : Int} {k' : IntKind} (h0 : 0 ≤ y := by first | omega | (simp; done) | (simp; omega)) (h1 : y ≤ 64 := by first | omega | (simp; done) | (simp; omega)) : bop .shr (.int .u64 x) (.int k' y) = some (.int .u64 (x / 2 ^ y.toNat)) := bop_shr_u64 h0 h1
theorem srW (q : Int) {x y : Int} {k' : IntKind} (h0 : 0 ≤ y := by decide) (h1 : y ≤ 64 := by decide) (hq : (2 : Int) ^ y.toNat = q := by decide) : bop .shr (.int .u64 x) (.int k' y) = some (.int .u64 (x / q)) := by subst hq; exact bop_shr_u64 h0 h1
theorem nvW {x : Int} (h : 0 ≤ (0 - x) ∧ (0 - x) < 18446744073709551616 := by first | omega | (simp; done) | (simp; omega)) : uop .neg (.int .u64 x) = some (.int .u64 (-x)) := uop_neg_u64 h
theorem wrW {x : Int} (h : 0 ≤ x ∧ x < 18446744073709551616 := by first | omega | (simp; done) | (simp; omega)) : IntKind.wrap .u64 x = x := wrap_u64 h
theorem adD {x y : Int} (h : 0 ≤ x + y ∧ x + y < 4294967296 := by first | omega | (simp; done) | (simp; omega)) : bop .add (.int .u32 x) (.int .u32 y) = some (.int .u32 (x + y)) := bop_add_u32 h
theorem suD {x y : Int} (h : 0 ≤ x - y ∧ x - y < 4294967296 := by first | omega | (simp; done) | (simp; omega)) : bop .sub (.int .u32 x) (.int .u32 y) = some (.int .u32 (x - y)) := bop_sub_u32 h
theorem muD {x y : Int} (h : 0 ≤ x * y ∧ x * y < 4294967296 := by first | omega | (simp; done) | (simp; omega)) : bop .mul (.int .u32 x) (.int .u32 y) = some (.int .u32 (x * y)) := bop_mul_u32 h
theorem quD {x y : Int} (h0 : 0 ≤ x := by first | omega | (simp; done) | (simp; omega)) (h1 : 0 < y := by first | omega | (simp; done) | (simp; omega)) (h2 : x < 4294967296 := by first | omega | (simp; done) | (simp; omega)) : bop .quo (.int .u32 x) (.int .u32 y) = some (.int .u32 (x / y)) := bop_quo_u32 h0 h1 h2
theorem reD {x y : Int} (h0 : 0 ≤ x := by first | omega | (simp; done) | (simp; omega)) (h1 : 0 < y := by first | omega | (simp; done) | (simp; omega)) : bop .rem (.int .u32 x) (.int .u32 y) = some (.int .u32 (x % y)) := bop_rem_u32 h0 h1
theorem shD {x y : Int} {k' : IntKind} (h0 : 0 ≤ y := by first | omega | (simp; done) | (simp; omega)) (h1 : y ≤ 32 := by first | omega | (simp; done) | (simp; omega)) : bop .shr (.int .u32 x) (.int k' y) = some (.int .u32 (x / 2 ^ y.toNat)) := bop_shr_u32 h0 h1
theorem srD (q : Int) {x y : Int} {k' : IntKind} (h0 : 0 ≤ y := by decide) (h1 : y ≤ 32 := by decide) (hq : (2 : Int) ^ y.toNat = q := by decide) : bop .shr (.int .u32 x) (.int k' y) = some (.int .u32 (x / q)) := by subst hq; exact bop_shr_u32 h0 h1
theorem nvD {x : Int} (h : 0 ≤ (0 - x) ∧ (0 - x) < 4294967296 := by first | omega | (simp; done) | (simp; omega)) : uop .neg (.int .u32 x) = some (.int .u32 (-x)) := uop_neg_u32 h
theorem wrD {x : Int} (h : 0 ≤ x ∧ x < 4294967296 := by first | omega | (simp; done) | (simp; omega)) : IntKind.wrap .u32 x = x := wrap_u32 h
theorem adB {x y : Int} (h : 0 ≤ x + y ∧ x + y < 256 := by first | omega | (simp; done) | (simp; omega)) : bop .add (.int .u8 x) (.int .u8 y) = some (.int .u8 (x + y)) := bop_add_u8 h
theorem suB {x y : Int} (h : 0 ≤ x - y ∧ x - y < 256 := by first | omega | (simp; done) | (simp; omega)) : bop .sub (.int .u8 x) (.int .u8 y) = some (.int .u8 (x - y)) := bop_sub_u8 h
theorem muB {x y : Int} (h : 0 ≤ x * y ∧ x * y < 256 := by first | omega | (simp; done) | (simp; omega)) : bop .mul (.int .u8 x) (.int .u8 y) = some (.int .u8 (x * y)) := bop_mul_u8 h
theorem quB {x y : Int} (h0 : 0 ≤ x := by first | omega | (simp; done) | (simp; omega)) (h1 : 0 < y := by first | omega | (simp; done) | (simp; omega)) (h2 : x < 256 := by first | omega | (simp; done) | (simp; omega)) : bop .quo (.int .u8 x) (.int .u8 y) = some (.int .u8 (x / y)) := bop_quo_u8 h0 h1 h2
theorem reB {x y : Int} (h0 : 0 ≤ x := by first | omega | (simp; done) | (simp; omega)) (h1 : 0 < y := by first | omega | (simp; done) | (simp; omega)) : bop .rem (.int .u8 x) (.int .u8 y) = some (.int .u8 (x % y)) := bop_rem_u8 h0 h1
theorem shB {x y : Int} {k' : IntKind} (h0 : 0 ≤ y := by first | omega | (simp; done) | (simp; omega)) (h1 : y ≤ 8 := by first | omega | (simp; done) | (simp; omega)) : bop .shr (.int .u8 x) (.int k' y) = some (.int .u8 (x / 2 ^ y.toNat)) := bop_shr_u8 h0 h1
theorem srB (q : Int) {x y : Int} {k' : IntKind} (h0 : 0 ≤ y := by decide) (h1 : y ≤ 8 := by decide) (hq : (2 : Int) ^ y.toNat = q := by decide) : bop .shr (.int .u8 x) (.int k' y) = some (.int .u8 (x / q)) := by subst hq; exact bop_shr_u8 h0 h1
theorem nvB {x : Int} (h : 0 ≤ (0 - x) ∧ (0 - x) < 256 := by first | omega | (simp; done) | (simp; omega)) : uop .neg (.int .u8 x) = some (.int .u8 (-x)) := uop_neg_u8 h
theorem wrB {x : Int} (h : 0 ≤ x ∧ x < 256 := by first | omega | (simp; done) | (simp; omega)) : IntKind.wrap .u8 x = x := wrap_u8 h
theorem apw {a : Nat} (h : 0 + a ≤ 1000000000000) : a * 4 ≤ 140737488355328 ∧ a ≤ maxLen := by simp only [maxLen]; omega
/-- One operation that is carried out. -/
def Stp (P : Program) (ops : Array Oper) (o : Oper) (n : Nat) (s : Slots) (E : Env) (n' : Nat) (s' : Slots) (E' : Env) (ids : List Nat) : Prop :=
  runs ops s o.guard = some true ∧ ∃ v us, Eff P n s E o.op v us ∧ us.map (·.1) = ids ∧ n' = n + 1 ∧ s' = putv s o.dst (some (v.getD undefV)) ∧ E' = upds E us

section
variable {P : Program} {ops : Array Oper} {o : Oper} {r : List Oper} {n n' id : Nat} {s s' : Slots} {E E' : Env} {Q : Nat → Slots → Env → Prop} {d i : Nat} {v w u : V} {ids : List Nat}
variable {log : List (List Nat × List Nat)} {R : List (List Nat × List Nat) → Nat → Slots → Env → Prop}
theorem Vs (h : Stp P ops o n s E n' s' E' ids) (k : VList P ops r n' s' E' Q) : VList P ops (o :: r) n s E Q := by
  obtain ⟨h1, v, us, h2, h3, rfl, rfl, rfl⟩ := h
  exact .inl ⟨h1, v, us, h2, k⟩
theorem Vl (h : Stp P ops o n s E n' s' E' ids) (k : VLog P ops r n' s' E' (log ++ [(looks s o.op, ids)]) R) : VLog P ops (o :: r) n s E log R := by
  obtain ⟨h1, v, us, h2, rfl, rfl, rfl, rfl⟩ := h
  exact .inl ⟨h1, v, us, _, .inl ⟨h2, rfl⟩, k⟩
theorem Sk (h : (runs ops s o.guard, o.dst) = (some false, some d)) (k : VList P ops r (n + 1) (setAt s d (some undefV)) E Q) : VList P ops (o :: r) n s E Q := by
  injection h with h1 hd
  exact VList.skip h1 hd rfl k
theorem Lk (h : (runs ops s o.guard, o.dst) = (some false, some d)) (k : VLog P ops r (n + 1) (setAt s d (some undefV)) E (log ++ [([], [])]) R) : VLog P ops (o :: r) n s E log R := by
  injection h with h1 hd
  exact VLog.skip h1 hd rfl k
theorem st0 (a : runs ops s o.guard = some true) (b : o.dst = some d) (c : Eff P n s E o.op (some v) []) : Stp P ops o n s E (n + 1) (setAt s d (some v)) E [] :=
  ⟨a, _, _, c, rfl, rfl, by rw [b]; rfl, rfl⟩
theorem st1 {e : Option Ent} (a : runs ops s o.guard = some true) (b : o.dst = some d) (c : Eff P n s E o.op (some v) [(i, e)]) : Stp P ops o n s E (n + 1) (setAt s d (some v)) (setAt E i e) [i] :=
  ⟨a, _, _, c, rfl, rfl, by rw [b]; rfl, rfl⟩
theorem st2 {j : Nat} {e e' : Option Ent} (a : runs ops s o.guard = some true) (b : o.dst = some d) (c : Eff P n s E o.op (some v) [(i, e), (j, e')]) : Stp P ops o n s E (n + 1) (setAt s d (some v)) (setAt (setAt E i e) j e') [i, j] :=
  ⟨a, _, _, c, rfl, rfl, by rw [b]; rfl, rfl⟩
theorem stN {us : List (Nat × Option Ent)} (a : runs ops s o.guard = some true) (b : o.dst = some d) (c : Eff P n s E o.op (some v) us) : Stp P ops o n s E (n + 1) (setAt s d (some v)) (upds E us) (us.map (·.1)) :=
  ⟨a, _, _, c, rfl, rfl, by rw [b]; rfl, rfl⟩
theorem stS {e : Option Ent} (a : runs ops s o.guard = some true) (b : o.dst = none) (c : Eff P n s E o.op none [(i, e)]) : Stp P ops o n s E (n + 1) s (setAt E i e) [i] :=
  ⟨a, _, _, c, rfl, rfl, by rw [b]; rfl, rfl⟩

variable {x y z p ix : Operand} {T T' T2 el m off k fo sz : Nat} {ik ik' : IntKind} {t : Bool} {e : Ent} {a b c : Value} {l cs : List V} {L D : List Int} {j q : Int} {A B' : List Int}
theorem Mv (h : (runs ops s o.guard, o.dst, o.op, ev s x) = (some true, some d, .move x, some v)) : Stp P ops o n s E (n + 1) (setAt s d (some v)) E [] := by
  simp only [Prod.mk.injEq] at h; exact st0 h.1 h.2.1 (h.2.2.1 ▸ .move _ _ h.2.2.2)
theorem As (h : (runs ops s o.guard, o.dst, o.op, ev s x) = (some true, some d, .assign x, some v)) : Stp P ops o n s E (n + 1) (setAt s d (some v)) E [] := by
  simp only [Prod.mk.injEq] at h; exact st0 h.1 h.2.1 (h.2.2.1 ▸ .assign _ _ h.2.2.2)
theorem An (h : (runs ops s o.guard, o.dst, o.op) = (some true, some d, .assign (.const (.slice none 0 0)))) : Stp P ops o n s E (n + 1) (setAt s d (some (.b .nil))) E [] := by
  simp only [Prod.mk.injEq] at h; exact st0 h.1 h.2.1 (h.2.2 ▸ .assignNil)
theorem Pk {c a b : Operand} (h : (runs ops s o.guard, o.dst, o.op, ev s c, ev s (if t then a else b)) = (some true, some d, .pick c a b, some (vB t), some v)) : Stp P ops o n s E (n + 1) (setAt s d (some v)) E [] := by
  simp only [Prod.mk.injEq] at h; exact st0 h.1 h.2.1 (h.2.2.1 ▸ .pick _ _ _ _ _ h.2.2.2.1 h.2.2.2.2)
theorem Al (q : Nat) {c : B} {l : List B} (hz : zeroOf P T = some (c :: l)) (h : (runs ops s o.guard, o.dst, o.op, n) = (some true, some d, .alloc T, q)) : Stp P ops o n s E (q + 1) (setAt s d (some (.ptr q 0))) (setAt E q (some ⟨(c :: l).length, (c :: l).map .b, true⟩)) [q] := by
  simp only [Prod.mk.injEq] at h; obtain ⟨h1, h2, h3, rfl⟩ := h; exact st1 h1 h2 (h3 ▸ .alloc _ _ hz (List.cons_ne_nil _ _))
theorem Bx (q : Nat) {c : V} (h : (runs ops s o.guard, o.dst, o.op, ev s x, n, v.cells, v.noTup) = (some true, some d, .box T x, some v, q, c :: cs, true)) : Stp P ops o n s E (q + 1) (setAt s d (some (.ptr q 0))) (setAt E q (some ⟨(c :: cs).length, c :: cs, true⟩)) [q] := by
  simp only [Prod.mk.injEq] at h; obtain ⟨h1, h2, h3, h4, rfl, h5, h6⟩ := h
  have := Eff.box (P := P) (id := n) (E := E) T x v h4 (by rw [h5]; exact List.cons_ne_nil _ _) h6
  rw [h5] at this
  exact st1 h1 h2 (h3 ▸ this)
theorem Ld (ha : aggOf P T = some false) (h : (runs ops s o.guard, o.dst, o.op, ev s p, E i, e.cells[off]?) = (some true, some d, .load T p, some (.ptr i off), some e, some v)) : Stp P ops o n s E (n + 1) (setAt s d (some v)) E [] := by
  simp only [Prod.mk.injEq] at h; exact st0 h.1 h.2.1 (h.2.2.1 ▸ .load1 _ _ _ _ _ _ h.2.2.2.1 h.2.2.2.2.1 ha h.2.2.2.2.2)
theorem LdS (ha : aggOf P T = some true) (hs : szOf P T = some m) (h : (runs ops s o.guard, o.dst, o.op, ev s p, E i, Nat.ble (off + m) e.cells.length, (e.cells.drop off).take m) = (some true, some d, .load T p, some (.ptr i off), some e, true, l)) : Stp P ops o n s E (n + 1) (setAt s d (some (.agg l))) E [] := by
  simp only [Prod.mk.injEq] at h; obtain ⟨h1, h2, h3, h4, h5, h6, rfl⟩ := h; exact st0 h1 h2 (h3 ▸ .loadS _ _ _ _ _ _ h4 h5 ha hs (Nat.le_of_ble_eq_true h6))
theorem Lq {l : List B} {x : B} (ha : aggOf P T = some false) (h : (runs ops s o.guard, o.dst, o.op, ev s p, l[0]?) = (some true, some d, .load T p, some (.rd l), some x)) : Stp P ops o n s E (n + 1) (setAt s d (some (.b x))) E [] := by
  simp only [Prod.mk.injEq] at h; exact st0 h.1 h.2.1 (h.2.2.1 ▸ .loadRd1 _ _ _ _ h.2.2.2.1 ha h.2.2.2.2)
theorem LqS {l l' : List B} (ha : aggOf P T = some true) (hs : szOf P T = some m) (h : (runs ops s o.guard, o.dst, o.op, ev s p, Nat.ble m l.length, l.take m) = (some true, some d, .load T p, some (.rd l), true, l')) : Stp P ops o n s E (n + 1) (setAt s d (some (.b (.agg l')))) E [] := by
  simp only [Prod.mk.injEq] at h; obtain ⟨h1, h2, h3, h4, h5, rfl⟩ := h; exact st0 h1 h2 (h3 ▸ .loadRdS _ _ _ _ h4 ha hs (Nat.le_of_ble_eq_true h5))
theorem Lr (ha : aggOf P T = some false) (h : (runs ops s o.guard, o.dst, o.op, ev s p, E i) = (some true, some d, .load T p, some (.ptr i off), some (row L))) (h1 : off < L.length := by first | omega | (simp; done) | (simp; omega)) : Stp P ops o n s E (n + 1) (setAt s d (some (vI .u32 (L.getD off 0)))) E [] := by
  simp only [Prod.mk.injEq] at h; exact st0 h.1 h.2.1 (h.2.2.1 ▸ Eff.load32 h.2.2.2.1 h.2.2.2.2 ha h1)
theorem LrK (ha : aggOf P T = some false) (h : (runs ops s o.guard, o.dst, o.op, ev s p, E i) = (some true, some d, .load T p, some (.ptr i off), some (rowK ik L))) (h1 : off < L.length := by first | omega | (simp; done) | (simp; omega)) : Stp P ops o n s E (n + 1) (setAt s d (some (vI ik (L.getD off 0)))) E [] := by
  simp only [Prod.mk.injEq] at h; exact st0 h.1 h.2.1 (h.2.2.1 ▸ Eff.loadK h.2.2.2.1 h.2.2.2.2 ha h1)
theorem St (hn : szOf P T = some 1) (h : (runs ops s o.guard, o.dst, o.op, ev s p, E i, e.hot, ev s x, v.cells, Nat.ble (off + 1) e.cells.length, v.noTup) = (some true, none, .store T p x, some (.ptr i off), some e, true, some v, [v], true, true)) :
    Stp P ops o n s E (n + 1) s (setAt E i (some { e with cells := e.cells.set off v })) [i] := by
  simp only [Prod.mk.injEq] at h; obtain ⟨h1, h2, h3, h4, h5, h6, h7, h8, h9, h10⟩ := h; exact stS h1 h2 (h3 ▸ .store1 _ _ _ _ _ _ _ h4 h5 h6 h7 h8 hn (Nat.le_of_ble_eq_true h9) h10)
theorem StS (hn : szOf P T = some m) (h : (runs ops s o.guard, o.dst, o.op, ev s p, E i, e.hot, ev s x, v.cells.length, Nat.ble (off + m) e.cells.length, v.noTup, e.cells.take off ++ (v.cells ++ e.cells.drop (off + m))) = (some true, none, .store T p x, some (.ptr i off), some e, true, some v, m, true, true, l)) :
    Stp P ops o n s E (n + 1) s (setAt E i (some { e with cells := l })) [i] := by
  simp only [Prod.mk.injEq] at h; obtain ⟨h1, h2, h3, h4, h5, h6, h7, rfl, h9, h10, rfl⟩ := h; exact stS h1 h2 (h3 ▸ .store _ _ _ _ _ _ _ h4 h5 h6 h7 hn (Nat.le_of_ble_eq_true h9) h10)
theorem Sr (hn : szOf P T = some 1) (h : (runs ops s o.guard, o.dst, o.op, ev s p, E i, ev s x) = (some true, none, .store T p x, some (.ptr i off), some (row L), some (vI .u32 j))) (h1 : off < L.length := by first | omega | (simp; done) | (simp; omega)) :
    Stp P ops o n s E (n + 1) s (setAt E i (some (row (L.set off j)))) [i] := by
  simp only [Prod.mk.injEq] at h; exact stS h.1 h.2.1 (h.2.2.1 ▸ Eff.store32 h.2.2.2.1 h.2.2.2.2.1 h.2.2.2.2.2 hn h1)
theorem SrK (hn : szOf P T = some 1) (h : (runs ops s o.guard, o.dst, o.op, ev s p, E i, ev s x) = (some true, none, .store T p x, some (.ptr i off), some (rowK ik L), some (vI ik j))) (h1 : off < L.length := by first | omega | (simp; done) | (simp; omega)) :
    Stp P ops o n s E (n + 1) s (setAt E i (some (rowK ik (L.set off j)))) [i] := by
  simp only [Prod.mk.injEq] at h; exact stS h.1 h.2.1 (h.2.2.1 ▸ Eff.storeK h.2.2.2.1 h.2.2.2.2.1 h.2.2.2.2.2 hn h1)
theorem Bi {op : BinOp} (h : (runs ops s o.guard, o.dst, o.op, ev s x, ev s y, bop op a b) = (some true, some d, .binOp op T x y T', some (.b (.lit a)), some (.b (.lit b)), some c)) : Stp P ops o n s E (n + 1) (setAt s d (some (.b (.lit c)))) E [] := by
  simp only [Prod.mk.injEq] at h; exact st0 h.1 h.2.1 (h.2.2.1 ▸ .bin _ _ _ _ _ _ _ _ h.2.2.2.1 h.2.2.2.2.1 h.2.2.2.2.2)
theorem Bo {op : BinOp} (h : (runs ops s o.guard, o.dst, o.op, ev s x, ev s y) = (some true, some d, .binOp op T x y T', some (.b (.lit a)), some (.b (.lit b)))) (hb : bop op a b = some c) : Stp P ops o n s E (n + 1) (setAt s d (some (.b (.lit c)))) E [] := by
  simp only [Prod.mk.injEq] at h; exact st0 h.1 h.2.1 (h.2.2.1 ▸ .bin _ _ _ _ _ _ _ _ h.2.2.2.1 h.2.2.2.2 hb)
theorem Bb {op : BinOp} (hu : P.underlying T = some .bool) (h : (runs ops s o.guard, o.dst, o.op, ev s x, ev s y, bopBool op a b) = (some true, some d, .binOp op T x y T', some (.b (.lit a)), some (.b (.lit b)), some c)) : Stp P ops o n s E (n + 1) (setAt s d (some (.b (.lit c)))) E [] := by
  simp only [Prod.mk.injEq] at h; exact st0 h.1 h.2.1 (h.2.2.1 ▸ .binB _ _ _ _ _ _ _ _ h.2.2.2.1 h.2.2.2.2.1 hu h.2.2.2.2.2)
theorem Ni (hu : P.underlying T = some (.slice el)) (h : (runs ops s o.guard, o.dst, o.op, ev s x, v.isNil) = (some true, some d, .binOp .eql T x (.const (.slice none 0 0)) T', some v, some t)) : Stp P ops o n s E (n + 1) (setAt s d (some (vB t))) E [] := by
  simp only [Prod.mk.injEq] at h; exact st0 h.1 h.2.1 (h.2.2.1 ▸ .isNil _ _ _ _ _ _ _ h.2.2.2.1 rfl hu h.2.2.2.2)
theorem Nn (hu : P.underlying T = some (.slice el)) (h : (runs ops s o.guard, o.dst, o.op, ev s x, v.isNil) = (some true, some d, .binOp .neq T x (.const (.slice none 0 0)) T', some v, some t)) : Stp P ops o n s E (n + 1) (setAt s d (some (vB (!t)))) E [] := by
  simp only [Prod.mk.injEq] at h; exact st0 h.1 h.2.1 (h.2.2.1 ▸ .notNil _ _ _ _ _ _ _ h.2.2.2.1 rfl hu h.2.2.2.2)
theorem Un {op : UnOp} (h : (runs ops s o.guard, o.dst, o.op, ev s x, uop op a) = (some true, some d, .unOp op T x, some (.b (.lit a)), some c)) : Stp P ops o n s E (n + 1) (setAt s d (some (.b (.lit c)))) E [] := by
  simp only [Prod.mk.injEq] at h; exact st0 h.1 h.2.1 (h.2.2.1 ▸ .un _ _ _ _ _ h.2.2.2.1 h.2.2.2.2)
theorem Uo {op : UnOp} (h : (runs ops s o.guard, o.dst, o.op, ev s x) = (some true, some d, .unOp op T x, some (.b (.lit a)))) (hb : uop op a = some c) : Stp P ops o n s E (n + 1) (setAt s d (some (.b (.lit c)))) E [] := by
  simp only [Prod.mk.injEq] at h; exact st0 h.1 h.2.1 (h.2.2.1 ▸ .un _ _ _ _ _ h.2.2.2 hb)
theorem Cv {u : TypeDesc} (hu : P.underlying T = some u) (hu' : P.underlying T' = some (.int ik')) (h : (runs ops s o.guard, o.dst, o.op, ev s x) = (some true, some d, .convert T T' x, some (vI ik j))) (hw : IntKind.wrap ik' j = q) : Stp P ops o n s E (n + 1) (setAt s d (some (vI ik' q))) E [] := by
  simp only [Prod.mk.injEq] at h; exact st0 h.1 h.2.1 (h.2.2.1 ▸ Eff.convW h.2.2.2 hu hu' hw)
theorem Fa {f : Bool} {k' : Nat} (hf : fieldOf P T k = some (fo, m, f)) (h : (runs ops s o.guard, o.dst, o.op, ev s p, off + fo) = (some true, some d, .fieldAddr T p k, some (.ptr i off), k')) : Stp P ops o n s E (n + 1) (setAt s d (some (.ptr i k'))) E [] := by
  simp only [Prod.mk.injEq] at h; obtain ⟨h1, h2, h3, h4, rfl⟩ := h; exact st0 h1 h2 (h3 ▸ .fieldAddr _ _ _ _ _ _ _ _ h4 hf)
theorem Fr {l l' : List B} {f : Bool} (hf : fieldOf P T k = some (fo, m, f)) (h : (runs ops s o.guard, o.dst, o.op, ev s p, Nat.ble (fo + 1) l.length, l.drop fo) = (some true, some d, .fieldAddr T p k, some (.rd l), true, l')) : Stp P ops o n s E (n + 1) (setAt s d (some (.rd l'))) E [] := by
  simp only [Prod.mk.injEq] at h; obtain ⟨h1, h2, h3, h4, h5, rfl⟩ := h; exact st0 h1 h2 (h3 ▸ .fieldRd _ _ _ _ _ _ _ h4 hf (Nat.le_of_ble_eq_true h5))
/-- A field of one cell. -/
theorem Fd (hf : fieldOf P T k = some (fo, 1, false)) (h : (runs ops s o.guard, o.dst, o.op, ev s x, v.cells[fo]?, v.noTup) = (some true, some d, .field T x k, some v, some w, true)) (hc : v.cells ≠ [v]) : Stp P ops o n s E (n + 1) (setAt s d (some w)) E [] := by
  simp only [Prod.mk.injEq] at h; exact st0 h.1 h.2.1 (h.2.2.1 ▸ .field1 _ _ _ _ _ _ h.2.2.2.1 hc hf h.2.2.2.2.1 h.2.2.2.2.2)
/-- What is known of a type of slices. -/
structure SlT (P : Program) (T el : Nat) (z : B) (bytes : Nat) : Prop where
  u : P.underlying T = some (.slice el)
  s : szOf P el = some 1
  z : zeroOf P el = some [z]
  b : (P.info? el).map (·.bytes) = some bytes
theorem Ix {z' : B} {by' : Nat} (K : SlT P T el z' by') (h : (runs ops s o.guard, o.dst, o.op, ev s x, ev s y) = (some true, some d, .indexAddr T x y, some (.b (slK ik L)), some (vI ik' j))) (h0 : 0 ≤ j := by first | omega | (simp; done) | (simp; omega)) (h1 : j < L.length := by first | omega | (simp; done) | (simp; omega)) :
    Stp P ops o n s E (n + 1) (setAt s d (some (.rd [numB ik (L.getD j.toNat 0)]))) E [] := by
  simp only [Prod.mk.injEq] at h; obtain ⟨a, b, c, e, f⟩ := h
  refine st0 a b (c ▸ ?_)
  have h2 : j.toNat < L.length := by omega
  have := Eff.indexSl (P := P) (id := n) (E := E) T x y 1 (L.map (numB ik)) ik' j el e f K.u K.s h0 (by simp; omega)
  rw [drop_one _ _ (numB ik (L.getD j.toNat 0)) (by rw [List.getElem?_map, getD_get h2]; rfl)] at this
  exact this
theorem IxN {z' : B} {by' q : Nat} (K : SlT P T el z' by') (h : (runs ops s o.guard, o.dst, o.op, ev s x, ev s y) = (some true, some d, .indexAddr T x y, some (.b (slK ik L)), some (vI ik' (q : Int)))) (h1 : q < L.length := by first | omega | (simp; done) | (simp; omega)) :
    Stp P ops o n s E (n + 1) (setAt s d (some (.rd [numB ik (L.getD q 0)]))) E [] := Ix K h (by omega) (by omega)
theorem Ir {z' : B} {by' : Nat} (K : SlT P T el z' by') (h : (runs ops s o.guard, o.dst, o.op, ev s x, ev s y) = (some true, some d, .indexAddr T x y, some (.own i m), some (vI ik' j))) (h0 : 0 ≤ j := by first | omega | (simp; done) | (simp; omega)) (h1 : j < m := by first | omega | (simp; done) | (simp; omega)) :
    Stp P ops o n s E (n + 1) (setAt s d (some (.ptr i j.toNat))) E [] := by
  simp only [Prod.mk.injEq] at h; exact st0 h.1 h.2.1 (h.2.2.1 ▸ Eff.indexRow h.2.2.2.1 h.2.2.2.2 K.u K.s h0 h1)
theorem IrN {z' : B} {by' q : Nat} (K : SlT P T el z' by') (h : (runs ops s o.guard, o.dst, o.op, ev s x, ev s y) = (some true, some d, .indexAddr T x y, some (.own i m), some (vI ik' (q : Int)))) (h1 : q < m := by first | omega | (simp; done) | (simp; omega)) :
    Stp P ops o n s E (n + 1) (setAt s d (some (.ptr i q))) E [] := Ir K h (by omega) (by omega)
/-- Structs in a row that is written down. -/
theorem IrS (hu : P.underlying T = some (.slice el)) (hs : szOf P el = some sz) (h : (runs ops s o.guard, o.dst, o.op, ev s x, ev s y, decide (0 ≤ j ∧ j < m), j.toNat * sz) = (some true, some d, .indexAddr T x y, some (.own i m), some (vI ik' j), true, k)) :
    Stp P ops o n s E (n + 1) (setAt s d (some (.ptr i k))) E [] := by
  simp only [Prod.mk.injEq] at h; obtain ⟨h1, h2, h3, h4, h5, h6, rfl⟩ := h
  have := of_decide_eq_true h6
  exact st0 h1 h2 (h3 ▸ .indexOwn _ _ _ _ _ _ _ _ _ h4 h5 hu hs this.1 this.2)
theorem IxS {l l' : List B} (hu : P.underlying T = some (.slice el)) (hs : szOf P el = some sz) (h : (runs ops s o.guard, o.dst, o.op, ev s x, ev s y, decide (0 ≤ j ∧ (j.toNat + 1) * sz ≤ l.length), (l.drop (j.toNat * sz)).take sz) = (some true, some d, .indexAddr T x y, some (.b (.sl sz l)), some (vI ik' j), true, l')) :
    Stp P ops o n s E (n + 1) (setAt s d (some (.rd l'))) E [] := by
  simp only [Prod.mk.injEq] at h; obtain ⟨h1, h2, h3, h4, h5, h6, rfl⟩ := h
  have := of_decide_eq_true h6
  exact st0 h1 h2 (h3 ▸ .indexSl _ _ _ _ _ _ _ _ h4 h5 hu hs this.1 this.2)
theorem Ls {z' : B} {by' : Nat} (K : SlT P T el z' by') (h : (runs ops s o.guard, o.dst, o.op, ev s x) = (some true, some d, .call { callee := .builtin .len, args := #[x], argTypes := #[T] }, some (.b (slK ik L)))) : Stp P ops o n s E (n + 1) (setAt s d (some (vI .i64 L.length))) E [] := by
  simp only [Prod.mk.injEq] at h; exact st0 h.1 h.2.1 (h.2.2.1 ▸ .len _ _ _ _ _ h.2.2.2 K.u (by simp [V.len]))
theorem Lo (hu : P.underlying T = some (.slice el)) (h : (runs ops s o.guard, o.dst, o.op, ev s x) = (some true, some d, .call { callee := .builtin .len, args := #[x], argTypes := #[T] }, some (.own i m))) : Stp P ops o n s E (n + 1) (setAt s d (some (vI .i64 m))) E [] := by
  simp only [Prod.mk.injEq] at h; exact st0 h.1 h.2.1 (h.2.2.1 ▸ .len _ _ _ _ _ h.2.2.2 hu rfl)
theorem Lv (hu : P.underlying T = some (.slice el)) (h : (runs ops s o.guard, o.dst, o.op, ev s x, v.len) = (some true, some d, .call { callee := .builtin .len, args := #[x], argTypes := #[T] }, some v, some m)) : Stp P ops o n s E (n + 1) (setAt s d (some (vI .i64 m))) E [] := by
  simp only [Prod.mk.injEq] at h; exact st0 h.1 h.2.1 (h.2.2.1 ▸ .len _ _ _ _ _ h.2.2.2.1 hu h.2.2.2.2)
theorem Lw (m : Nat) {l : List B} (hu : P.underlying T = some (.slice el)) (h : (runs ops s o.guard, o.dst, o.op, ev s x, l.length) = (some true, some d, .call { callee := .builtin .len, args := #[x], argTypes := #[T] }, some (.b (.sl sz l)), m * sz)) (h0 : 0 < sz := by decide) : Stp P ops o n s E (n + 1) (setAt s d (some (vI .i64 m))) E [] := by
  simp only [Prod.mk.injEq] at h; exact st0 h.1 h.2.1 (h.2.2.1 ▸ .len _ _ _ _ _ h.2.2.2.1 hu (by simp only [V.len]; rw [h.2.2.2.2, Nat.mul_div_cancel _ h0]))
theorem Lt {str : ByteArray} (hu : P.underlying T = some .string) (h : (runs ops s o.guard, o.dst, o.op, ev s x) = (some true, some d, .call { callee := .builtin .len, args := #[x], argTypes := #[T] }, some (.b (.lit (.string str))))) : Stp P ops o n s E (n + 1) (setAt s d (some (vI .i64 str.size))) E [] := by
  simp only [Prod.mk.injEq] at h; exact st0 h.1 h.2.1 (h.2.2.1 ▸ .lenStr _ _ _ h.2.2.2 hu)
theorem Mx {ts : Array TypeId} {x' y' : Int} (h : (runs ops s o.guard, o.dst, o.op, ev s x, ev s y) = (some true, some d, .call { callee := .builtin .max, args := #[x, y], argTypes := ts }, some (vI ik x'), some (vI ik y'))) : Stp P ops o n s E (n + 1) (setAt s d (some (vI ik (if y' > x' then y' else x')))) E [] := by
  simp only [Prod.mk.injEq] at h; exact st0 h.1 h.2.1 (h.2.2.1 ▸ .max _ _ _ _ _ _ h.2.2.2.1 h.2.2.2.2)
theorem Mi {ts : Array TypeId} {x' y' : Int} (h : (runs ops s o.guard, o.dst, o.op, ev s x, ev s y) = (some true, some d, .call { callee := .builtin .min, args := #[x, y], argTypes := ts }, some (vI ik x'), some (vI ik y'))) : Stp P ops o n s E (n + 1) (setAt s d (some (vI ik (if y' < x' then y' else x')))) E [] := by
  simp only [Prod.mk.injEq] at h; exact st0 h.1 h.2.1 (h.2.2.1 ▸ .min _ _ _ _ _ _ h.2.2.2.1 h.2.2.2.2)
theorem Xt {l : List B} {y : B} (h : (runs ops s o.guard, o.dst, o.op, ev s x, l[k]?) = (some true, some d, .extract x k, some (.b (.tup l)), some y)) : Stp P ops o n s E (n + 1) (setAt s d (some (.b y))) E [] := by
  simp only [Prod.mk.injEq] at h; exact st0 h.1 h.2.1 (h.2.2.1 ▸ .extract _ _ _ _ h.2.2.2.1 h.2.2.2.2)
theorem Xv (h : (runs ops s o.guard, o.dst, o.op, ev s x, l[k]?) = (some true, some d, .extract x k, some (.tup l), some w)) : Stp P ops o n s E (n + 1) (setAt s d (some w)) E [] := by
  simp only [Prod.mk.injEq] at h; exact st0 h.1 h.2.1 (h.2.2.1 ▸ .extractV _ _ _ _ h.2.2.2.1 h.2.2.2.2)
theorem Mf {f : FuncId} {caps : Array Operand} (h : (runs ops s o.guard, o.dst, o.op, evs s caps.toList, l.all V.leaf) = (some true, some d, .makeFunc (.func f) #[] caps, some l, true)) : Stp P ops o n s E (n + 1) (setAt s d (some (.fn f l))) E [] := by
  simp only [Prod.mk.injEq] at h; exact st0 h.1 h.2.1 (h.2.2.1 ▸ .makeFunc _ _ _ h.2.2.2.1 h.2.2.2.2)
theorem Mk (q : Nat) {by' : Nat} (K : SlT P T el (numB ik' 0) by') (h : (runs ops s o.guard, o.dst, o.op, ev s x, n, Nat.ble by' 8) = (some true, some d, .makeSlice T x x, some (vI ik j), q, true)) (h0 : 0 ≤ j := by first | omega | (simp; done) | (simp; omega)) (h1 : j ≤ 1000000000000 := by first | omega | (simp; done) | (simp; omega)) :
    Stp P ops o n s E (q + 1) (setAt s d (some (.own q j.toNat))) (setAt E q (some (rowK ik' (List.replicate j.toNat 0)))) [q] := by
  simp only [Prod.mk.injEq] at h; obtain ⟨a, b, c, e, rfl, f⟩ := h
  have f := Nat.le_of_ble_eq_true f
  refine st1 a b (c ▸ ?_)
  have hm : (by' : Int) * j ≤ 8 * 1000000000000 := Int.le_trans (Int.mul_le_mul_of_nonneg_right (show (by' : Int) ≤ 8 by omega) h0) (by omega)
  have := Eff.make (P := P) (id := n) (E := E) T x j el [numB ik' 0] by' ik e K.u K.z K.s K.b (by simp) h0 (by omega) (by omega)
  have e : (some ⟨[numB ik' 0].length, ((List.replicate j.toNat [numB ik' 0]).flatten).map .b, true⟩ : Option Ent) = some (rowK ik' (List.replicate j.toNat 0)) := by
    simp only [rowK, List.length_singleton, List.map_replicate]
    congr 2
    induction j.toNat with
    | zero => rfl
    | succ q ih => simp [List.replicate_succ, ih]
  rw [e] at this
  exact this
/-- Creating steps at a given number. -/
theorem sq1 (q : Nat) {e : Option Ent} (a : (n, runs ops s o.guard, o.dst) = (q, some true, some d)) (c : Eff P q s E o.op (some v) [(i, e)]) : Stp P ops o n s E (q + 1) (setAt s d (some v)) (setAt E i e) [i] := by
  simp only [Prod.mk.injEq] at a; obtain ⟨rfl, a, b⟩ := a; exact st1 a b c
theorem sqN (q : Nat) {us : List (Nat × Option Ent)} (a : (n, runs ops s o.guard, o.dst) = (q, some true, some d)) (c : Eff P q s E o.op (some v) us) : Stp P ops o n s E (q + 1) (setAt s d (some v)) (upds E us) (us.map (·.1)) := by
  simp only [Prod.mk.injEq] at a; obtain ⟨rfl, a, b⟩ := a; exact stN a b c
theorem L0s (q : Nat) {by' : Nat} (K : SlT P T el (numB ik 0) by') (h : (runs ops s o.guard, o.dst, o.op, n) = (some true, some d, .buildSlice T 0 #[], q)) :
    Stp P ops o n s E (q + 1) (setAt s d (some (.own q 0))) (setAt E q (some (rowK ik []))) [q] := by
  simp only [Prod.mk.injEq] at h; obtain ⟨h1, h2, h3, rfl⟩ := h
  exact st1 h1 h2 (h3 ▸ .buildS T 0 #[] el [] 1 [numB ik 0] [] rfl K.u K.z K.s (by simp) (by simp) rfl rfl)
theorem L1s (q : Nat) {by' : Nat} (K : SlT P T el (numB ik 0) by') (h : (runs ops s o.guard, o.dst, o.op, ev s x, n) = (some true, some d, .buildSlice T 1 #[(0, x)], some (vI ik j), q)) :
    Stp P ops o n s E (q + 1) (setAt s d (some (.own q 1))) (setAt E q (some (rowK ik [j]))) [q] := by
  simp only [Prod.mk.injEq] at h; obtain ⟨h1, h2, h3, h4, rfl⟩ := h
  exact st1 h1 h2 (h3 ▸ Eff.litsK1 h4 K.u K.z K.s)
theorem L2s (q : Nat) {by' : Nat} {j' : Int} (K : SlT P T el (numB ik 0) by') (h : (runs ops s o.guard, o.dst, o.op, ev s x, ev s y, n) = (some true, some d, .buildSlice T 2 #[(0, x), (1, y)], some (vI ik j), some (vI ik j'), q)) :
    Stp P ops o n s E (q + 1) (setAt s d (some (.own q 2))) (setAt E q (some (rowK ik [j, j']))) [q] := by
  simp only [Prod.mk.injEq] at h; obtain ⟨h1, h2, h3, h4, h5, rfl⟩ := h
  exact st1 h1 h2 (h3 ▸ .buildS T 2 #[(0, x), (1, y)] el [vI ik j, vI ik j'] 1 [numB ik 0] [vI ik j, vI ik j'] (by simp [evs, h4, h5]) K.u K.z K.s (by simp) (by simp) rfl rfl)
/-- What is known of a type of structs: the zero cells, where the fields lie. -/
structure StT (P : Program) (T : TypeId) (z : List B) (fl : List (Nat × Nat)) : Prop where
  z : zeroOf P T = some z
  p : ∃ fs, P.underlying T = some (.struct fs) ∧ fs.toList.all (fun f => (szOf P f.type).isSome) = true
  f : ∀ k q, fl[k]? = some q → places P T k = some q
theorem putParts_mono {f g : Nat → Option (Nat × Nat)} (h : ∀ k q, f k = some q → g k = some q) : ∀ {l : List (Nat × V)} {cs cs' : List V}, putParts f l cs = some cs' → putParts g l cs = some cs'
  | [], _, _, hc => hc
  | (k, v) :: r, cs, cs', hc => by
    simp only [putParts] at hc ⊢
    cases hf : f k with
    | none => rw [hf] at hc; cases hc
    | some q =>
      rw [hf] at hc; rw [h k q hf]
      obtain ⟨fo, m⟩ := q
      simp only at hc ⊢
      split at hc
      · rename_i hi; rw [if_pos hi]; exact putParts_mono h hc
      · cases hc
theorem Bd {parts : Array (Nat × Operand)} {z : List B} {fl : List (Nat × Nat)} {vs : List V} (K : StT P T z fl) (h : (runs ops s o.guard, o.dst, o.op, evs s (parts.toList.map (·.2)), putParts (fun k => fl[k]?) ((parts.toList.map (·.1)).zip vs) (z.map .b)) = (some true, some d, .build T parts, some vs, some cs)) :
    Stp P ops o n s E (n + 1) (setAt s d (some (.agg cs))) E [] := by
  simp only [Prod.mk.injEq] at h; obtain ⟨h1, h2, h3, h4, h5⟩ := h
  exact st0 h1 h2 (h3 ▸ .build _ _ _ _ _ h4 K.z K.p (putParts_mono K.f h5))
theorem Ct {hi : Operand} {z' : B} {by' : Nat} (K : SlT P T el z' by') (h : (runs ops s o.guard, o.dst, o.op, ev s x, ev s hi) = (some true, some d, .slice T x none (some hi) none, some (.b (slK ik L)), some (vI ik' j))) (h0 : 0 ≤ j := by first | omega | (simp; done) | (simp; omega)) (h1 : j ≤ L.length := by first | omega | (simp; done) | (simp; omega)) :
    Stp P ops o n s E (n + 1) (setAt s d (some (.b (slK ik (L.take j.toNat))))) E [] := by
  simp only [Prod.mk.injEq] at h; obtain ⟨a, b, c, e, f⟩ := h
  refine st0 a b (c ▸ ?_)
  have := Eff.slSl (P := P) (id := n) (E := E) T x none (some hi) 1 (L.map (numB ik)) el ik' ik' 0 j e K.u K.s (.inl ⟨rfl, rfl⟩) (.inr ⟨hi, rfl, f⟩) (by omega) h0 (by simp; omega)
  simp only [Nat.mul_one, Int.toNat_zero, List.drop_zero, ← List.map_take] at this
  exact this
theorem Tt {hi : Operand} {str : ByteArray} (hu : P.underlying T = some .string) (h : (runs ops s o.guard, o.dst, o.op, ev s x, ev s hi) = (some true, some d, .slice T x none (some hi) none, some (.b (.lit (.string str))), some (vI ik' j))) (h0 : 0 ≤ j := by first | omega | (simp; done) | (simp; omega)) (h1 : j ≤ str.size := by first | omega | (simp; done) | (simp; omega)) :
    Stp P ops o n s E (n + 1) (setAt s d (some (.b (.lit (.string (str.extract 0 j.toNat)))))) E [] := by
  simp only [Prod.mk.injEq] at h; exact st0 h.1 h.2.1 (h.2.2.1 ▸ .strTo _ _ _ _ _ _ h.2.2.2.1 h.2.2.2.2 hu h0 h1)
theorem Tf {lo : Operand} {str : ByteArray} (hu : P.underlying T = some .string) (h : (runs ops s o.guard, o.dst, o.op, ev s x, ev s lo) = (some true, some d, .slice T x (some lo) none none, some (.b (.lit (.string str))), some (vI ik' j))) (h0 : 0 ≤ j := by first | omega | (simp; done) | (simp; omega)) (h1 : j ≤ str.size := by first | omega | (simp; done) | (simp; omega)) :
    Stp P ops o n s E (n + 1) (setAt s d (some (.b (.lit (.string (str.extract j.toNat str.size)))))) E [] := by
  simp only [Prod.mk.injEq] at h; exact st0 h.1 h.2.1 (h.2.2.1 ▸ .strFrom _ _ _ _ _ _ h.2.2.2.1 h.2.2.2.2 hu h0 h1)
theorem TfN {lo : Operand} {str : ByteArray} {q : Nat} (hu : P.underlying T = some .string) (h : (runs ops s o.guard, o.dst, o.op, ev s x, ev s lo) = (some true, some d, .slice T x (some lo) none none, some (.b (.lit (.string str))), some (vI ik' (q : Int)))) (h1 : q ≤ str.size := by first | omega | (simp; done) | (simp; omega)) :
    Stp P ops o n s E (n + 1) (setAt s d (some (.b (.lit (.string (str.extract q str.size)))))) E [] := by
  simp only [Prod.mk.injEq] at h; exact st0 h.1 h.2.1 (h.2.2.1 ▸ Eff.strFromN h.2.2.2.1 h.2.2.2.2 hu h1)
theorem Ti {str : ByteArray} {z : Int} (hu : P.underlying T = some .string) (h : (runs ops s o.guard, o.dst, o.op, ev s x, ev s y) = (some true, some d, .index T x y, some (.b (.lit (.string str))), some (vI ik' j))) (hv : ((str.data.getD j.toNat 0).toNat : Int) = z) (h0 : 0 ≤ j := by first | omega | (simp; done) | (simp; omega)) (h1 : j.toNat < str.size := by first | omega | (simp; done) | (simp; omega)) :
    Stp P ops o n s E (n + 1) (setAt s d (some (vI .u8 z))) E [] := by
  simp only [Prod.mk.injEq] at h; exact st0 h.1 h.2.1 (h.2.2.1 ▸ Eff.indexT h.2.2.2.1 h.2.2.2.2 hu h0 h1 hv)
theorem TiN {str : ByteArray} {q : Nat} (hu : P.underlying T = some .string) (h : (runs ops s o.guard, o.dst, o.op, ev s x, ev s y) = (some true, some d, .index T x y, some (.b (.lit (.string str))), some (vI ik' (q : Int)))) (h1 : q < str.size := by first | omega | (simp; done) | (simp; omega)) :
    Stp P ops o n s E (n + 1) (setAt s d (some (vI .u8 (at8 str q)))) E [] := by
  simp only [Prod.mk.injEq] at h; exact st0 h.1 h.2.1 (h.2.2.1 ▸ Eff.indexSN h.2.2.2.1 h.2.2.2.2 hu h1)
/-- The contents of what is given. -/
theorem Rr (he : E i = some (rowK ik L)) (hl : L.length = m := by first | omega | (simp; done) | (simp; omega) | (simp [*]; done) | (simp [*]; omega)) : res E (.own i m) = some (slK ik L) := res_rowK he hl
theorem Ra {t : Bool} (he : E i = some (rowK .u32 L)) (hl : L.length = m := by first | omega | (simp; done) | (simp; omega) | (simp [*]; done) | (simp [*]; omega)) : res E (.agg [vB t, .own i m]) = some (intB t L) := res_agg he hl
theorem Cp {z' : B} {by' : Nat} (K : SlT P T el z' by') (h : (runs ops s o.guard, o.dst, o.op, ev s x, E i, ev s y) = (some true, some d, .call { callee := .builtin .copy, args := #[x, y], argTypes := #[T, T'] }, some (.own i m), some (rowK ik D), some w)) (hr : res E w = some (slK ik L)) (hl : m ≤ D.length := by first | omega | (simp; done) | (simp; omega)) :
    Stp P ops o n s E (n + 1) (setAt s d (some (vI .i64 (Nat.min L.length m)))) (setAt E i (some (rowK ik (L.take (Nat.min L.length m) ++ D.drop (Nat.min L.length m))))) [i] := by
  simp only [Prod.mk.injEq] at h; obtain ⟨h1, h2, h3, h4, h5, h6⟩ := h
  have := Eff.copy (P := P) (id := n) x y T T' el i m (rowK ik D) w (L.map (numB ik)) h4 h5 rfl rfl (by simpa [rowK] using hl) h6 hr K.u K.s lits_allK
  rw [List.length_map] at this
  have e : (some { rowK ik D with cells := ((L.map (numB ik)).take (Nat.min L.length m)).map .b ++ (rowK ik D).cells.drop (Nat.min L.length m) } : Option Ent) = some (rowK ik (L.take (Nat.min L.length m) ++ D.drop (Nat.min L.length m))) := by
    simp only [rowK, List.map_append, List.map_take, List.map_drop, List.map_map]
    rfl
  rw [e] at this
  exact st1 h1 h2 (h3 ▸ this)
theorem Ap (q : Nat) {by' : Nat} (K : SlT P T el (numB ik 0) by') (h : (runs ops s o.guard, o.dst, o.op, ev s x, E i, ev s y, n, w.names.contains i) = (some true, some d, .call { callee := .builtin .append, args := #[x, y], argTypes := #[T, T] }, some (.own i m), some (rowK ik D), some w, q, false)) (hr : res E w = some (slK ik L)) (hl : D.length = m := by first | omega | (simp; done) | (simp; omega))
    (hm : (m + L.length) * by' ≤ 140737488355328 ∧ m + L.length ≤ maxLen := by first | (simp [maxLen]; done) | (simp [maxLen]; omega) | (simp only [maxLen]; omega)) :
    Stp P ops o n s E (q + 1) (setAt s d (some (.own q (m + L.length)))) (setAt (setAt E i none) q (some (rowK ik (D ++ L)))) [i, q] := by
  simp only [Prod.mk.injEq] at h; obtain ⟨h1, h2, h3, h4, h5, h6, rfl, h7⟩ := h
  have hne : i ∉ w.names := fun hc => by simp [hc] at h7
  exact st2 h1 h2 (h3 ▸ Eff.appendK h4 h5 hl h6 hr hne K.u K.s K.b K.z hm)
theorem Ap0 (q : Nat) {by' : Nat} (K : SlT P T el (numB ik 0) by') (h : (runs ops s o.guard, o.dst, o.op, ev s x, E i, ev s y, n, w.names.contains i) = (some true, some d, .call { callee := .builtin .append, args := #[x, y], argTypes := #[T, T] }, some (.own i 0), some (rowK ik []), some w, q, false)) (hr : res E w = some (slK ik L))
    (hm : L.length * by' ≤ 140737488355328 ∧ L.length ≤ maxLen := by first | (simp [maxLen]; done) | (simp [maxLen]; omega) | (simp only [maxLen]; omega)) :
    Stp P ops o n s E (q + 1) (setAt s d (some (.own q L.length))) (setAt (setAt E i none) q (some (rowK ik L))) [i, q] := by
  have := Ap q K h hr rfl (by rw [Nat.zero_add]; exact hm)
  rwa [Nat.zero_add] at this
theorem Apn (q : Nat) {by' : Nat} (K : SlT P T el (numB ik 0) by') (h : (runs ops s o.guard, o.dst, o.op, ev s x, ev s y, n) = (some true, some d, .call { callee := .builtin .append, args := #[x, y], argTypes := #[T, T] }, some (.b .nil), some w, q)) (hr : res E w = some (slK ik L)) (h0 : L ≠ [] := by first | omega | (simp; done) | (simp; omega))
    (hm : L.length * by' ≤ 140737488355328 ∧ L.length ≤ maxLen := by first | (simp [maxLen]; done) | (simp [maxLen]; omega) | (simp only [maxLen]; omega)) :
    Stp P ops o n s E (q + 1) (setAt s d (some (.own q L.length))) (setAt E q (some (rowK ik L))) [q] := by
  simp only [Prod.mk.injEq] at h; obtain ⟨h1, h2, h3, h4, h5, rfl⟩ := h
  exact st1 h1 h2 (h3 ▸ Eff.appendNilK h4 h5 hr h0 K.u K.s K.b K.z hm)
theorem Apc {by' : Nat} (K : SlT P T el (numB ik 0) by') (h : (runs ops s o.guard, o.dst, o.op, ev s y) = (some true, some d, .call { callee := .builtin .append, args := #[.const (.slice none 0 0), y], argTypes := #[T, T] }, some w)) (hr : res E w = some (slK ik L))
    (hm : L.length * by' ≤ 140737488355328 ∧ L.length ≤ maxLen := by first | (simp [maxLen]; done) | (simp [maxLen]; omega) | (simp only [maxLen]; omega)) :
    Stp P ops o n s E (n + 1) (setAt s d (some (.b (slK ik L)))) E [] := by
  simp only [Prod.mk.injEq] at h; obtain ⟨h1, h2, h3, h4⟩ := h
  exact st0 h1 h2 (h3 ▸ .appendNilB _ _ _ _ _ _ _ rfl h4 hr K.u K.s K.b (by rw [K.z]; rfl) (by simpa using hm.1) (by simpa using hm.2) lits_allK)
theorem Ts {by' : Nat} (K : SlT P T el (numB .u8 0) by') (he : P.underlying el = some (.int .u8)) (hu : P.underlying T' = some .string) (h : (runs ops s o.guard, o.dst, o.op, ev s x, E i) = (some true, some d, .convert T T' x, some (.own i m), some (rowK .u8 L))) (h8 : ok8 L) (hl : L.length = m := by first | omega | (simp; done) | (simp; omega)) :
    Stp P ops o n s E (n + 1) (setAt s d (some (.b (.lit (.string (bytesOf L)))))) E [] := by
  simp only [Prod.mk.injEq] at h; exact st0 h.1 h.2.1 (h.2.2.1 ▸ Eff.toStrK h.2.2.2.1 h.2.2.2.2 hl h8 K.u he hu)
/-- Calls by contracts. -/
theorem Cf {f : FuncId} {args : Array Operand} {ts : Array TypeId} {vs : List V} {xs : List B} {rr : B} (h : (runs ops s o.guard, o.dst, o.op, evs s args.toList) = (some true, some d, .call { callee := .value (.func f), args := args, argTypes := ts }, some vs)) (hx : ress E vs = some xs) (hf : VF P f xs rr) (hr : rr.flat = true) :
    Stp P ops o n s E (n + 1) (setAt s d (some (.b rr))) E [] := by
  simp only [Prod.mk.injEq] at h; exact st0 h.1 h.2.1 (h.2.2.1 ▸ .callF _ _ _ _ _ _ h.2.2.2 hx hf hr)
theorem C0 {f : FuncId} {args : Array Operand} {ts : Array TypeId} {vs : List V} {xs : List B} {rr : B} (h : (runs ops s o.guard, o.dst, o.op, evs s args.toList, vs.flatMap V.names) = (some true, some d, .call { callee := .value (.func f), args := args, argTypes := ts }, some vs, [])) (hx : ress E vs = some xs) (hf : VF P f xs rr) :
    Stp P ops o n s E (n + 1) (setAt s d (some (.b rr))) E [] := by
  simp only [Prod.mk.injEq] at h; exact st0 h.1 h.2.1 (h.2.2.1 ▸ Eff.callV0 h.2.2.2.1 hx hf h.2.2.2.2)
theorem Cc {f : FuncId} {args : Array Operand} {ts : Array TypeId} {vs : List V} {xs : List B} {rr : B} (h : (runs ops s o.guard, o.dst, o.op, evs s args.toList) = (some true, some d, .call { callee := .value (.func f), args := args, argTypes := ts }, some vs)) (hx : ress E vs = some xs) (hf : VF P f xs rr) :
    Stp P ops o n s E (n + 1) (setAt s d (some (.b rr))) (upds E ((vs.flatMap V.names).map (cool E))) (((vs.flatMap V.names).map (cool E)).map (·.1)) := by
  simp only [Prod.mk.injEq] at h; exact stN h.1 h.2.1 (h.2.2.1 ▸ .callV _ _ _ _ _ _ h.2.2.2 hx hf)
theorem Cm {f : FuncId} {args : Array Operand} {rest : List Operand} {ts : Array TypeId} {vs : List V} {xs : List B} {rr : B} {L' : List Int} (h : (runs ops s o.guard, o.dst, o.op, args.toList, ev s x, E i, evs s rest, (vs.flatMap V.names).contains i) = (some true, some d, .call { callee := .value (.func f), args := args, argTypes := ts }, x :: rest, some (.own i m), some (rowK .u32 L), some vs, false))
    (hx : ress E vs = some xs) (hf : VM P f (L.map u32B) xs rr (L'.map u32B)) (hl : L.length = m := by first | omega | (simp; done) | (simp; omega) | (simp [*]; done) | (simp [*]; omega)) :
    Stp P ops o n s E (n + 1) (setAt s d (some (.b rr))) (setAt E i (some (rowK .u32 L'))) [i] := by
  simp only [Prod.mk.injEq] at h; obtain ⟨h1, h2, h3, h4, h5, h6, h7, h8⟩ := h
  have hni : i ∉ vs.flatMap V.names := fun hc => by simp [hc] at h8
  exact st1 h1 h2 (h3 ▸ Eff.callMr (L := L) (L' := L') h4 h5 h6 hl h7 hx hni hf)
theorem Cn {f : FuncId} {args : Array Operand} {ts : Array TypeId} {xs : List Value} {rr : Value} (h : (runs ops s o.guard, o.dst, o.op, evs s args.toList) = (some true, some d, .call { callee := .value (.func f), args := args, argTypes := ts }, some (xs.map fun x => .b (.lit x)))) (hf : NF P f xs rr) :
    Stp P ops o n s E (n + 1) (setAt s d (some (.b (.lit rr)))) E [] := by
  simp only [Prod.mk.injEq] at h; exact st0 h.1 h.2.1 (h.2.2.1 ▸ .callN _ _ _ _ _ h.2.2.2 hf)
/-- A boolean that is known. -/
theorem Kb {t t' : Bool} (h : t = t') (k : Stp P ops o n s E n' (setAt s d (some (vB t))) E' ids) : Stp P ops o n s E n' (setAt s d (some (vB t'))) E' ids := h ▸ k
/-- Two ways. -/
theorem Sp (d : Nat) {t : Bool} (hs : s d = some (vB t)) (h1 : t = true → VList P ops r n (setAt s d (some (vB true))) E Q) (h2 : t = false → VList P ops r n (setAt s d (some (vB false))) E Q) : VList P ops r n s E Q := VList.split t hs h1 h2
theorem Sl (d : Nat) {t : Bool} (hs : s d = some (vB t)) (h1 : t = true → VLog P ops r n (setAt s d (some (vB true))) E log R) (h2 : t = false → VLog P ops r n (setAt s d (some (vB false))) E log R) : VLog P ops r n s E log R := VLog.split t hs h1 h2
theorem Gv (q : Nat) {E2 : Env} (h : (runs ops s o.guard, o.dst) = (some true, some d)) (h2 : CallG P n s E o.op w q E2) (hv : w = v) (h3 : VList P ops r q (setAt s d (some v)) E2 Q) : VList P ops (o :: r) n s E Q := by
  injection h with h1 hd; exact VList.goV h1 hd h2 hv h3
end
section
variable {P : Program} {ops : Array Oper} {n k rid id : Nat} {s : Slots} {E : Env} {X : VExit → Nat → Slots → Env → Prop} {a b : Code} {c : Operand} {e : VExit}
theorem Rg (h : VList P ops ops.toList n s E (X .normal)) : VCode P k (.region rid ops false) n s E X := h
theorem Rd (h1 : drawOk ops = true) (h : VLog P ops ops.toList n s E [] fun log n s E => logOk (bef ops) log = true ∧ X .normal n s E) : VCode P k (.region rid ops true) n s E X := ⟨h1, h⟩
theorem Sq (h : VCode P k a n s E (Then P k b X)) : VCode P k (.seq a b) n s E X := h
theorem Nx (h : VCode P k b n s E X) : VList P ops [] n s E (Then P k b X .normal) := .inl h
theorem Nv (h : X .normal n s E) : VList P ops [] n s E (X .normal) := h
theorem Cd {t : Bool} (hc : ev s c = some (vB t)) (h1 : t = true → VCode P k a n s E X) (h2 : t = false → VCode P k b n s E X) : VCode P k (.cond c a b) n s E X := ⟨t, hc, h1, h2⟩
theorem Cy (hc : ev s c = some (vB true)) (h : VCode P k a n s E X) : VCode P k (.cond c a b) n s E X := ⟨true, hc, fun _ => h, fun h => Bool.noConfusion h⟩
theorem Cz (hc : ev s c = some (vB false)) (h : VCode P k b n s E X) : VCode P k (.cond c a b) n s E X := ⟨false, hc, fun h => Bool.noConfusion h, fun _ => h⟩
theorem Bk (h : VCode P k b n s E (InBlock id X)) : VCode P k (.block id b) n s E X := h
theorem Re (h : X .ret n s E) : VCode P k .ret n s E X := h
theorem Ks (h : X .normal n s E) : VCode P k .skip n s E X := h
theorem Ke {i : Nat} (h : X (.exit i) n s E) : VCode P k (.exit i) n s E X := h
theorem Tg (h : VCode P k b n s E X) : Then P k b X .normal n s E := .inl h
theorem Tr (h : X .ret n s E) : Then P k b X .ret n s E := h
theorem Te {i : Nat} (h : X (.exit i) n s E) : Then P k b X (.exit i) n s E := h
theorem Ig (h : X .normal n s E) : InBlock id X .normal n s E := h
theorem Iq (h : X .ret n s E) : InBlock id X .ret n s E := h
theorem Ih (h : X .normal n s E) : InBlock id X (.exit id) n s E := InBlock.here h
theorem Io {i : Nat} (h : X (.exit i) n s E) (hi : i ≠ id := by decide) : InBlock id X (.exit i) n s E := InBlock.out hi h
/-- Renaming, written down. -/
def rl (l : List (Nat × Nat)) : Nat → Nat := fun i => (l.lookup i).getD i
theorem cells_of {n1 : Nat} {e : Ent} (h : (e.cells.all fun v => v.all1.all fun i => decide (i < n1)) = true) : ∀ v ∈ e.cells, v.all1.all (fun i => decide (i < n1)) = true := List.all_eq_true.1 h
theorem rowK_ren' {ik : IntKind} {ρ : Nat → Nat} {L : List Int} : some (rowK ik L) = some ((rowK ik L).ren ρ) := by rw [rowK_ren]
/-- Less is told. -/
theorem Wk {k n1 : Nat} {S1 : List (Nat × V)} {L1 : List (Nat × Ent)}
    (h1 : AllS (fun t x => s t = some x ∧ x.all.all (fun i => decide (i < n1)) = true) S1 := by repeat' (first | exact trivial | refine ⟨⟨rfl, rfl⟩, ?_⟩))
    (h2 : AllE (fun i e => E i = some e ∧ i < n1 ∧ ∀ v ∈ e.cells, v.all1.all (fun i => decide (i < n1)) = true) L1 := by repeat' (first | exact trivial | refine ⟨⟨rfl, Nat.le_of_ble_eq_true rfl, by first | exact row_cellsK | exact cells_of rfl⟩, ?_⟩)) (hk : k ≤ n1 := by exact Nat.le_of_ble_eq_true rfl) : Weak k s E n1 (sl S1) (en L1) := Weak.of hk h1 h2
theorem Wr {k n1 : Nat} {S1 : List (Nat × V)} {L1 : List (Nat × Ent)} (l : List (Nat × Nat))
    (hlow : (List.range k).all (fun i => rl l i == i) = true := by rfl) (hinj : (L1.map (·.1)).all (fun i => (L1.map (·.1)).all fun j => !(rl l i == rl l j) || i == j) = true := by rfl)
    (h1 : AllS (fun t x => s t = some (x.ren (rl l)) ∧ x.all.all (fun i => decide (i < n1)) = true) S1 := by repeat' (first | exact trivial | refine ⟨⟨rfl, rfl⟩, ?_⟩))
    (h2 : AllE (fun i e => E (rl l i) = some (e.ren (rl l)) ∧ i < n1 ∧ ∀ v ∈ e.cells, v.all1.all (fun i => decide (i < n1)) = true) L1 := by repeat' (first | exact trivial | refine ⟨⟨by first | exact rowK_ren' | rfl, Nat.le_of_ble_eq_true rfl, by first | exact row_cellsK | exact cells_of rfl⟩, ?_⟩)) (hk : k ≤ n1 := by exact Nat.le_of_ble_eq_true rfl) : Weak k s E n1 (sl S1) (en L1) :=
  Weak.ofR (rl l) hk hlow hinj h1 h2
theorem Go {α : Type} {st : α → Nat × Slots × Env} {ok : α → Prop} {μ : α → Nat} {x : α} (y : α) (h1 : ok y) (h3 : Weak k s E (st y).1 (st y).2.1 (st y).2.2) (h2 : μ y < μ x := by first | (dsimp only; omega) | omega) : Round k st ok μ x X .normal n s E := ⟨y, h1, h2, h3⟩
theorem Or {α : Type} {st : α → Nat × Slots × Env} {ok : α → Prop} {μ : α → Nat} {x : α} (h : X .ret n s E) : Round k st ok μ x X .ret n s E := h
theorem Oe {α : Type} {st : α → Nat × Slots × Env} {ok : α → Prop} {μ : α → Nat} {x : α} {i : Nat} (h : X (.exit i) n s E) : Round k st ok μ x X (.exit i) n s E := h
theorem Jg {α : Type} {st : α → Nat × Slots × Env} {J : α → Prop} (y : α) (h1 : J y) (h3 : Weak k s E (st y).1 (st y).2.1 (st y).2.2) : Joins k st J X .normal n s E := ⟨y, h1, h3⟩
theorem Jr {α : Type} {st : α → Nat × Slots × Env} {J : α → Prop} (h : X .ret n s E) : Joins k st J X .ret n s E := h
theorem Je {α : Type} {st : α → Nat × Slots × Env} {J : α → Prop} {i : Nat} (h : X (.exit i) n s E) : Joins k st J X (.exit i) n s E := h
/-- The end. -/
theorem Fi {fn : Func} {A : Prop} {l : List B} {r : B} (h : resVars P s E fn.results.toList = some l) (hr : r = oneB l) (he : A := by trivial) : A ∧ ∃ l, resVars P s E fn.results.toList = some l ∧ r = oneB l := ⟨he, l, h, hr⟩
theorem Rc {w : ResultVar} {b : B} {vs : List ResultVar} {l : List B} (h1 : resVar P s E w = some b) (h2 : resVars P s E vs = some l) : resVars P s E (w :: vs) = some (b :: l) := resVars_cons h1 h2
theorem Rn : resVars P s E [] = some [] := rfl
theorem Rk {w : V} {b : B} {vs : List V} {l : List B} (h1 : res E w = some b) (h2 : ress E vs = some l) : ress E (w :: vs) = some (b :: l) := ress_cons h1 h2
theorem Rz : ress E [] = some [] := rfl
end
end Go.VL

/- A small program logic over the translated Go code, further part: calls that are lent entries, in a short form. -/
set_option linter.unusedVariables false
set_option linter.unusedSimpArgs false
namespace Go.VL
open Go.RowKit

section
variable {P : Program} {ops : Array Oper} {o : Oper} {r : List Oper} {n n' id : Nat} {s : Slots} {E E2 : Env} {Q : Nat → Slots → Env → Prop} {d i : Nat} {v w : V}
variable {fop : Operand} {args : Array Operand} {ts : Array TypeId} {f : FuncId} {caps vs xs : List V} {L0 : List Ent} {L1 : List (Option Ent)}
theorem upds_single (E : Env) (i : Nat) (e : Option Ent) : upds E [(i, e)] = setAt E i e := rfl
/-- A call that yields a value, and no new names. -/
theorem Gd (l nv : List Nat) {rr : B} {us : List (Nat × Option Ent)} (h : (runs ops s o.guard, o.dst, o.op, ev s fop, evs s args.toList) = (some true, some d, .call { callee := .value fop, args := args, argTypes := ts }, some (.fn f caps), some vs)) (hv : VG P f xs L0 (.b rr) L1)
    (hus : us = (List.range L0.length).map fun j => (rho l j, (tab L1 j).map (Ent.ren (nm (rho l) L0.length n))))
    (hx : Args E (rho l) L0.length nv (vs ++ caps) xs := by repeat' (first | exact Args.nil | refine Args.name _ _ _ _ rfl rfl ?_ | refine Args.val _ _ _ _ (by first | rfl | exact Rr rfl | exact Ra rfl) rfl ?_))
    (hl : Lent E (rho l) nv L0 := by refine Lent.of rfl (by decide) ?_; repeat' (first | exact trivial | refine ⟨⟨by first | exact rowK_ren' | rfl, rfl, by first | exact row_cellsK | exact cells_of rfl⟩, ?_⟩))
    (hsz : L1.length = L0.length := by rfl)
    (hlk : (List.range L0.length).all (fun j => (looks s (.call { callee := .value fop, args := args, argTypes := ts })).contains (rho l j)) = true := by rfl) (hnv : nv.all (fun i => (looks s (.call { callee := .value fop, args := args, argTypes := ts })).contains i) = true := by rfl) :
    Stp P ops o n s E (n + 1) (setAt s d (some (.b rr))) (upds E (nv.map (cool E) ++ us)) ((nv.map (cool E) ++ us).map (·.1)) := by
  simp only [Prod.mk.injEq] at h; obtain ⟨h1, h2, h3, h4, h5⟩ := h
  exact stN h1 h2 (h3 ▸ .callG _ _ _ _ _ _ _ _ _ _ _ _ _ h4 h5 hx hl hv hsz hus hlk hnv)
/-- A call that may yield names. -/
theorem Gn (q : Nat) (l nv : List Nat) {rr : V} (L2 : List (Nat × Ent)) (h : (n, runs ops s o.guard, o.dst, o.op, ev s fop, evs s args.toList) = (q, some true, some d, .call { callee := .value fop, args := args, argTypes := ts }, some (.fn f caps), some vs)) (hv : VG P f xs L0 rr L1) (hr : rr.ren (nm (rho l) L0.length q) = v)
    (h3 : VList P ops r (q + (L1.length - L0.length) + 1) (setAt s d (some v)) (en L2) Q)
    (hx : Args E (rho l) L0.length nv (vs ++ caps) xs := by repeat' (first | exact Args.nil | refine Args.name _ _ _ _ rfl rfl ?_ | refine Args.val _ _ _ _ (by first | rfl | exact Rr rfl | exact Ra rfl) rfl ?_))
    (hl : Lent E (rho l) nv L0 := by refine Lent.of rfl (by decide) ?_; repeat' (first | exact trivial | refine ⟨⟨by first | exact rowK_ren' | rfl, rfl, by first | exact row_cellsK | exact cells_of rfl⟩, ?_⟩))
    (ha : AllE (fun i e => (∃ j e0, L1[j]? = some (some e0) ∧ nm (rho l) L0.length q j = i ∧ e = e0.ren (nm (rho l) L0.length q)) ∨ (upds E (nv.map (cool E)) i = some e ∧ l.contains i = false)) L2 := by
      repeat' (first | exact trivial | refine ⟨.inr ⟨rfl, rfl⟩, ?_⟩ | refine ⟨.inl ⟨0, _, rfl, rfl, by first | exact rowK_ren.symm | rfl⟩, ?_⟩ | refine ⟨.inl ⟨1, _, rfl, rfl, by first | exact rowK_ren.symm | rfl⟩, ?_⟩ | refine ⟨.inl ⟨2, _, rfl, rfl, by first | exact rowK_ren.symm | rfl⟩, ?_⟩ | refine ⟨.inl ⟨3, _, rfl, rfl, by first | exact rowK_ren.symm | rfl⟩, ?_⟩ | refine ⟨.inl ⟨4, _, rfl, rfl, by first | exact rowK_ren.symm | rfl⟩, ?_⟩ | refine ⟨.inl ⟨5, _, rfl, rfl, by first | exact rowK_ren.symm | rfl⟩, ?_⟩ | refine ⟨.inl ⟨6, _, rfl, rfl, by first | exact rowK_ren.symm | rfl⟩, ?_⟩ | refine ⟨.inl ⟨7, _, rfl, rfl, by first | exact rowK_ren.symm | rfl⟩, ?_⟩))
    (hk : l.length = L0.length := by rfl) : VList P ops (o :: r) n s E Q := by
  simp only [Prod.mk.injEq] at h; obtain ⟨rfl, h1, h2, h4, h5, h6⟩ := h
  refine VList.goV h1 h2 (h4 ▸ .mk _ _ _ _ _ _ _ _ _ _ _ nv _ (en L2) h5 h6 hx hl hv (Nat.le_succ _) (After.of hk ha)) hr h3
/-- The end of a function that is lent entries. -/
theorem Gf {fn : Func} {k : Nat} {rv r' : V} {L1 L1' : List (Option Ent)} {A : Prop} {xs : List V} (l : List Nat) (hg : ResG P s E (rho l) L1' fn.results.toList xs) (ho : ResOf xs r') (hr : r' = rv) (hL : L1' = L1)
    (h : AllO (fun j e => E (rho l j) = some (e.ren (rho l)) ∧ ∀ v ∈ e.cells, v.all1.all (fun i => decide (i < L1'.length)) = true) 0 L1' := by repeat' (first | exact trivial | refine ⟨⟨by first | exact rowK_ren' | rfl, by first | exact row_cellsK | exact cells_of rfl⟩, ?_⟩))
    (hlen : L1'.length = l.length := by rfl) (hk : k ≤ L1'.length := by exact Nat.le_of_ble_eq_true rfl) (hlow : (List.range k).all (fun i => rho l i == i) = true := by rfl) (hn : l.Nodup := by decide) (he : A := by trivial) :
    A ∧ ∃ ρ, WeakR ρ k s E L1.length (fun _ => none) (tab L1) ∧ ∃ l, ResG P s E ρ L1 fn.results.toList l ∧ ResOf l rv := by
  subst hr; subst hL
  exact ⟨he, rho l, WeakR.fin l hlen hk hlow hn h, xs, hg, ho⟩
end
end Go.VL

/- A small program logic over the translated Go code, further part: rows and slices of structs, of any length. -/
set_option linter.unusedVariables false
set_option linter.unusedSimpArgs false
namespace Go.VL
open Go.RowKit

/-- The cells of a list of structs. -/
def cellsT {α : Type} (f : α → List B) (L : List α) : List B := L.flatMap f
def rowT {α : Type} (sz : Nat) (f : α → List B) (L : List α) : Ent := ⟨sz, (cellsT f L).map .b, true⟩
abbrev slT {α : Type} (sz : Nat) (f : α → List B) (L : List α) : B := .sl sz (cellsT f L)
section
variable {α : Type} {sz : Nat} {f : α → List B} {L D : List α}
theorem cellsT_len (hf : ∀ x, (f x).length = sz) : ∀ L : List α, (cellsT f L).length = L.length * sz
  | [] => by simp [cellsT]
  | x :: r => by
    have := cellsT_len hf r
    simp only [cellsT, List.flatMap_cons, List.length_append, List.length_cons, hf] at this ⊢
    rw [this, Nat.succ_mul]; omega
theorem cellsT_at (hf : ∀ x, (f x).length = sz) {x : α} : ∀ {L : List α} {j : Nat}, L[j]? = some x → ((cellsT f L).drop (j * sz)).take sz = f x
  | [], j, h => by simp at h
  | y :: r, 0, h => by
    simp at h; subst h
    simp only [cellsT, List.flatMap_cons, Nat.zero_mul, List.drop_zero]
    rw [List.take_append_of_le_length (by rw [hf]; exact Nat.le_refl _), List.take_of_length_le (by rw [hf]; exact Nat.le_refl _)]
  | y :: r, j + 1, h => by
    have := cellsT_at hf (L := r) (j := j) (by simpa using h)
    simp only [cellsT, List.flatMap_cons] at this ⊢
    have h1 : (f y ++ List.flatMap f r).drop ((j + 1) * sz) = (List.flatMap f r).drop (j * sz) := by
      rw [List.drop_append, List.drop_of_length_le (by rw [hf, Nat.succ_mul]; omega), List.nil_append, hf, Nat.succ_mul, Nat.add_sub_cancel]
    rw [h1]
    exact this
theorem cellsT_append : cellsT f (L ++ D) = cellsT f L ++ cellsT f D := by simp [cellsT]
theorem rowT_cells {n1 : Nat} : ∀ v ∈ (rowT sz f L).cells, v.all1.all (fun i => decide (i < n1)) = true := fun v hv => by
  simp only [rowT, List.mem_map] at hv
  obtain ⟨x, _, rfl⟩ := hv
  rfl
theorem rowT_ren {ρ : Nat → Nat} : (rowT sz f L).ren ρ = rowT sz f L := by
  simp only [rowT, Ent.ren, List.map_map]; rfl
theorem rowT_ren' {ρ : Nat → Nat} : some (rowT sz f L) = some ((rowT sz f L).ren ρ) := by rw [rowT_ren]
theorem bs_map : ∀ l : List B, bs (l.map .b) = some l
  | [] => rfl
  | x :: r => by simp [bs, bs_map r]
variable {P : Program} {ops : Array Oper} {o : Oper} {r : List Oper} {n n' id : Nat} {s s' : Slots} {E E' : Env} {Q : Nat → Slots → Env → Prop} {d i : Nat} {v w u : V} {ids : List Nat}
variable {x y z p ix : Operand} {T T' el m off k : Nat} {ik ik' : IntKind} {e : Ent} {l cs : List V} {j q : Int}
theorem res_rowT (hf : ∀ x, (f x).length = sz) (he : E i = some (rowT sz f L)) (hl : L.length = m) : res E (.own i m) = some (slT sz f L) := by
  have hb : bs (rowT sz f L).cells = some (cellsT f L) := bs_map _
  show resL E (.own i m) = _
  simp only [resL, he, hb]
  have h1 : (rowT sz f L).sz = sz := rfl
  have h2 := cellsT_len hf L
  rw [h1, ← hl, if_pos (by rw [h2]; exact Nat.le_refl _), List.take_of_length_le (by rw [h2]; exact Nat.le_refl _)]
/-- An element's address. -/
theorem IT (hu : P.underlying T = some (.slice el)) (hs : szOf P el = some sz) (h : (runs ops s o.guard, o.dst, o.op, ev s x, ev s y) = (some true, some d, .indexAddr T x y, some (.own i m), some (vI ik' j))) (h0 : 0 ≤ j := by first | omega | (simp; done) | (simp; omega)) (h1 : j < m := by first | omega | (simp; done) | (simp; omega)) :
    Stp P ops o n s E (n + 1) (setAt s d (some (.ptr i (j.toNat * sz)))) E [] := by
  simp only [Prod.mk.injEq] at h; obtain ⟨h1', h2, h3, h4, h5⟩ := h
  exact st0 h1' h2 (h3 ▸ .indexOwn _ _ _ _ _ _ _ _ _ h4 h5 hu hs h0 h1)
/-- An element is loaded. -/
theorem LT (hf : ∀ x, (f x).length = sz) (ha : aggOf P T = some true) (hs : szOf P T = some sz) {j : Nat} {x : α} (h : (runs ops s o.guard, o.dst, o.op, ev s p, E i) = (some true, some d, .load T p, some (.ptr i (j * sz)), some (rowT sz f L))) (hj : L[j]? = some x) (hl : (f x).map .b = l) :
    Stp P ops o n s E (n + 1) (setAt s d (some (.agg l))) E [] := by
  simp only [Prod.mk.injEq] at h; obtain ⟨h1, h2, h3, h4, h5⟩ := h
  subst hl
  have hlt := (List.getElem?_eq_some_iff.1 hj).1
  have hle : j * sz + sz ≤ (rowT sz f L).cells.length := by
    simp only [rowT, List.length_map, cellsT_len hf]
    rw [← Nat.succ_mul]; exact Nat.mul_le_mul_right _ hlt
  have := Eff.loadS (P := P) (id := n) T p i (j * sz) _ sz h4 h5 ha hs hle
  have e : ((rowT sz f L).cells.drop (j * sz)).take sz = (f x).map .b := by
    simp only [rowT, ← List.map_drop, ← List.map_take, cellsT_at hf hj]
  rw [e] at this
  exact st0 h1 h2 (h3 ▸ this)
theorem L1T (hf : ∀ x, (f x).length = 1) (ha : aggOf P T = some false) {j : Nat} {x : α} {b : B} (h : (runs ops s o.guard, o.dst, o.op, ev s p, E i) = (some true, some d, .load T p, some (.ptr i (j * 1)), some (rowT 1 f L))) (hj : L[j]? = some x) (hl : f x = [b]) :
    Stp P ops o n s E (n + 1) (setAt s d (some (.b b))) E [] := by
  simp only [Prod.mk.injEq] at h; obtain ⟨h1, h2, h3, h4, h5⟩ := h
  have e := cellsT_at hf hj
  rw [hl] at e
  have h0 : (rowT 1 f L).cells[j * 1]? = some (.b b) := by
    simp only [rowT, List.getElem?_map]
    have : ((cellsT f L).drop (j * 1))[0]? = some b := by
      have h2 : (((cellsT f L).drop (j * 1)).take 1)[0]? = some b := by rw [e]; rfl
      rwa [List.getElem?_take_of_lt (by decide)] at h2
    rw [List.getElem?_drop, Nat.add_zero] at this
    rw [this]; rfl
  exact st0 h1 h2 (h3 ▸ .load1 _ _ _ _ _ _ h4 h5 ha h0)
/-- A first element. -/
theorem An1 (q : Nat) {by' : Nat} {e2 : Ent} (hu : P.underlying T = some (.slice el)) (hs : szOf P el = some sz) (hb : (P.info? el).map (·.bytes) = some by') (hz : (zeroOf P el).map List.length = some sz) {x1 : α}
    (h : (runs ops s o.guard, o.dst, o.op, ev s x, ev s y, E i, e2.cells, e2.sz, n) = (some true, some d, .call { callee := .builtin .append, args := #[x, y], argTypes := #[T, T] }, some (.b .nil), some (.own i 1), some e2, (f x1).map .b, sz, q)) (hf : ∀ x, (f x).length = sz) (hm : by' ≤ 140737488355328 := by decide) :
    Stp P ops o n s E (q + 1) (setAt s d (some (.own q 1))) (setAt E q (some (rowT sz f [x1]))) [q] := by
  simp only [Prod.mk.injEq] at h; obtain ⟨h1, h2, h3, h4, h5, h6, h7, rfl, rfl⟩ := h
  have hl : e2.cells.length = e2.sz := by rw [h7, List.length_map, hf]
  have := Eff.appendNO (P := P) (id := n) (E := E) x y T el i 1 e2 by' h4 h5 h6 (by rw [hl, Nat.one_mul]; exact Nat.le_refl _) (by decide) hu hs hb hz (by rw [Nat.one_mul]; exact hm) (by decide)
  rw [Nat.one_mul, List.take_of_length_le (by rw [hl]; exact Nat.le_refl _), h7] at this
  have e : (⟨e2.sz, (f x1).map .b, true⟩ : Ent) = rowT e2.sz f [x1] := by simp [rowT, cellsT]
  rw [e] at this
  exact st1 h1 h2 (h3 ▸ this)
/-- A further element. -/
theorem Ao1 (q : Nat) {by' i2 : Nat} {e2 : Ent} (hu : P.underlying T = some (.slice el)) (hs : szOf P el = some sz) (hb : (P.info? el).map (·.bytes) = some by') (hz : (zeroOf P el).map List.length = some sz) {x1 : α}
    (h : (runs ops s o.guard, o.dst, o.op, ev s x, E i, ev s y, E i2, e2.cells, e2.sz, Nat.beq i2 i, n) = (some true, some d, .call { callee := .builtin .append, args := #[x, y], argTypes := #[T, T] }, some (.own i m), some (rowT sz f L), some (.own i2 1), some e2, (f x1).map .b, sz, false, q)) (hf : ∀ x, (f x).length = sz)
    (hl : L.length = m := by first | omega | (simp; done) | (simp; omega)) (hm : (m + 1) * by' ≤ 140737488355328 ∧ m + 1 ≤ maxLen := by first | (simp [maxLen]; done) | (simp [maxLen]; omega) | (simp only [maxLen]; omega)) :
    Stp P ops o n s E (q + 1) (setAt s d (some (.own q (m + 1)))) (setAt (setAt E i none) q (some (rowT sz f (L ++ [x1])))) [i, q] := by
  simp only [Prod.mk.injEq] at h; obtain ⟨h1, h2, h3, h4, h5, h6, h7, h8, h9, h10, rfl⟩ := h
  have hne : i2 ≠ i := fun e => by rw [e] at h10; simp at h10
  have hl2 : e2.cells.length = sz := by rw [h8, List.length_map, hf]
  have := Eff.appendOO (P := P) (id := n) x y T el i m (rowT sz f L) i2 1 e2 by' h4 h5 rfl (by simp only [rowT, List.length_map, cellsT_len hf, hl]) h6 h7 h9 (by show 1 * sz ≤ _; rw [Nat.one_mul, hl2]; exact Nat.le_refl _) hne (by decide) hu hs hb hz hm.1 hm.2
  have e : (⟨(rowT sz f L).sz, (rowT sz f L).cells ++ e2.cells.take (1 * (rowT sz f L).sz), true⟩ : Ent) = rowT sz f (L ++ [x1]) := by
    have h11 : e2.cells.take (1 * sz) = (f x1).map .b := by rw [Nat.one_mul, List.take_of_length_le (by rw [hl2]; exact Nat.le_refl _), h8]
    show (⟨sz, (cellsT f L).map .b ++ e2.cells.take (1 * sz), true⟩ : Ent) = _
    rw [h11, rowT, cellsT_append, List.map_append]
    simp [cellsT]
  rw [e] at this
  exact st2 h1 h2 (h3 ▸ this)
/-- Slices of structs by value. -/
theorem Lst (hf : ∀ x, (f x).length = sz) (hu : P.underlying T = some (.slice el)) (h : (runs ops s o.guard, o.dst, o.op, ev s x) = (some true, some d, .call { callee := .builtin .len, args := #[x], argTypes := #[T] }, some (.b (slT sz f L)))) (h0 : 0 < sz := by decide) : Stp P ops o n s E (n + 1) (setAt s d (some (vI .i64 L.length))) E [] := by
  simp only [Prod.mk.injEq] at h; exact st0 h.1 h.2.1 (h.2.2.1 ▸ .len _ _ _ _ _ h.2.2.2 hu (by simp only [V.len, cellsT_len hf, Nat.mul_div_cancel _ h0]))
theorem IxT (hf : ∀ x, (f x).length = sz) (hu : P.underlying T = some (.slice el)) (hs : szOf P el = some sz) {xx : α} {l : List B} (h : (runs ops s o.guard, o.dst, o.op, ev s x, ev s y) = (some true, some d, .indexAddr T x y, some (.b (slT sz f L)), some (vI ik' j))) (h0 : 0 ≤ j) (hj : L[j.toNat]? = some xx) (hl : f xx = l) :
    Stp P ops o n s E (n + 1) (setAt s d (some (.rd l))) E [] := by
  simp only [Prod.mk.injEq] at h; obtain ⟨h1, h2, h3, h4, h5⟩ := h
  subst hl
  have hlt := (List.getElem?_eq_some_iff.1 hj).1
  have := Eff.indexSl (P := P) (id := n) (E := E) T x y sz (cellsT f L) ik' j el h4 h5 hu hs h0 (by rw [cellsT_len hf]; exact Nat.mul_le_mul_right _ hlt)
  rw [cellsT_at hf hj] at this
  exact st0 h1 h2 (h3 ▸ this)
end
/-- Less is told, with rows of structs. -/
theorem Wt {k n1 : Nat} {s : Slots} {E : Env} {S1 : List (Nat × V)} {L1 : List (Nat × Ent)} (l : List (Nat × Nat))
    (hlow : (List.range k).all (fun i => rl l i == i) = true := by rfl) (hinj : (L1.map (·.1)).all (fun i => (L1.map (·.1)).all fun j => !(rl l i == rl l j) || i == j) = true := by rfl)
    (h1 : AllS (fun t x => s t = some (x.ren (rl l)) ∧ x.all.all (fun i => decide (i < n1)) = true) S1 := by repeat' (first | exact trivial | refine ⟨⟨rfl, rfl⟩, ?_⟩))
    (h2 : AllE (fun i e => E (rl l i) = some (e.ren (rl l)) ∧ i < n1 ∧ ∀ v ∈ e.cells, v.all1.all (fun i => decide (i < n1)) = true) L1 := by repeat' (first | exact trivial | refine ⟨⟨by first | exact rowK_ren' | exact rowT_ren' | rfl, Nat.le_of_ble_eq_true rfl, by first | exact row_cellsK | exact rowT_cells | exact cells_of rfl⟩, ?_⟩)) (hk : k ≤ n1 := by exact Nat.le_of_ble_eq_true rfl) : Weak k s E n1 (sl S1) (en L1) :=
  Weak.ofR (rl l) hk hlow hinj h1 h2
theorem gd {α : Type} {L : List α} {j : Nat} {d : α} (h : j < L.length) : L[j]? = some (L.getD j d) := by simp [List.getD_eq_getElem?_getD, h]
end Go.VL

/- From contracts by value to the given statements: opening arguments of any type of numbers, texts, slices and structs. -/
set_option linter.unusedVariables false
set_option linter.unusedSimpArgs false
namespace Go.VL
open Go.ChangeShapes Go.WideShapes Go.ChangeAt Go.RowKit Go.ChangeMaps
section
variable {H : Type} {enc : TypeId × Value → H} {P : Program} {W : World}
/-- Cells of this type stand for values of this shape. -/
def Opens (enc : TypeId × Value → H) (P : Program) (W : World) (T : TypeId) (n : Nat) (Sh : List B → Prop) : Prop :=
  P.cellsOf T = n ∧ ∀ (fuel : Nat) (l : List Value) (d : DataW H × List MemPlace), l.length = n → DataW.trod enc P W 0 (fun _ => true) true fuel T l = some d →
    ∃ bs : List B, bs.length = n ∧ Sh bs ∧ ∀ (j : Nat) (x : B), bs[j]? = some x → ∃ u, l[j]? = some u ∧ u.oneCell' = true ∧ RepB W (fun _ => True) x u
theorem Opens.one {T : TypeId} {b : B} {v : Value} {Sh : List B → Prop} (h1 : v.oneCell' = true) (h2 : RepB W (fun _ => True) b v) (h3 : Sh [b]) :
    ∃ bs : List B, bs.length = 1 ∧ Sh bs ∧ ∀ (j : Nat) (x : B), bs[j]? = some x → ∃ u, [v][j]? = some u ∧ u.oneCell' = true ∧ RepB W (fun _ => True) x u := by
  refine ⟨[b], rfl, h3, fun j x hj => ?_⟩
  match j, hj with
  | 0, hj => injection hj with hj; subst hj; exact ⟨v, rfl, h1, h2⟩
theorem Opens.int {T : TypeId} {k : IntKind} (hc : P.cellsOf T = 1) (hu : P.underlying T = some (.int k)) : Opens enc P W T 1 (fun bs => ∃ z, bs = [numB k z] ∧ (Lit.int k z).wf = true) := by
  refine ⟨hc, fun fuel l d hl h => ?_⟩
  obtain ⟨z, rfl, rfl, hw⟩ := DataW.trod_int hu h
  exact Opens.one (T := T) rfl (.lit _ rfl) ⟨z, rfl, hw⟩
theorem Opens.bool {T : TypeId} (hc : P.cellsOf T = 1) (hu : P.underlying T = some .bool) : Opens enc P W T 1 (fun bs => ∃ z, bs = [boolB z]) := by
  refine ⟨hc, fun fuel l d hl h => ?_⟩
  obtain ⟨z, rfl, rfl⟩ := DataW.trod_bool hu h
  exact Opens.one (T := T) rfl (.lit _ rfl) ⟨z, rfl⟩
theorem Opens.str {T : TypeId} (hc : P.cellsOf T = 1) (hu : P.underlying T = some .string) : Opens enc P W T 1 (fun bs => ∃ z : ByteArray, bs = [.lit (.string z)] ∧ z.size ≤ maxLen) := by
  refine ⟨hc, fun fuel l d hl h => ?_⟩
  obtain ⟨z, rfl, rfl, hz⟩ := DataW.trod_string hu h
  exact Opens.one (T := T) rfl (.lit _ rfl) ⟨z, rfl, hz⟩
theorem flat_get {α : Type} {n : Nat} (h0 : 0 < n) : ∀ {L : List (List α)}, (∀ x ∈ L, x.length = n) → ∀ (j : Nat) (y : α), L.flatten[j]? = some y → ∃ x, L[j / n]? = some x ∧ x[j % n]? = some y
  | [], _, j, y, h => by simp at h
  | x :: r, hx, j, y, h => by
    have hl := hx x (by simp)
    rw [List.flatten_cons] at h
    by_cases hj : j < n
    · rw [List.getElem?_append_left (by omega)] at h
      exact ⟨x, by rw [Nat.div_eq_of_lt hj]; rfl, by rw [Nat.mod_eq_of_lt hj]; exact h⟩
    · rw [List.getElem?_append_right (by omega), hl] at h
      obtain ⟨z, h1, h2⟩ := flat_get h0 (fun z hz => hx z (by simp [hz])) (j - n) y h
      refine ⟨z, ?_, ?_⟩
      · have : j / n = (j - n) / n + 1 := by
          have := Nat.sub_add_cancel (show n ≤ j by omega)
          conv => lhs; rw [← this]
          exact Nat.add_div_right _ h0
        rw [this]; exact h1
      · rw [← Nat.mod_eq_sub_mod (by omega)] at h2
        exact h2
theorem flat_len {α : Type} {n : Nat} : ∀ {L : List (List α)}, (∀ x ∈ L, x.length = n) → L.flatten.length = L.length * n
  | [], _ => by simp
  | x :: r, hx => by
    have := flat_len (fun z hz => hx z (by simp [hz] : z ∈ x :: r)) (L := r)
    rw [List.flatten_cons, List.length_append, hx x (by simp), this, List.length_cons, Nat.succ_mul]; omega
/-- A slice's shape. -/
def ShS (n : Nat) (Sh : List B → Prop) (bs : List B) : Prop := ∃ L : List (List B), bs = [.sl n L.flatten] ∧ (∀ x ∈ L, x.length = n ∧ Sh x) ∧ L.length ≤ maxLen
theorem Opens.slice {T el : TypeId} {n : Nat} {Sh : List B → Prop} (hc : P.cellsOf T = 1) (hu : P.underlying T = some (.slice el)) (h0 : 0 < n) (h : Opens enc P W el n Sh) : Opens enc P W T 1 (ShS n Sh) := by
  obtain ⟨hce, h⟩ := h
  refine ⟨hc, fun fuel l d hl ht => ?_⟩
  rcases DataW.trod_slice hu ht with ⟨rfl, _⟩ | ⟨a, len, cap, elems, rest, m, _, rfl, rfl, hb, hlc, hm, hlen, hel, _, _⟩
  · exact Opens.one (T := T) rfl (.nilsl n h0) ⟨[], rfl, ⟨(fun x hx => absurd hx (by simp)), Nat.zero_le _⟩⟩
  · rw [hce] at hel
    have key : ∀ i, i < len → ∃ bs : List B, bs.length = n ∧ Sh bs ∧ ∀ (j : Nat) (x : B), bs[j]? = some x → ∃ u, W.cell? (a.add (i * n + j)) = some u ∧ u.oneCell' = true ∧ RepB W (fun _ => True) x u := fun i hi => by
      have h1 := hel i hi
      have h2 : elems[i]? = some elems[i] := List.getElem?_eq_getElem (by omega)
      rw [h2, Option.bind_eq_some_iff] at h1
      obtain ⟨cs, hcs, hcs2⟩ := h1
      obtain ⟨_, k2, k3⟩ := World.cells?_some hcs
      obtain ⟨bs, b1, b2, b3⟩ := h _ _ _ k2 hcs2
      refine ⟨bs, b1, b2, fun j x hj => ?_⟩
      obtain ⟨u, u1, u2, u3⟩ := b3 j x hj
      have hjn : j < n := by rw [← b1]; exact (List.getElem?_eq_some_iff.1 hj).1
      exact ⟨u, by rw [← Addr.add_add, k3 j hjn]; exact u1, u2, u3⟩
    let F : Nat → List B := fun i => if hi : i < len then Classical.choose (key i hi) else []
    have hF : ∀ i (hi : i < len), (F i).length = n ∧ Sh (F i) ∧ ∀ (j : Nat) (x : B), (F i)[j]? = some x → ∃ u, W.cell? (a.add (i * n + j)) = some u ∧ u.oneCell' = true ∧ RepB W (fun _ => True) x u := fun i hi => by
      have e : F i = Classical.choose (key i hi) := dif_pos hi
      rw [e]; exact Classical.choose_spec (key i hi)
    have hall : ∀ x ∈ (List.range len).map F, x.length = n ∧ Sh x := fun x hx => by
      obtain ⟨i, hi, rfl⟩ := List.mem_map.1 hx
      have := hF i (List.mem_range.1 hi)
      exact ⟨this.1, this.2.1⟩
    have hfl := flat_len (fun x hx => (hall x hx).1)
    have cells : ∀ (j : Nat) (x : B), (((List.range len).map F).flatten)[j]? = some x → ∃ u, W.cell? (a.add j) = some u ∧ u.oneCell' = true ∧ RepB W (fun _ => True) x u := fun j x hj => by
      obtain ⟨z, z1, z2⟩ := flat_get h0 (fun x hx => (hall x hx).1) j x hj
      rw [List.getElem?_map] at z1
      obtain ⟨i, hi, rfl⟩ := Option.map_eq_some_iff.1 z1
      have hi2 := List.getElem?_eq_some_iff.1 hi
      obtain ⟨hi3, hi4⟩ := hi2
      rw [List.getElem_range] at hi4
      rw [List.length_range] at hi3
      subst hi4
      obtain ⟨u, u1, u2, u3⟩ := (hF _ hi3).2.2 (j % n) x z2
      rw [Nat.mul_comm, Nat.div_add_mod] at u1
      exact ⟨u, u1, u2, u3⟩
    refine Opens.one (T := T) rfl (b := .sl n ((List.range len).map F).flatten) ?_ ⟨(List.range len).map F, rfl, hall, by simp; omega⟩
    let u : Nat → Value := fun j => ((W.cell? (a.add j)).getD undef)
    have hu' : ∀ j x, (((List.range len).map F).flatten)[j]? = some x → W.cell? (a.add j) = some (u j) ∧ (u j).oneCell' = true ∧ RepB W (fun _ => True) x (u j) := fun j x hj => by
      obtain ⟨v, v1, v2, v3⟩ := cells j x hj
      have e : u j = v := by simp only [u, v1, Option.getD_some]
      rw [e]; exact ⟨v1, v2, v3⟩
    exact .sl a len cap n _ u (by rw [hfl]; simp) hlc hm h0 (fun _ => trivial) (fun j hj => (hu' j _ (List.getElem?_eq_getElem hj)).1) (fun j hj => (hu' j _ (List.getElem?_eq_getElem hj)).2.1) (fun j x hj => (hu' j x hj).2.2)
/-- A struct's fields, their places and shapes. -/
def FieldsOpen (enc : TypeId × Value → H) (P : Program) (W : World) (fs : Array Field) : Nat → Nat → List (TypeId × Nat × (List B → Prop)) → Prop
  | _, _, [] => True
  | i, off, (T, m, Sh) :: r => (fs[i]?.map fun f => (f.type, f.offset)) = some (T, off) ∧ Opens enc P W T m Sh ∧ FieldsOpen enc P W fs (i + 1) (off + m) r
def ShF : List (TypeId × Nat × (List B → Prop)) → List B → Prop
  | [], bs => bs = []
  | (_, m, Sh) :: r, bs => ∃ b1 b2, bs = b1 ++ b2 ∧ b1.length = m ∧ Sh b1 ∧ ShF r b2
def tot : List (TypeId × Nat × (List B → Prop)) → Nat
  | [] => 0
  | (_, m, _) :: r => m + tot r
theorem fields_open {fs : Array Field} {fuel : Nat} {l : List Value} {xs : List (DataW H × List MemPlace)} (hx : xs.length = fs.size)
    (h : ∀ (i : Nat) (f : Field), fs[i]? = some f → DataW.trod enc P W 0 (fun _ => true) true fuel f.type ((l.drop f.offset).take (P.cellsOf f.type)) = xs[i]?) :
    ∀ (r : List (TypeId × Nat × (List B → Prop))) (i off : Nat), off + tot r ≤ l.length → FieldsOpen enc P W fs i off r →
      ∃ bs : List B, bs.length = tot r ∧ ShF r bs ∧ ∀ (j : Nat) (x : B), bs[j]? = some x → ∃ u, l[off + j]? = some u ∧ u.oneCell' = true ∧ RepB W (fun _ => True) x u
  | [], i, off, hl, hf => ⟨[], rfl, rfl, fun j x hj => by simp at hj⟩
  | (T, m, Sh) :: r, i, off, hl, hf => by
    obtain ⟨h1, ⟨hc, h2⟩, h3⟩ := hf
    simp only [tot] at hl
    obtain ⟨f, hf1, hf2⟩ := Option.map_eq_some_iff.1 h1
    injection hf2 with e1 e2
    subst e1; subst e2
    have hi : i < xs.length := by rw [hx]; exact (Array.getElem?_eq_some_iff.1 hf1).1
    have h4 := h i f hf1
    rw [List.getElem?_eq_getElem hi, hc] at h4
    obtain ⟨b1, k1, k2, k3⟩ := h2 _ _ _ (by simp; omega) h4
    obtain ⟨b2, g1, g2, g3⟩ := fields_open hx h r (i + 1) (f.offset + m) (by omega) h3
    refine ⟨b1 ++ b2, by simp [tot, k1, g1], ⟨b1, b2, rfl, k1, k2, g2⟩, fun j x hj => ?_⟩
    by_cases hjm : j < m
    · rw [List.getElem?_append_left (by omega)] at hj
      obtain ⟨u, u1, u2⟩ := k3 j x hj
      rw [List.getElem?_take_of_lt hjm, List.getElem?_drop] at u1
      exact ⟨u, u1, u2⟩
    · rw [List.getElem?_append_right (by omega), k1] at hj
      obtain ⟨u, u1, u2⟩ := g3 (j - m) x hj
      rw [show f.offset + m + (j - m) = f.offset + j by omega] at u1
      exact ⟨u, u1, u2⟩
theorem Opens.struct {T : TypeId} {fs : Array Field} {n : Nat} (r : List (TypeId × Nat × (List B → Prop))) (hc : P.cellsOf T = n) (hu : P.underlying T = some (.struct fs)) (hn : tot r = n) (hf : FieldsOpen enc P W fs 0 0 r) : Opens enc P W T n (ShF r) := by
  refine ⟨hc, fun fuel l d hl h => ?_⟩
  obtain ⟨xs, m, rfl, hx, hlen, hxl, hxs⟩ := DataW.trod_struct hu h
  obtain ⟨bs, b1, b2, b3⟩ := fields_open hxl hxs r 0 0 (by omega) hf
  exact ⟨bs, by omega, b2, fun j x hj => by simpa using b3 j x hj⟩
/-- An argument that is a struct. -/
theorem Opens.topAgg {T : TypeId} {fs : Array Field} {n : Nat} {Sh : List B → Prop} {v : Value} {d : DataW H} {p : List MemPlace} (h : Opens enc P W T n Sh) (hu : P.underlying T = some (.struct fs)) (hval : Value.okWide P W .any 0 T v)
    (ht : DataW.Trod enc P W 0 (fun _ => true) true T v d p) : ∃ bs : List B, RepB W (fun _ => True) (.agg bs) v ∧ Sh bs := by
  obtain ⟨cs, rfl, hsz⟩ := okWide_struct hu hval
  obtain ⟨fuel, hf⟩ := ht
  obtain ⟨hc, h⟩ := h
  rw [hc] at hsz
  obtain ⟨bs, b1, b2, b3⟩ := h fuel cs.toList _ (by simpa using hsz) hf
  refine ⟨bs, .agg bs cs (fun j => (cs[j]?).getD undef) (by omega) (fun j hj => ?_) (fun j hj => ?_) (fun j x hj => ?_), b2⟩
  · have : j < cs.size := by omega
    simp [Array.getElem?_eq_getElem this]
  · obtain ⟨u, u1, u2, _⟩ := b3 j _ (List.getElem?_eq_getElem hj)
    rw [Array.getElem?_toList] at u1
    simp only [u1, Option.getD_some]; exact u2
  · obtain ⟨u, u1, _, u3⟩ := b3 j x hj
    rw [Array.getElem?_toList] at u1
    simp only [u1, Option.getD_some]; exact u3
/-- An argument that is a slice. -/
theorem Opens.topSlice {T el : TypeId} {n : Nat} {Sh : List B → Prop} {v : Value} {d : DataW H} {p : List MemPlace} (h : Opens enc P W T 1 (ShS n Sh)) (hu : P.underlying T = some (.slice el)) (hval : Value.okWide P W .any 0 T v)
    (ht : DataW.Trod enc P W 0 (fun _ => true) true T v d p) : ∃ L : List (List B), RepB W (fun _ => True) (.sl n L.flatten) v ∧ (∀ x ∈ L, x.length = n ∧ Sh x) ∧ L.length ≤ maxLen := by
  have hv : v.cells = #[v] := by
    cases v with
    | agg cs => simp [Value.okWide, hu, Cell.okWide, Cell.ok] at hval
    | _ => rfl
  obtain ⟨fuel, hf⟩ := ht
  obtain ⟨hc, h⟩ := h
  rw [hv] at hf
  obtain ⟨bs, b1, ⟨L, rfl, l1, l2⟩, b3⟩ := h fuel [v] _ rfl hf
  obtain ⟨u, u1, _, u3⟩ := b3 0 _ rfl
  injection u1 with u1
  subst u1
  exact ⟨L, u3, l1, l2⟩
end
/-- Elements as such. -/
theorem as_map {α : Type} {Sh : List B → Prop} {f : α → List B} {ok : α → Prop} (h : ∀ x, Sh x → ∃ a, x = f a ∧ ok a) : ∀ {L : List (List B)}, (∀ x ∈ L, Sh x) → ∃ A : List α, L.flatten = cellsT f A ∧ A.length = L.length ∧ ∀ a ∈ A, ok a
  | [], _ => ⟨[], rfl, rfl, fun a ha => by cases ha⟩
  | x :: r, hx => by
    obtain ⟨a, rfl, ha⟩ := h x (hx x (by simp))
    obtain ⟨A, h1, h2, h3⟩ := as_map h (L := r) (fun z hz => hx z (by simp [hz]))
    refine ⟨a :: A, by simp [cellsT, h1], by simp [h2], fun b hb => ?_⟩
    rcases List.mem_cons.1 hb with rfl | hb
    · exact ha
    · exact h3 b hb
end Go.VL

/- A small program logic over the translated Go code, further part: short steps for pointers, windows and cuts; values told by their contents between regions. -/
set_option linter.unusedVariables false
namespace Go.VL
section
variable {P : Program} {ops : Array Oper} {o : Oper} {k n n1 id : Nat} {s : Slots} {E : Env} {X : VExit → Nat → Slots → Env → Prop}
/-- Cells side by side. -/
def Two (p : V → V → Prop) : List V → List V → Prop
  | [], [] => True
  | x :: l, y :: m => p x y ∧ Two p l m
  | _, _ => False
theorem Two.len {p : V → V → Prop} : ∀ {l m : List V}, Two p l m → m.length = l.length
  | [], [], _ => rfl
  | x :: l, y :: m, h => by simp [Two.len h.2]
  | [], _ :: _, h => h.elim
  | _ :: _, [], h => h.elim
theorem Two.get {p : V → V → Prop} : ∀ {l m : List V}, Two p l m → ∀ (j : Nat) (y : V), m[j]? = some y → ∃ x, l[j]? = some x ∧ p x y
  | [], [], _, j, y, h => by simp at h
  | x :: l, y' :: m, h, 0, y, hj => by
    simp at hj; subst hj; exact ⟨x, rfl, h.1⟩
  | x :: l, y' :: m, h, j + 1, y, hj => by simpa using Two.get h.2 j y (by simpa using hj)
  | [], _ :: _, h, _, _, _ => h.elim
  | _ :: _, [], h, _, _, _ => h.elim
theorem Two.same {p : V → V → Prop} (hp : ∀ x, p x x) : ∀ l : List V, Two p l l
  | [] => trivial
  | x :: l => ⟨hp x, Two.same hp l⟩
/-- Between regions: entries are cooled, values told by their contents. -/
theorem Weak.conv {nv : List Nat} {S1 : List (Nat × V)} {L1 : List (Nat × Ent)}
    (h1 : AllS (fun t y => (∃ x, s t = some x ∧ ConvV (upds E (nv.map (cool E))) x y) ∧ y.all.all (fun i => decide (i < n1)) = true) S1)
    (h2 : AllE (fun i e1 => (∃ e, upds E (nv.map (cool E)) i = some e ∧ e1.sz = e.sz ∧ e1.hot = e.hot ∧ Two (ConvV (upds E (nv.map (cool E)))) e.cells e1.cells) ∧ i < n1 ∧ ∀ v ∈ e1.cells, v.all1.all (fun i => decide (i < n1)) = true) L1)
    (hk : k ≤ n1) : Weak k s E n1 (sl S1) (en L1) := by
  refine .inr ⟨nv, sl S1, en L1, fun i => i, ⟨fun t y ht => ?_, fun i e1 he => ?_⟩, hk, fun _ _ => rfl, fun t x ht => ?_, fun i e he => ?_, fun i j e e' _ _ h => h⟩
  · exact (h1.get _ (lookup_mem ht)).1
  · obtain ⟨⟨e, q1, q2, q3, q4⟩, _⟩ := h2.get _ (lookup_mem he)
    exact ⟨e, q1, q2, q3, q4.len, q4.get⟩
  · obtain ⟨_, a2⟩ := h1.get _ (lookup_mem ht)
    exact ⟨by rw [V.ren_id]; exact ht, fun i hi => by simpa using List.all_eq_true.1 a2 i hi⟩
  · obtain ⟨_, a2, a3⟩ := h2.get _ (lookup_mem he)
    exact ⟨by rw [Ent.ren_id]; exact he, a2, fun v hv j hj => by simpa using List.all_eq_true.1 (a3 v hv) j hj⟩
section
variable {d i off m : Nat} {p x y lo hi mx : Operand} {T T' te el : TypeId} {t : Bool} {ik ik' ik'' : IntKind} {a b : Int} {sz : Nat} {l : List B}
theorem Nk (h : (runs ops s o.guard, o.dst, o.op, ev s p) = (some true, some d, .nilCheck p, some (.ptr i off))) : Stp P ops o n s E (n + 1) (setAt s d (some (.ptr i off))) E [] := by
  simp only [Prod.mk.injEq] at h; exact st0 h.1 h.2.1 (h.2.2.1 ▸ .nilCheck _ _ _ h.2.2.2)
theorem Pe (hu : P.underlying T = some (.pointer te)) (h : (runs ops s o.guard, o.dst, o.op, ev s x) = (some true, some d, .binOp .eql T x (.const (.pointer none)) T', some (.ptr i off))) : Stp P ops o n s E (n + 1) (setAt s d (some (vB false))) E [] := by
  simp only [Prod.mk.injEq] at h; exact st0 h.1 h.2.1 (h.2.2.1 ▸ .ptrNil _ _ _ _ _ _ _ _ _ h.2.2.2 rfl hu (.inl ⟨rfl, rfl⟩))
theorem Pf (hu : P.underlying T = some (.pointer te)) (h : (runs ops s o.guard, o.dst, o.op, ev s x) = (some true, some d, .binOp .neq T x (.const (.pointer none)) T', some (.ptr i off))) : Stp P ops o n s E (n + 1) (setAt s d (some (vB true))) E [] := by
  simp only [Prod.mk.injEq] at h; exact st0 h.1 h.2.1 (h.2.2.1 ▸ .ptrNil _ _ _ _ _ _ _ _ _ h.2.2.2 rfl hu (.inr ⟨rfl, rfl⟩))
theorem Pg (hu : P.underlying T = some (.pointer te)) (h : (runs ops s o.guard, o.dst, o.op, ev s x) = (some true, some d, .binOp .eql T x (.const (.pointer none)) T', some (.b (.lit (.pointer none))))) : Stp P ops o n s E (n + 1) (setAt s d (some (vB true))) E [] := by
  simp only [Prod.mk.injEq] at h; exact st0 h.1 h.2.1 (h.2.2.1 ▸ .nilNil _ _ _ _ _ _ _ h.2.2.2 rfl hu (.inl ⟨rfl, rfl⟩))
theorem Ph (hu : P.underlying T = some (.pointer te)) (h : (runs ops s o.guard, o.dst, o.op, ev s x) = (some true, some d, .binOp .neq T x (.const (.pointer none)) T', some (.b (.lit (.pointer none))))) : Stp P ops o n s E (n + 1) (setAt s d (some (vB false))) E [] := by
  simp only [Prod.mk.injEq] at h; exact st0 h.1 h.2.1 (h.2.2.1 ▸ .nilNil _ _ _ _ _ _ _ h.2.2.2 rfl hu (.inr ⟨rfl, rfl⟩))
end
section
variable {d i off m q : Nat} {p x y lo hi mx : Operand} {T T' te el : TypeId} {t : Bool} {ik ik' ik'' : IntKind} {a b : Int} {sz : Nat} {l l' : List B}
theorem Sw (hu : P.underlying T = some (.slice el)) (hs : szOf P el = some 1) (h : (runs ops s o.guard, o.dst, o.op, ev s x, ev s lo, ev s hi, ev s mx) = (some true, some d, .slice T x (some lo) (some hi) (some mx), some (.own i m), some (vI ik a), some (vI ik' b), some (vI ik'' b)))
    (h0 : 0 ≤ a := by first | omega | (simp; done) | (simp; omega)) (h1 : a < b := by first | omega | (simp; done) | (simp; omega)) (h2 : b ≤ m := by first | omega | (simp; done) | (simp; omega)) (h3 : b - a ≤ 9223372036854775807 := by first | omega | (simp; done) | (simp; omega)) :
    Stp P ops o n s E (n + 1) (setAt s d (some (.win i a.toNat (b - a).toNat))) E [] := by
  simp only [Prod.mk.injEq] at h
  exact st0 h.1 h.2.1 (h.2.2.1 ▸ .slWin _ _ _ _ _ _ _ _ _ _ _ _ _ h.2.2.2.1 h.2.2.2.2.1 h.2.2.2.2.2.1 h.2.2.2.2.2.2 hu hs h0 h1 h2 (by simp only [maxLen]; omega))
theorem Cu (hu : P.underlying T = some (.slice el)) (hs : szOf P el = some sz) (h : (runs ops s o.guard, o.dst, o.op, ev s x, ev s hi, ev s mx) = (some true, some d, .slice T x none (some hi) (some mx), some (.b (.sl sz l)), some (vI ik b), some (vI ik' b)))
    (hl : l.take (b.toNat * sz) = l') (h0 : 0 ≤ b := by first | omega | (simp; done) | (simp; omega)) (h2 : b.toNat * sz ≤ l.length := by first | omega | (simp; done) | (simp; omega)) : Stp P ops o n s E (n + 1) (setAt s d (some (.cut sz l'))) E [] := by
  simp only [Prod.mk.injEq] at h
  subst hl
  exact st0 h.1 h.2.1 (h.2.2.1 ▸ .cutSl _ _ _ _ _ _ _ _ _ _ h.2.2.2.1 h.2.2.2.2.1 h.2.2.2.2.2 hu hs h0 h2)
theorem Cw {e : Ent} {v : V} (hu : P.underlying T = some (.slice el)) (hs : szOf P el = some 1) (h : (runs ops s o.guard, o.dst, o.op, ev s x, ev s y, E i) = (some true, some d, .call { callee := .builtin .copy, args := #[x, y], argTypes := #[T, T'] }, some (.win i off m), some v, some e))
    (hr : res E v = some (.sl 1 l)) (h1 : e.sz = 1) (hh : e.hot = true) (hn : off + m ≤ e.cells.length) (hlit : l.all B.isLit = true) :
    Stp P ops o n s E (n + 1) (setAt s d (some (vI .i64 (Nat.min l.length m)))) (setAt E i (some { e with cells := e.cells.take off ++ ((l.take (Nat.min l.length m)).map .b ++ e.cells.drop (off + Nat.min l.length m)) })) [i] := by
  simp only [Prod.mk.injEq] at h
  exact st1 h.1 h.2.1 (h.2.2.1 ▸ .copyWin _ _ _ _ _ _ _ _ _ _ _ h.2.2.2.1 h.2.2.2.2.2 hh h1 hn h.2.2.2.2.1 hr hu hs hlit)
theorem Ac {j m' : Nat} {e2 : Ent} {bytes : Nat} (q : Nat) (hu : P.underlying T = some (.slice el)) (hs : szOf P el = some sz) (hb : (P.info? el).map (·.bytes) = some bytes) (hz : (zeroOf P el).map List.length = some sz)
    (h : (n, runs ops s o.guard, o.dst, o.op, ev s x, ev s y, E j) = (q, some true, some d, .call { callee := .builtin .append, args := #[x, y], argTypes := #[T, T] }, some (.cut sz l), some (.own j m'), some e2))
    (hn : l.length = m * sz) (hsz : e2.sz = sz) (hm2 : m' * sz ≤ e2.cells.length) (h0 : 0 < m') (hm : (m + m') * bytes ≤ 140737488355328) (hm' : m + m' ≤ maxLen) :
    Stp P ops o n s E (q + 1) (setAt s d (some (.own q (m + m')))) (setAt E q (some ⟨sz, l.map .b ++ e2.cells.take (m' * sz), true⟩)) [q] := by
  simp only [Prod.mk.injEq] at h
  obtain ⟨rfl, h1, h2, h3, h4, h5, h6⟩ := h
  exact st1 h1 h2 (h3 ▸ .appendCut _ _ _ _ _ _ _ _ _ _ _ h4 hn h5 h6 hsz hm2 h0 hu hs hb hz hm hm')
end
section
variable {d i off m : Nat} {x y : Operand} {T T' el : TypeId} {ik : IntKind} {D L : List Int} {w : V}
/-- Copying into a window on a row of numbers. -/
theorem Cv2 {z' : B} {by' : Nat} (K : SlT P T el z' by') (h : (runs ops s o.guard, o.dst, o.op, ev s x, ev s y, E i) = (some true, some d, .call { callee := .builtin .copy, args := #[x, y], argTypes := #[T, T'] }, some (.win i off m), some w, some (rowK ik D)))
    (hr : res E w = some (slK ik L)) (hl : off + m ≤ D.length := by first | omega | (simp; done) | (simp; omega)) :
    Stp P ops o n s E (n + 1) (setAt s d (some (vI .i64 (Nat.min L.length m)))) (setAt E i (some (rowK ik (D.take off ++ (L.take (Nat.min L.length m) ++ D.drop (off + Nat.min L.length m)))))) [i] := by
  have := Cw (n := n) (l := L.map (numB ik)) K.u K.s h hr rfl rfl (by simpa [rowK] using hl) lits_allK
  rw [List.length_map] at this
  have e : (some { rowK ik D with cells := (rowK ik D).cells.take off ++ (((L.map (numB ik)).take (Nat.min L.length m)).map .b ++ (rowK ik D).cells.drop (off + Nat.min L.length m)) } : Option Ent) = some (rowK ik (D.take off ++ (L.take (Nat.min L.length m) ++ D.drop (off + Nat.min L.length m)))) := by
    simp only [rowK, List.map_append, List.map_take, List.map_drop, List.map_map]
    rfl
  rw [e] at this
  exact this
end
section
variable {α : Type} {sz : Nat} {f : α → List B} {L : List α} {i d j : Nat} {a : Int} {x p : Operand} {T el : TypeId} {v : V} {ik : IntKind}
theorem cellsT_set (hf : ∀ x, (f x).length = sz) {x' : α} : ∀ {L : List α} {j : Nat}, j < L.length → (cellsT f L).take (j * sz) ++ (f x' ++ (cellsT f L).drop (j * sz + sz)) = cellsT f (L.set j x')
  | [], j, h => by simp at h
  | y :: r, 0, h => by
    simp only [cellsT, List.flatMap_cons, Nat.zero_mul, List.take_zero, List.nil_append, List.set_cons_zero, Nat.zero_add]
    rw [List.drop_append_of_le_length (by rw [hf]; exact Nat.le_refl _), List.drop_of_length_le (by rw [hf]; exact Nat.le_refl _), List.nil_append]
  | y :: r, j + 1, h => by
    have := cellsT_set hf (x' := x') (L := r) (j := j) (by simpa using h)
    simp only [cellsT, List.flatMap_cons, List.set_cons_succ] at this ⊢
    rw [← this]
    have h0 : (f y).length = sz := hf y
    have h1 : (f y ++ List.flatMap f r).take ((j + 1) * sz) = f y ++ (List.flatMap f r).take (j * sz) := by
      rw [List.take_append, List.take_of_length_le (by rw [h0, Nat.succ_mul]; omega), h0, Nat.succ_mul, Nat.add_sub_cancel]
    have h2 : (f y ++ List.flatMap f r).drop ((j + 1) * sz + sz) = (List.flatMap f r).drop (j * sz + sz) := by
      rw [List.drop_append, List.drop_of_length_le (by rw [h0, Nat.succ_mul]; omega), List.nil_append, h0, Nat.succ_mul]
      congr 1; omega
    rw [h1, h2, List.append_assoc]
/-- A row of structs, all alike. -/
theorem MkT {by' : Nat} (q : Nat) (x0 : α) (hf : ∀ x, (f x).length = sz) (hu : P.underlying T = some (.slice el)) (hz : zeroOf P el = some (f x0)) (hs : szOf P el = some sz) (hb : (P.info? el).map (·.bytes) = some by')
    (h : (runs ops s o.guard, o.dst, o.op, ev s x, n, Nat.ble by' 1000) = (some true, some d, .makeSlice T x x, some (vI ik a), q, true)) (h3 : 0 < sz := by decide) (h0 : 0 ≤ a := by first | omega | (simp; done) | (simp; omega)) (h1 : a ≤ 100000000000 := by first | omega | (simp; done) | (simp; omega)) :
    Stp P ops o n s E (q + 1) (setAt s d (some (.own q a.toNat))) (setAt E q (some (rowT sz f (List.replicate a.toNat x0)))) [q] := by
  simp only [Prod.mk.injEq] at h; obtain ⟨b1, b2, b3, b4, rfl, b5⟩ := h
  have b5 := Nat.le_of_ble_eq_true b5
  refine st1 b1 b2 (b3 ▸ ?_)
  have hm : (by' : Int) * a ≤ 1000 * 100000000000 := Int.le_trans (Int.mul_le_mul_of_nonneg_right (show (by' : Int) ≤ 1000 by omega) h0) (by omega)
  have := Eff.make (P := P) (id := n) (E := E) T x a el (f x0) by' ik b4 hu hz (by rw [hf]; exact hs) hb (fun h => by have := hf x0; rw [h] at this; simp at this; omega) h0 (by omega) (by omega)
  have e : (some ⟨(f x0).length, ((List.replicate a.toNat (f x0)).flatten).map .b, true⟩ : Option Ent) = some (rowT sz f (List.replicate a.toNat x0)) := by
    have e2 : (List.replicate a.toNat (f x0)).flatten = cellsT f (List.replicate a.toNat x0) := by
      unfold cellsT
      rw [List.flatMap_def, List.map_replicate]
    rw [e2, hf]; rfl
  rw [e] at this
  exact this
/-- An element is stored. -/
theorem SrT (x' : α) (hf : ∀ x, (f x).length = sz) (hs : szOf P T = some sz) (h : (runs ops s o.guard, o.dst, o.op, ev s p, E i, ev s x, v.cells, v.noTup) = (some true, none, .store T p x, some (.ptr i (j * sz)), some (rowT sz f L), some v, (f x').map .b, true)) (hj : j < L.length) :
    Stp P ops o n s E (n + 1) s (setAt E i (some (rowT sz f (L.set j x')))) [i] := by
  simp only [Prod.mk.injEq] at h
  obtain ⟨h1, h2, h3, h4, h5, h6, h7, h8⟩ := h
  have hl : v.cells.length = sz := by rw [h7, List.length_map, hf]
  have hle : j * sz + sz ≤ (cellsT f L).length := by rw [cellsT_len hf, ← Nat.succ_mul]; exact Nat.mul_le_mul_right _ hj
  have := Eff.store (P := P) (id := n) (E := E) T p x i (j * sz) (rowT sz f L) v h4 h5 rfl h6 (by rw [hl]; exact hs) (by rw [hl]; simpa [rowT] using hle) h8
  have e : (some { rowT sz f L with cells := (rowT sz f L).cells.take (j * sz) ++ (v.cells ++ (rowT sz f L).cells.drop (j * sz + v.cells.length)) } : Option Ent) = some (rowT sz f (L.set j x')) := by
    rw [hl, h7]
    simp only [rowT, ← List.map_take, ← List.map_drop, ← List.map_append, cellsT_set hf hj]
  rw [e] at this
  exact stS h1 h2 (h3 ▸ this)
end
section
/-- Conversions. -/
theorem cv_own {E : Env} {i m : Nat} {ik : IntKind} {L : List Int} (he : E i = some { rowK ik L with hot := false }) (hl : L.length = m) : ConvV E (.own i m) (.b (slK ik L)) := by
  refine .inr (.inl ⟨_, ?_, rfl, ?_⟩)
  · have := res_rowK (E := setAt E i (some (rowK ik L))) (i := i) (m := m) (k := ik) (L := L) (setAt_self _ _ _) hl
    rw [← this]
    simp only [res, resL, he, setAt_self]
  · intro j hj e h
    simp only [V.names, List.mem_singleton] at hj
    subst hj
    rw [he] at h; injection h with h; subst h; rfl
theorem cv_ownT {α : Type} {sz : Nat} {f : α → List B} {E : Env} {i m : Nat} {L : List α} (hf : ∀ x, (f x).length = sz) (he : E i = some { rowT sz f L with hot := false }) (hl : L.length = m) : ConvV E (.own i m) (.b (slT sz f L)) := by
  refine .inr (.inl ⟨_, ?_, rfl, ?_⟩)
  · have := res_rowT (E := setAt E i (some (rowT sz f L))) (i := i) (m := m) (L := L) hf (setAt_self _ _ _) hl
    rw [← this]
    simp only [res, resL, he, setAt_self]
  · intro j hj e h
    simp only [V.names, List.mem_singleton] at hj
    subst hj
    rw [he] at h; injection h with h; subst h; rfl
theorem cv_nil {E : Env} {x : V} {sz : Nat} (h : x.nilLike = true) (h0 : 0 < sz := by decide) : ConvV E x (.b (.sl sz [])) := .inr (.inr ⟨h, sz, h0, rfl⟩)
/-- From one region to the next. -/
theorem Cx {k n n1 : Nat} {s : Slots} {E : Env} {P : Program} {b : Code} {X : VExit → Nat → Slots → Env → Prop} {S1 : List (Nat × V)} {L1 : List (Nat × Ent)} (hw : Weak k s E n1 (sl S1) (en L1)) (h : VCode P k b n1 (sl S1) (en L1) X) : Then P k b X .normal n s E := .inr ⟨_, _, _, hw, h⟩
end
/-- What a call leaves, entry by entry. -/
def UsOk (ρ σ : Nat → Nat) (L1 : List (Option Ent)) : Nat → List (Nat × Option Ent) → Prop
  | _, [] => True
  | j, p :: r => (p.1 = ρ j ∧ p.2 = (tab L1 j).map (Ent.ren σ)) ∧ UsOk ρ σ L1 (j + 1) r
theorem UsOk.eq {ρ σ : Nat → Nat} {L1 : List (Option Ent)} : ∀ {us : List (Nat × Option Ent)} {j : Nat}, UsOk ρ σ L1 j us → us = (List.range' j us.length).map fun j => (ρ j, (tab L1 j).map (Ent.ren σ))
  | [], j, h => rfl
  | p :: r, j, h => by
    obtain ⟨⟨h1, h2⟩, h3⟩ := h
    rw [List.length_cons, List.range'_succ, List.map_cons, ← UsOk.eq h3, ← h1, ← h2]
section
variable {R : List (List Nat × List Nat) → Nat → Slots → Env → Prop} {log : List (List Nat × List Nat)} {r : List Oper} {Q : Nat → Slots → Env → Prop} {d : Nat} {v : V}
variable {fop : Operand} {args : Array Operand} {ts : Array TypeId} {f : FuncId} {caps vs xs : List V} {L0 : List Ent} {L1 : List (Option Ent)}
/-- A call that is lent entries, in a region whose order is open. -/
theorem Gl (l nv : List Nat) {rr : V} (us : List (Nat × Option Ent)) (h : (runs ops s o.guard, o.dst, o.op, ev s fop, evs s args.toList) = (some true, some d, .call { callee := .value fop, args := args, argTypes := ts }, some (.fn f caps), some vs)) (hv : VG P f xs L0 rr L1) (hr : rr.ren (nm (rho l) L0.length n) = v)
    (h3 : VLog P ops r (n + 1) (setAt s d (some v)) (upds E (nv.map (cool E) ++ us)) (log ++ [((List.range L0.length).map (rho l) ++ nv, (nv.map (cool E) ++ us).map (·.1))]) R)
    (hus : UsOk (nm (rho l) L0.length n) (nm (rho l) L0.length n) L1 0 us := by repeat' (first | exact trivial | refine ⟨⟨rfl, by first | exact rowK_ren' | exact rowT_ren' | rfl⟩, ?_⟩))
    (hx : Args E (rho l) L0.length nv (vs ++ caps) xs := by repeat' (first | exact Args.nil | refine Args.name _ _ _ _ rfl rfl ?_ | refine Args.val _ _ _ _ (by first | rfl | exact Rr rfl | exact Ra rfl) rfl ?_))
    (hl : Lent E (rho l) nv L0 := by refine Lent.of rfl (by decide) ?_; repeat' (first | exact trivial | refine ⟨⟨by first | exact rowK_ren' | exact rowT_ren' | rfl, rfl, by first | exact row_cellsK | exact rowT_cells | exact cells_of rfl⟩, ?_⟩))
    (hsz : (us.length, Nat.ble L1.length (L0.length + 1)) = (L1.length, true) := by rfl) : VLog P ops (o :: r) n s E log R := by
  simp only [Prod.mk.injEq] at h hsz; obtain ⟨h1, h2, h4, h5, h6⟩ := h
  have e := hus.eq
  rw [hsz.1] at e
  have c : CallL P n s E (.call { callee := .value fop, args := args, argTypes := ts }) (rr.ren (nm (rho l) L0.length n)) (nv.map (cool E) ++ us) ((List.range L0.length).map (rho l) ++ nv) :=
    .mk fop args ts f caps vs xs L0 rr L1 (rho l) nv us h5 h6 hx hl hv (Nat.le_of_ble_eq_true hsz.2) (by rw [List.range_eq_range']; exact e)
  refine .inl ⟨h1, some v, nv.map (cool E) ++ us, (List.range L0.length).map (rho l) ++ nv, .inr ⟨v, rfl, ?_⟩, ?_⟩
  · rw [h4, ← hr]; exact c
  · rw [h2]; exact h3
/-- A call that may yield names. -/
theorem Gm (q : Nat) (l nv : List Nat) {rr : V} (L2 : List (Nat × Ent)) (h : (n, runs ops s o.guard, o.dst, o.op, ev s fop, evs s args.toList) = (q, some true, some d, .call { callee := .value fop, args := args, argTypes := ts }, some (.fn f caps), some vs)) (hv : VG P f xs L0 rr L1) (hr : rr.ren (nm (rho l) L0.length q) = v)
    (h3 : VList P ops r (q + (L1.length - L0.length) + 1) (setAt s d (some v)) (en L2) Q)
    (hx : Args E (rho l) L0.length nv (vs ++ caps) xs := by repeat' (first | exact Args.nil | refine Args.name _ _ _ _ rfl rfl ?_ | refine Args.val _ _ _ _ (by first | rfl | exact Rr rfl | exact Ra rfl) rfl ?_))
    (hl : Lent E (rho l) nv L0 := by refine Lent.of rfl (by decide) ?_; repeat' (first | exact trivial | refine ⟨⟨by first | exact rowK_ren' | exact rowT_ren' | rfl, rfl, by first | exact row_cellsK | exact rowT_cells | exact cells_of rfl⟩, ?_⟩))
    (ha : AllE (fun i e => (∃ j e0, L1[j]? = some (some e0) ∧ nm (rho l) L0.length q j = i ∧ e = e0.ren (nm (rho l) L0.length q)) ∨ (upds E (nv.map (cool E)) i = some e ∧ l.contains i = false)) L2 := by
      repeat' (first | exact trivial | refine ⟨.inr ⟨rfl, rfl⟩, ?_⟩ | refine ⟨.inl ⟨0, _, rfl, rfl, by first | exact rowK_ren.symm | exact rowT_ren.symm | rfl⟩, ?_⟩ | refine ⟨.inl ⟨1, _, rfl, rfl, by first | exact rowK_ren.symm | exact rowT_ren.symm | rfl⟩, ?_⟩ | refine ⟨.inl ⟨2, _, rfl, rfl, by first | exact rowK_ren.symm | exact rowT_ren.symm | rfl⟩, ?_⟩ | refine ⟨.inl ⟨3, _, rfl, rfl, by first | exact rowK_ren.symm | exact rowT_ren.symm | rfl⟩, ?_⟩ | refine ⟨.inl ⟨4, _, rfl, rfl, by first | exact rowK_ren.symm | exact rowT_ren.symm | rfl⟩, ?_⟩ | refine ⟨.inl ⟨5, _, rfl, rfl, by first | exact rowK_ren.symm | exact rowT_ren.symm | rfl⟩, ?_⟩))
    (hk : l.length = L0.length := by rfl) : VList P ops (o :: r) n s E Q := by
  simp only [Prod.mk.injEq] at h; obtain ⟨rfl, h1, h2, h4, h5, h6⟩ := h
  refine VList.goV h1 h2 (h4 ▸ .mk _ _ _ _ _ _ _ _ _ _ _ nv _ (en L2) h5 h6 hx hl hv (Nat.le_succ _) (After.of hk ha)) hr h3
/-- The end of a function that is lent entries. -/
theorem Gg {fn : Func} {k : Nat} {rv r' : V} {L1 L1' : List (Option Ent)} {A : Prop} {xs : List V} (l : List Nat) (hg : ResG P s E (rho l) L1' fn.results.toList xs) (ho : ResOf xs r') (hr : r' = rv) (hL : L1' = L1)
    (h : AllO (fun j e => E (rho l j) = some (e.ren (rho l)) ∧ ∀ v ∈ e.cells, v.all1.all (fun i => decide (i < L1'.length)) = true) 0 L1' := by repeat' (first | exact trivial | refine ⟨⟨by first | exact rowK_ren' | exact rowT_ren' | rfl, by first | exact row_cellsK | exact rowT_cells | exact cells_of rfl⟩, ?_⟩))
    (hlen : L1'.length = l.length := by rfl) (hk : k ≤ L1'.length := by exact Nat.le_of_ble_eq_true rfl) (hlow : (List.range k).all (fun i => rho l i == i) = true := by rfl) (hn : l.Nodup := by decide) (he : A := by trivial) :
    A ∧ ∃ ρ, WeakR ρ k s E L1.length (fun _ => none) (tab L1) ∧ ∃ l, ResG P s E ρ L1 fn.results.toList l ∧ ResOf l rv := Gf l hg ho hr hL h hlen hk hlow hn he
end
/-- A row, a part of which is overwritten. -/
def cpw (D : List Int) (off m : Nat) (L : List Int) : List Int := D.take off ++ (L.take (Nat.min L.length m) ++ D.drop (off + Nat.min L.length m))
section
variable {d i off m q by' : Nat} {x y hi mx : Operand} {T T' el : TypeId} {ik ik' : IntKind} {D L : List Int} {w : V}
theorem Cv3 {z' : B} {by' : Nat} (K : SlT P T el z' by') (h : (runs ops s o.guard, o.dst, o.op, ev s x, ev s y, E i) = (some true, some d, .call { callee := .builtin .copy, args := #[x, y], argTypes := #[T, T'] }, some (.win i off m), some w, some (rowK ik D)))
    (hr : res E w = some (slK ik L)) (hl : off + m ≤ D.length := by first | omega | (simp; done) | (simp; omega)) :
    Stp P ops o n s E (n + 1) (setAt s d (some (vI .i64 (Nat.min L.length m)))) (setAt E i (some (rowK ik (cpw D off m L)))) [i] := Cv2 K h hr hl
theorem Cp3 {z' : B} {by' : Nat} (K : SlT P T el z' by') (h : (runs ops s o.guard, o.dst, o.op, ev s x, ev s y, E i) = (some true, some d, .call { callee := .builtin .copy, args := #[x, y], argTypes := #[T, T'] }, some (.own i m), some w, some (rowK ik D)))
    (hr : res E w = some (slK ik L)) (hl : m ≤ D.length := by first | omega | (simp; done) | (simp; omega)) :
    Stp P ops o n s E (n + 1) (setAt s d (some (vI .i64 (Nat.min L.length m)))) (setAt E i (some (rowK ik (cpw D 0 m L)))) [i] := by
  simp only [Prod.mk.injEq] at h
  obtain ⟨h1, h2, h3, h4, h5, h6⟩ := h
  have := Eff.copy (P := P) (id := n) x y T T' el i m (rowK ik D) w (L.map (numB ik)) h4 h6 rfl rfl (by simpa [rowK] using hl) h5 hr K.u K.s lits_allK
  rw [List.length_map] at this
  have e : (some { rowK ik D with cells := ((L.map (numB ik)).take (Nat.min L.length m)).map .b ++ (rowK ik D).cells.drop (Nat.min L.length m) } : Option Ent) = some (rowK ik (cpw D 0 m L)) := by
    simp only [rowK, cpw, List.map_append, List.map_take, List.map_drop, List.map_map, List.take_zero, List.nil_append, Nat.zero_add]
    rfl
  rw [e] at this
  exact st1 h1 h2 (h3 ▸ this)
/-- What a window shows. -/
theorem Rw {i off m : Nat} {D : List Int} (he : E i = some (rowK ik D)) (hl : off + m ≤ D.length := by first | omega | (simp; done) | (simp; omega)) : res E (.win i off m) = some (slK ik ((D.drop off).take m)) := by
  have hb : bs (rowK ik D).cells = some (D.map (numB ik)) := by
    have := bs_map (D.map (numB ik))
    rw [List.map_map] at this
    exact this
  show resL E (.win i off m) = _
  simp only [resL, he, hb]
  have h1 : (rowK ik D).sz = 1 := rfl
  rw [h1, Nat.mul_one, if_pos (by rw [List.length_map]; exact hl), ← List.map_drop, ← List.map_take]
variable {α : Type} {sz : Nat} {f : α → List B} {A : List α} {b : Int}
theorem CuT (hf : ∀ x, (f x).length = sz) (hu : P.underlying T = some (.slice el)) (hs : szOf P el = some sz) (h : (runs ops s o.guard, o.dst, o.op, ev s x, ev s hi, ev s mx) = (some true, some d, .slice T x none (some hi) (some mx), some (.b (slT sz f A)), some (vI ik (A.length : Int)), some (vI ik' (A.length : Int)))) :
    Stp P ops o n s E (n + 1) (setAt s d (some (.cut sz (cellsT f A)))) E [] := by
  have hl := cellsT_len hf A
  exact Cu hu hs h (by rw [Int.toNat_natCast, ← hl, List.take_length]) (by omega) (by rw [Int.toNat_natCast, hl]; exact Nat.le_refl _)
theorem AcT {i2 : Nat} {e2 : Ent} {x1 : α} (q : Nat) (hu : P.underlying T = some (.slice el)) (hs : szOf P el = some sz) (hb : (P.info? el).map (·.bytes) = some by') (hz : (zeroOf P el).map List.length = some sz)
    (h : (n, runs ops s o.guard, o.dst, o.op, ev s x, ev s y, E i2, e2.cells, e2.sz) = (q, some true, some d, .call { callee := .builtin .append, args := #[x, y], argTypes := #[T, T] }, some (.cut sz (cellsT f A)), some (.own i2 1), some e2, (f x1).map .b, sz)) (hf : ∀ x, (f x).length = sz)
    (hm : (A.length + 1) * by' ≤ 140737488355328 ∧ A.length + 1 ≤ maxLen := by simp only [maxLen]; omega) :
    Stp P ops o n s E (q + 1) (setAt s d (some (.own q (A.length + 1)))) (setAt E q (some (rowT sz f (A ++ [x1])))) [q] := by
  simp only [Prod.mk.injEq] at h
  obtain ⟨h0, h1, h2, h3, h4, h5, h6, h7, h8⟩ := h
  have hl : e2.cells.length = sz := by rw [h7, List.length_map, hf]
  have := Ac (P := P) (ops := ops) (o := o) (n := n) (s := s) (E := E) (d := d) (x := x) (y := y) (T := T) (l := cellsT f A) (m := A.length) (m' := 1) (e2 := e2) (j := i2) (sz := sz) q hu hs hb hz (by simp only [Prod.mk.injEq]; exact ⟨h0, h1, h2, h3, h4, h5, h6⟩) (cellsT_len hf A) h8 (by rw [hl, Nat.one_mul]; exact Nat.le_refl _) (by decide) hm.1 hm.2
  have e : (some ⟨sz, (cellsT f A).map .b ++ e2.cells.take (1 * sz), true⟩ : Option Ent) = some (rowT sz f (A ++ [x1])) := by
    rw [Nat.one_mul, List.take_of_length_le (by omega), h7]
    simp only [rowT, cellsT_append, List.map_append]
    simp [cellsT]
  rw [e] at this
  exact this
end
section
theorem Iw {d i off m : Nat} {x y : Operand} {T el : TypeId} {ik' : IntKind} {j : Int} (hu : P.underlying T = some (.slice el)) (hs : szOf P el = some 1) (h : (runs ops s o.guard, o.dst, o.op, ev s x, ev s y) = (some true, some d, .indexAddr T x y, some (.win i off m), some (vI ik' j))) (h0 : 0 ≤ j := by first | omega | (simp; done) | (simp; omega)) (h1 : j < m := by first | omega | (simp; done) | (simp; omega)) :
    Stp P ops o n s E (n + 1) (setAt s d (some (.ptr i (off + j.toNat)))) E [] := by
  simp only [Prod.mk.injEq] at h; obtain ⟨h1', h2, h3, h4, h5⟩ := h
  exact st0 h1' h2 (h3 ▸ .indexWin _ _ _ _ _ _ _ _ _ h4 h5 hu hs h0 h1)
end
section
theorem Sz {d i m : Nat} {x lo hi mx : Operand} {T el : TypeId} {ik ik' ik'' : IntKind} {a b : Int} (q : Nat) (hu : P.underlying T = some (.slice el)) (hs : szOf P el = some 1) (h : (runs ops s o.guard, o.dst, o.op, ev s x, ev s lo, ev s hi, ev s mx) = (some true, some d, .slice T x (some lo) (some hi) (some mx), some (.own i m), some (vI ik a), some (vI ik' b), some (vI ik'' b)))
    (hq : (b - a).toNat = q := by omega) (h0 : 0 ≤ a := by first | omega | (simp; done) | (simp; omega)) (h1 : a < b := by first | omega | (simp; done) | (simp; omega)) (h2 : b ≤ m := by first | omega | (simp; done) | (simp; omega)) (h3 : b - a ≤ 9223372036854775807 := by first | omega | (simp; done) | (simp; omega)) :
    Stp P ops o n s E (n + 1) (setAt s d (some (.win i a.toNat q))) E [] := by
  subst hq; exact Sw hu hs h h0 h1 h2 h3
end
/-- What is asked at the end, or a little before it. -/
def PostW (P : Program) (fn : Func) (k : Nat) (r : V) (L1 : List (Option Ent)) : VExit → Nat → Slots → Env → Prop := fun e n s E => PostG P fn k r L1 e n s E ∨ ∃ n1 s1 E1, Weak k s E n1 s1 E1 ∧ PostG P fn k r L1 e n1 s1 E1
theorem VGw_of {P : Program} {f : FuncId} {fn : Func} {c : Code} {xs : List V} {L0 : List Ent} {r : V} {L1 : List (Option Ent)} (hm : P.follows .mixedOrders = true) (hfn : P.funcs[f]? = some fn) (hb : fn.body = some c) (hname : (fn.name == "runtime.NumGoroutine") = false)
    (hc : codeOk (xs.length + (fn.ntmps - xs.length)) c = true) (hlen : L0.length ≤ L1.length) (hnew : ((L1.drop L0.length).all fun | some e => e.hot | none => true) = true)
    (hbody : VCode P L0.length c L0.length (fun t => xs[t]?) (tab (L0.map some)) (PostW P fn L0.length r L1)) : VG P f xs L0 r L1 :=
  VG_ofX hm hfn hb hname hc hlen hnew (fun e n s E h => by
    rcases h with h | ⟨n1, s1, E1, hw, h⟩
    · exact ⟨h.1, .inl h.2⟩
    · exact ⟨h.1, .inr ⟨n1, s1, E1, hw, h.2⟩⟩) hbody
theorem Pw {P : Program} {fn : Func} {k n : Nat} {s : Slots} {E : Env} {r : V} {L1 : List (Option Ent)} {e : VExit} (h : PostG P fn k r L1 e n s E) : PostW P fn k r L1 e n s E := .inl h
theorem Px {P : Program} {fn : Func} {k n n1 : Nat} {s : Slots} {E : Env} {r : V} {L1 : List (Option Ent)} {e : VExit} {S2 : List (Nat × V)} {L2 : List (Nat × Ent)} (hw : Weak k s E n1 (sl S2) (en L2)) (h : PostG P fn k r L1 e n1 (sl S2) (en L2)) : PostW P fn k r L1 e n s E := .inr ⟨_, _, _, hw, h⟩
end
end Go.VL

/- A plain model of a disk that may lose or tear writes: sectors, writes that are pending, a fuse. -/
set_option linter.unusedVariables false
set_option linter.unusedSimpArgs false
namespace Go.VL

abbrev Pen := Int × List Int
/-- The cells of a pending write. -/
def penB (w : Pen) : List B := [numB .i64 w.1, slK .u8 w.2]
theorem penB_len : ∀ w, (penB w).length = 2 := fun _ => rfl
def boB (t : Bool) : List B := [boolB t]
theorem boB_len : ∀ t, (boB t).length = 1 := fun _ => rfl
abbrev w0 : Pen := (0, [])

structure Dk where
  dur : List Int
  pen : List Pen
  fuse : Int
  off : Bool

/-- What is always so of a disk of n bytes. -/
structure Dk.Ok (n : Nat) (m : Nat) (d : Dk) : Prop where
  len : d.dur.length = n
  lo : 64 ≤ n
  hi : n ≤ 65536
  whole : n % 64 = 0
  pen : d.pen.length ≤ m
  fu : -1 ≤ d.fuse ∧ d.fuse ≤ 9223372036854775807
  ins : ∀ w ∈ d.pen, 0 ≤ w.1 ∧ w.1 * 64 + 64 ≤ n ∧ w.2.length = 64

def sec (D : List Int) (s : Int) : List Int := (D.drop (s * 64).toNat).take 64
def put (D : List Int) (s : Int) (b : List Int) : List Int := cpw D (s * 64).toNat 64 b
/-- What counts an operation. -/
def Dk.burn (d : Dk) : Dk := if d.fuse = 0 then { d with fuse := -1, off := true } else if 0 < d.fuse then { d with fuse := d.fuse - 1 } else d
def Dk.out (d : Dk) : Bool := d.fuse == 0
def hasS (n : Nat) (s : Int) : Bool := decide (0 ≤ s) && decide (s < (n : Int) / 64)
/-- What Read returns of the sector, the first i pending writes heeded. -/
def rdL (s : Int) (P : List Pen) (R0 : List Int) : Nat → List Int
  | 0 => R0
  | i + 1 => if (P.getD i w0).1 = s then cpw (rdL s P R0 i) 0 64 (P.getD i w0).2 else rdL s P R0 i
def rdS (d : Dk) (s : Int) : List Int := rdL s d.pen (cpw (List.replicate 64 0) 0 64 (sec d.dur s)) d.pen.length
def Dk.readR (n : Nat) (d : Dk) (s : Int) : Dk × List Int × Int :=
  if d.off = true then (d, [], 290) else if hasS n s = false then (d, [], 1) else if d.out = true then (d.burn, [], 290) else (d.burn, rdS d s, 0)
def Dk.writeR (n : Nat) (d : Dk) (s : Int) (b : List Int) : Dk × Int :=
  if d.off = true then (d, 290) else if hasS n s = false ∨ b.length ≠ 64 then (d, 1) else ({ d.burn with pen := d.pen ++ [(s, b)] }, if d.out = true then 290 else 0)
/-- The first i pending writes made durable. -/
def syL (P : List Pen) (D : List Int) : Nat → List Int
  | 0 => D
  | i + 1 => put (syL P D i) (P.getD i w0).1 (P.getD i w0).2
def Dk.syncR (d : Dk) : Dk × Int :=
  if d.off = true then (d, 290) else if d.out = true then (d.burn, 290) else ({ d.burn with dur := syL d.pen d.dur d.pen.length, pen := [] }, 0)
def Dk.fuseR (d : Dk) (x : Int) : Dk := { d with fuse := if -1 > x then -1 else x }
/-- Which pending writes are kept, and the last of them. -/
def kpL (keep : List Int) (m : Nat) : Nat → List Bool × Int
  | 0 => (List.replicate m false, -1)
  | i + 1 => if 0 ≤ keep.getD i 0 ∧ keep.getD i 0 < m then ((kpL keep m i).1.set (keep.getD i 0).toNat true, if keep.getD i 0 > (kpL keep m i).2 then keep.getD i 0 else (kpL keep m i).2) else kpL keep m i
def tearB (last torn : Int) (i : Nat) (b : List Int) : List Int := if (i : Int) = last ∧ 0 ≤ torn ∧ torn < b.length then b.take torn.toNat else b
def boL (K : List Bool) (last torn : Int) (P : List Pen) (D : List Int) : Nat → List Int
  | 0 => D
  | i + 1 => if K.getD i false = true then put (boL K last torn P D i) (P.getD i w0).1 (tearB last torn i (P.getD i w0).2) else boL K last torn P D i
def Dk.bootR (d : Dk) (keep : List Int) (torn : Int) : Dk :=
  ⟨boL (kpL keep d.pen.length keep.length).1 (kpL keep d.pen.length keep.length).2 torn d.pen d.dur d.pen.length, [], -1, false⟩
/-- A bit of a byte inverted. -/
def flipB (x : Int) (k : Int) : Int := ((BitVec.ofInt 8 x ^^^ BitVec.ofInt 8 (2 ^ (k % 8).toNat)).toNat : Int)
def Dk.rotR (n : Nat) (d : Dk) (s k : Int) : Dk × Int :=
  if hasS n s = false ∨ k < 0 ∨ 512 ≤ k then (d, 1) else ({ d with dur := d.dur.set ((s * 64).toNat + (k / 8).toNat) (flipB (d.dur.getD ((s * 64).toNat + (k / 8).toNat) 0) k) }, 0)

theorem cpw_len {D : List Int} {off m : Nat} {L : List Int} (h : off + m ≤ D.length) : (cpw D off m L).length = D.length := by
  simp only [cpw, List.length_append, List.length_take, List.length_drop]
  have := Nat.min_le_right L.length m
  have h2 : Nat.min L.length m = min L.length m := rfl
  omega
theorem put_len {D : List Int} {s : Int} {b : List Int} (h0 : 0 ≤ s) (h : s * 64 + 64 ≤ D.length) : (put D s b).length = D.length := cpw_len (by omega)
theorem sec_len {D : List Int} {s : Int} (h0 : 0 ≤ s) (h : s * 64 + 64 ≤ D.length) : (sec D s).length = 64 := by
  simp only [sec, List.length_take, List.length_drop]; omega
theorem cpw_all {D L : List Int} (h : D.length = 64) (hl : L.length = 64) : cpw D 0 64 L = L := by
  simp only [cpw, hl, List.take_zero, List.nil_append]
  have h2 : Nat.min 64 64 = 64 := rfl
  rw [h2, List.take_of_length_le (by omega), List.drop_of_length_le (by omega), List.append_nil]
theorem hasS_in {n : Nat} {s : Int} (h : hasS n s = true) (hw : n % 64 = 0) : 0 ≤ s ∧ s * 64 + 64 ≤ n := by
  simp only [hasS, Bool.and_eq_true, decide_eq_true_eq] at h
  omega
section
variable {n m : Nat} {d : Dk}
theorem getD_mem' {α : Type} {L : List α} {i : Nat} {x : α} (h : i < L.length) : L.getD i x ∈ L := by
  rw [List.getD_eq_getElem?_getD, List.getElem?_eq_getElem h]
  exact List.getElem_mem h
theorem Dk.Ok.at (h : d.Ok n m) {i : Nat} (hi : i < d.pen.length) : 0 ≤ (d.pen.getD i w0).1 ∧ (d.pen.getD i w0).1 * 64 + 64 ≤ n ∧ (d.pen.getD i w0).2.length = 64 := h.ins _ (getD_mem' hi)
theorem rdL_len {s : Int} {P : List Pen} {R0 : List Int} (h : R0.length = 64) : ∀ i, (rdL s P R0 i).length = 64
  | 0 => h
  | i + 1 => by
    simp only [rdL]
    split
    · rw [cpw_len (by rw [rdL_len h i]; omega)]; exact rdL_len h i
    · exact rdL_len h i
theorem rdS_len (s : Int) : (rdS d s).length = 64 := rdL_len (by rw [cpw_len (by simp)]; simp) _
theorem syL_len (h : d.Ok n m) : ∀ i, i ≤ d.pen.length → (syL d.pen d.dur i).length = n
  | 0, _ => h.len
  | i + 1, hi => by
    have h1 := syL_len h i (by omega)
    obtain ⟨a, b, _⟩ := h.at (i := i) (by omega)
    simp only [syL]
    rw [put_len a (by rw [h1]; exact b)]; exact h1
theorem boL_len (h : d.Ok n m) {K : List Bool} {last torn : Int} : ∀ i, i ≤ d.pen.length → (boL K last torn d.pen d.dur i).length = n
  | 0, _ => h.len
  | i + 1, hi => by
    have h1 := boL_len h (K := K) (last := last) (torn := torn) i (by omega)
    obtain ⟨a, b, _⟩ := h.at (i := i) (by omega)
    simp only [boL]
    split
    · rw [put_len a (by rw [h1]; exact b)]; exact h1
    · exact h1
theorem kpL_len {keep : List Int} {m : Nat} : ∀ i, (kpL keep m i).1.length = m
  | 0 => by simp [kpL]
  | i + 1 => by
    simp only [kpL]
    split
    · rw [List.length_set]; exact kpL_len i
    · exact kpL_len i
theorem Dk.Ok.mono (h : d.Ok n m) {k : Nat} (hk : m ≤ k) : d.Ok n k := { h with pen := Nat.le_trans h.pen hk }
theorem Dk.Ok.burn (h : d.Ok n m) : d.burn.Ok n m := by
  have hf := h.fu
  unfold Dk.burn
  split
  · exact { h with fu := by simp }
  · split
    · exact { h with fu := by simp only; omega }
    · exact h
theorem burn_dur : d.burn.dur = d.dur := by unfold Dk.burn; split <;> (try split) <;> rfl
theorem burn_pen : d.burn.pen = d.pen := by unfold Dk.burn; split <;> (try split) <;> rfl
theorem Dk.Ok.read (h : d.Ok n m) (s : Int) : (d.readR n s).1.Ok n m := by
  unfold Dk.readR; repeat' (first | exact h | exact h.burn | split)
theorem Dk.Ok.write (h : d.Ok n m) (s : Int) (b : List Int) : (d.writeR n s b).1.Ok n (m + 1) := by
  unfold Dk.writeR
  split
  · exact h.mono (Nat.le_succ _)
  · split
    · exact h.mono (Nat.le_succ _)
    · rename_i h1
      have h2 : hasS n s = true := by cases hq : hasS n s <;> simp_all
      have h3 : b.length = 64 := by
        apply Classical.byContradiction; intro hc; exact h1 (.inr hc)
      have hb := h.burn
      obtain ⟨a, c⟩ := hasS_in h2 h.whole
      have e1 : ∀ w ∈ d.pen ++ [(s, b)], 0 ≤ w.1 ∧ w.1 * 64 + 64 ≤ (n : Int) ∧ w.2.length = 64 := fun w hw => by
        simp only [List.mem_append, List.mem_singleton] at hw
        rcases hw with hw | rfl
        · exact h.ins w hw
        · exact ⟨a, c, h3⟩
      have e2 : (d.pen ++ [(s, b)]).length ≤ m + 1 := by simp only [List.length_append, List.length_singleton]; have := h.pen; omega
      exact { hb with pen := e2, ins := e1 }
theorem Dk.Ok.sync (h : d.Ok n m) : d.syncR.1.Ok n m := by
  unfold Dk.syncR
  split
  · exact h
  · split
    · exact h.burn
    · have hb := h.burn
      exact { hb with len := syL_len h _ (Nat.le_refl _), pen := Nat.zero_le _, ins := fun w hw => by cases hw }
theorem Dk.Ok.fuse (h : d.Ok n m) {x : Int} (hx : x ≤ 9223372036854775807) : (d.fuseR x).Ok n m := { h with fu := by simp only [Dk.fuseR]; split <;> omega }
theorem Dk.Ok.boot (h : d.Ok n m) (keep : List Int) (torn : Int) : (d.bootR keep torn).Ok n m :=
  ⟨boL_len h _ (Nat.le_refl _), h.lo, h.hi, h.whole, Nat.zero_le _, by simp [Dk.bootR], fun w hw => by cases hw⟩
theorem Dk.Ok.rot (h : d.Ok n m) (s k : Int) : (d.rotR n s k).1.Ok n m := by
  unfold Dk.rotR
  split
  · exact h
  · exact { h with len := by simp only [List.length_set]; exact h.len }
theorem cpw_rep (b : List Int) : cpw (List.replicate b.length 0) 0 b.length b = b := by
  have h2 : Nat.min b.length b.length = b.length := Nat.min_self _
  simp only [cpw, List.take_zero, List.nil_append, h2]
  rw [List.take_of_length_le (Nat.le_refl _), List.drop_of_length_le (by simp), List.append_nil]
theorem Dk.Ok.syL (h : d.Ok n m) {i : Nat} (hi : i ≤ d.pen.length) : ({ d with dur := Go.VL.syL d.pen d.dur i } : Dk).Ok n m := { h with len := syL_len h i hi }
theorem Dk.Ok.boL (h : d.Ok n m) {K : List Bool} {last torn : Int} {i : Nat} (hi : i ≤ d.pen.length) : ({ d with dur := Go.VL.boL K last torn d.pen d.dur i } : Dk).Ok n m := { h with len := boL_len h i hi }
theorem Dk.Ok.ofDur (h : d.Ok n m) {D : List Int} (hD : D.length = n) : ({ d with dur := D } : Dk).Ok n m := { h with len := hD }
section
variable {keep : List Int} {N i : Nat} {K : List Bool} {last torn : Int} {P : List Pen} {D b : List Int}
theorem kpL_in (h1 : keep.getD i 0 ≥ 0) (h2 : keep.getD i 0 < N) : kpL keep N (i + 1) = ((kpL keep N i).1.set (keep.getD i 0).toNat true, if keep.getD i 0 > (kpL keep N i).2 then keep.getD i 0 else (kpL keep N i).2) := by
  rw [kpL, if_pos (And.intro h1 h2)]
theorem kpL_lo (h1 : ¬ keep.getD i 0 ≥ 0) : kpL keep N (i + 1) = kpL keep N i := by rw [kpL, if_neg (fun h => h1 h.1)]
theorem kpL_hi (h1 : ¬ keep.getD i 0 < N) : kpL keep N (i + 1) = kpL keep N i := by rw [kpL, if_neg (fun h => h1 h.2)]
theorem boL_no (h : K.getD i false = false) : boL K last torn P D (i + 1) = boL K last torn P D i := by rw [boL, if_neg (by rw [h]; decide)]
theorem boL_y (h : K.getD i false = true) (h1 : (i : Int) = last) (h2 : torn ≥ 0) (h3 : torn < ((P.getD i w0).2.length : Int)) : boL K last torn P D (i + 1) = put (boL K last torn P D i) (P.getD i w0).1 ((P.getD i w0).2.take torn.toNat) := by
  rw [boL, if_pos h, tearB, if_pos ⟨h1, h2, h3⟩]
theorem boL_1 (h : K.getD i false = true) (h1 : ¬ (i : Int) = last) : boL K last torn P D (i + 1) = put (boL K last torn P D i) (P.getD i w0).1 (P.getD i w0).2 := by
  rw [boL, if_pos h, tearB, if_neg (fun h => h1 h.1)]
theorem boL_2 (h : K.getD i false = true) (h1 : ¬ torn ≥ 0) : boL K last torn P D (i + 1) = put (boL K last torn P D i) (P.getD i w0).1 (P.getD i w0).2 := by
  rw [boL, if_pos h, tearB, if_neg (fun h => h1 h.2.1)]
theorem boL_3 (h : K.getD i false = true) (h1 : ¬ torn < ((P.getD i w0).2.length : Int)) : boL K last torn P D (i + 1) = put (boL K last torn P D i) (P.getD i w0).1 (P.getD i w0).2 := by
  rw [boL, if_pos h, tearB, if_neg (fun h => h1 h.2.2)]
end
end
theorem bop_shl1 {y : Int} (h0 : 0 ≤ y) (h1 : y < 8) : bop .shl (.int .u8 1) (.int .i64 y) = some (.int .u8 (2 ^ y.toNat)) := by
  obtain ⟨k, rfl⟩ : ∃ k : Nat, y = k := ⟨y.toNat, by omega⟩
  have hk : k < 8 := by omega
  match k, hk with
  | 0, _ | 1, _ | 2, _ | 3, _ | 4, _ | 5, _ | 6, _ | 7, _ => rfl
theorem bop_add8 {x y : Int} : bop .add (.int .u8 x) (.int .u8 y) = some (.int .u8 ((x + y) % 256)) := by
  show some (Value.int .u8 (IntKind.wrap .u8 (x + y))) = _
  rw [wrapM_u8]
theorem bop_xor8 {x z : Int} : bop .xor (.int .u8 x) (.int .u8 z) = some (.int .u8 ((BitVec.ofInt 8 x ^^^ BitVec.ofInt 8 z).toNat : Int)) := by
  have h : (BitVec.ofInt 8 x ^^^ BitVec.ofInt 8 z).toNat < 256 := (BitVec.ofInt 8 x ^^^ BitVec.ofInt 8 z).isLt
  have hw := wrap_u8 (x := ((BitVec.ofInt 8 x ^^^ BitVec.ofInt 8 z).toNat : Int)) (by omega)
  show some (Value.int .u8 (IntKind.wrap .u8 ((BitVec.ofInt 8 x ^^^ BitVec.ofInt 8 z).toNat : Int))) = _
  rw [hw]
end Go.VL

/- A plain model of the calls of a disk: what each returns, and the example of the chapter. -/
set_option linter.unusedVariables false
set_option linter.unusedSimpArgs false
namespace Go.VL

/-- A call. -/
structure Ca where
  kind : Int
  sector : Int
  fill : Int
  size : Int
  n : Int
  keep : List Int
def caB (a : Ca) : List B := [numB .i64 a.kind, numB .i64 a.sector, numB .u8 a.fill, numB .i64 a.size, numB .i64 a.n, slK .i64 a.keep]
theorem caB_len : ∀ a, (caB a).length = 6 := fun _ => rfl
abbrev a0 : Ca := ⟨0, 0, 0, 0, 0, []⟩
structure Ca.Ok (a : Ca) : Prop where
  fill : 0 ≤ a.fill ∧ a.fill < 256
  size : -9223372036854775808 ≤ a.size ∧ a.size ≤ 9223372036854775807
  n : -9223372036854775808 ≤ a.n ∧ a.n ≤ 9223372036854775807
  keep : a.keep.length ≤ 9223372036854775807
/-- The bytes that a call writes. -/
def bytL (fill : Int) : Nat → List Int
  | 0 => []
  | i + 1 => bytL fill i ++ [(fill + (i : Int) % 256) % 256]
def bytN (size : Int) : Nat := if size < 0 then 0 else if 100 ≤ size then 100 else size.toNat
def bytM (a : Ca) : List Int := bytL a.fill (bytN a.size)
theorem bytL_len (fill : Int) : ∀ i, (bytL fill i).length = i
  | 0 => rfl
  | i + 1 => by simp [bytL, bytL_len fill i]
theorem bytN_le (size : Int) : bytN size ≤ 100 := by unfold bytN; split <;> (try split) <;> omega
theorem bytN_of {size : Int} {i : Nat} (h1 : (i : Int) < size + 1 ∨ i = 0) (h2 : i ≤ 100) (h3 : ¬ (i : Int) < size ∨ ¬ (i : Int) < 100) : i = bytN size := by
  unfold bytN; split <;> (try split) <;> omega
theorem bytM_len (a : Ca) : (bytM a).length ≤ 100 := by rw [bytM, bytL_len]; exact bytN_le _
def eqL (A B : List Int) : Bool := decide (A = B)
theorem eqL_len {A B : List Int} (h : A.length ≠ B.length) : eqL A B = false := decide_eq_false (fun h2 => h (by rw [h2]))
theorem eqL_at {A B : List Int} {i : Nat} (h1 : i < A.length) (h2 : A.length = B.length) (h : A.getD i 0 ≠ B.getD i 0) : eqL A B = false := decide_eq_false (fun h2 => h (by rw [h2]))
theorem eqL_all {A B : List Int} {i : Nat} (h1 : ¬ i < A.length) (h2 : A.length = B.length) (h : A.take i = B.take i) : eqL A B = true := by
  refine decide_eq_true ?_
  rw [List.take_of_length_le (by omega), List.take_of_length_le (by omega)] at h
  exact h
theorem take_snoc' {A B : List Int} {i : Nat} (h1 : i < A.length) (h2 : A.length = B.length) (h : A.take i = B.take i) (hx : A.getD i 0 = B.getD i 0) : A.take (i + 1) = B.take (i + 1) := by
  rw [List.take_add_one, List.take_add_one, h]
  rw [List.getD_eq_getElem?_getD, List.getD_eq_getElem?_getD, List.getElem?_eq_getElem h1, List.getElem?_eq_getElem (by omega)] at hx
  rw [List.getElem?_eq_getElem h1, List.getElem?_eq_getElem (by omega)]
  simp only [Option.getD_some] at hx
  rw [hx]
/-- What a call does. -/
def Dk.doR (n : Nat) (d : Dk) (a : Ca) : Dk × List Int × Int :=
  if a.kind = 0 then d.readR n a.sector
  else if a.kind = 1 then ((d.writeR n a.sector (bytM a)).1, [], (d.writeR n a.sector (bytM a)).2)
  else if a.kind = 2 then (d.syncR.1, [], d.syncR.2)
  else if a.kind = 3 then (d.fuseR a.n, [], 0)
  else if a.kind = 4 then (d.bootR a.keep a.n, [], 0)
  else if a.kind = 5 then ((d.rotR n a.sector a.n).1, [], (d.rotR n a.sector a.n).2)
  else (d, [], 0)
theorem Dk.Ok.does {n m : Nat} {d : Dk} (h : d.Ok n m) {a : Ca} (ha : a.Ok) : (d.doR n a).1.Ok n (m + 1) := by
  unfold Dk.doR
  split
  · exact (h.read _).mono (Nat.le_succ _)
  · split
    · exact h.write _ _
    · split
      · exact h.sync.mono (Nat.le_succ _)
      · split
        · exact (h.fuse ha.n.2).mono (Nat.le_succ _)
        · split
          · exact (h.boot _ _).mono (Nat.le_succ _)
          · split
            · exact (h.rot _ _).mono (Nat.le_succ _)
            · exact h.mono (Nat.le_succ _)
/-- A new disk. -/
def newD (z : Nat) : Dk := ⟨List.replicate (z * 64) 0, [], -1, false⟩
theorem newD_ok {z : Nat} (h0 : 1 ≤ z) (h1 : z ≤ 1024) : (newD z).Ok (z * 64) 0 :=
  ⟨by simp [newD], by omega, by omega, by omega, by simp [newD], by simp [newD], fun w hw => by cases hw⟩
/-- The example of the chapter. -/
def wA : List Int := bytL 97 64
def wB : List Int := bytL 7 64
def wd1 : Dk := ((newD 2).writeR 128 0 wA).1
def wd2 : Dk := wd1.syncR.1
def wd3 : Dk := (wd2.writeR 128 0 wB).1
def wd4 : Dk := (wd3.readR 128 0).1
def wd5 : Dk := wd4.bootR [0] 3
def wd6 : Dk := (wd5.readR 128 0).1
def wX : List Int := (wd3.readR 128 0).2.1
def wY : List Int := (wd5.readR 128 0).2.1
theorem wd0 : (newD 2).Ok 128 0 := newD_ok (z := 2) (by decide) (by decide)
theorem wd0_ok : (newD 2).Ok 128 1 := wd0.mono (by decide)
theorem wd1_ok : wd1.Ok 128 2 := wd0_ok.write _ _
theorem wd2_ok : wd2.Ok 128 2 := wd1_ok.sync
theorem wd3_ok : wd3.Ok 128 3 := wd2_ok.write _ _
theorem wd4_ok : wd4.Ok 128 3 := wd3_ok.read _
theorem wd5_ok : wd5.Ok 128 3 := wd4_ok.boot _ _
theorem wX_len : wX.length ≤ 100 := by decide +kernel
theorem w1 : ((newD 2).writeR 128 0 wA).2 = 0 := by decide +kernel
theorem w2 : wd1.syncR.2 = 0 := by decide +kernel
theorem w3 : (wd2.writeR 128 0 wB).2 = 0 := by decide +kernel
theorem w4 : (wd3.readR 128 0).2.2 = 0 := by decide +kernel
theorem w5 : eqL wX wB = true := by decide +kernel
theorem w6 : (wd5.readR 128 0).2.2 = 0 := by decide +kernel
theorem w7 : wY.length = 64 := by decide +kernel
theorem w8 : wY.getD 2 0 = 9 := by decide +kernel
theorem w9 : wY.getD 3 0 = 100 := by decide +kernel
end Go.VL

/- From contracts by value to the given statements: arguments that are calls of a disk. -/
set_option linter.unusedVariables false
set_option linter.unusedSimpArgs false
set_option maxRecDepth 100000
namespace Go.VL
open Go.ChangeShapes Go.WideShapes Go.ChangeAt Go.RowKit Go.ChangeMaps Go.Proofs
theorem lit_u8 {x : Int} (h : (Lit.int .u8 x).wf = true) : 0 ≤ x ∧ x ≤ 255 := by
  simp only [Lit.wf, Bool.and_eq_true, decide_eq_true_eq] at h
  simp only [IntKind.min, IntKind.max, IntKind.signed, IntKind.bits] at h
  have h1 := h.1
  have h2 := h.2
  simp at h1 h2
  omega
section
variable {H : Type} {enc : TypeId × Value → H} {W : World}
def sh64 (bs : List B) : Prop := ∃ z, bs = [numB .i64 z] ∧ (Lit.int .i64 z).wf = true
theorem o3 : Opens enc Try.prog W 3 1 sh64 := Opens.int (by kernel_rfl) Try.underlying3
theorem o5 : Opens enc Try.prog W 5 1 (fun bs => ∃ z, bs = [numB .u8 z] ∧ (Lit.int .u8 z).wf = true) := Opens.int (by kernel_rfl) Try.underlying5
theorem o29 : Opens enc Try.prog W 29 1 (ShS 1 sh64) := Opens.slice (by kernel_rfl) Try.underlying29 (by decide) o3
def shCa : List B → Prop := ShF [(3, 1, sh64), (3, 1, sh64), (5, 1, fun bs => ∃ z, bs = [numB .u8 z] ∧ (Lit.int .u8 z).wf = true), (3, 1, sh64), (3, 1, sh64), (29, 1, ShS 1 sh64)]
theorem o31 : Opens enc Try.prog W 31 6 shCa := Opens.struct _ (by kernel_rfl) Try.underlying31 rfl ⟨rfl, o3, rfl, o3, rfl, o5, rfl, o3, rfl, o3, rfl, o29, trivial⟩
theorem o37 : Opens enc Try.prog W 37 1 (ShS 6 shCa) := Opens.slice (by kernel_rfl) Try.underlying37 (by decide) o31
theorem ints_of {L : List (List B)} (h : ∀ x ∈ L, x.length = 1 ∧ sh64 x) : ∃ A : List Int, L.flatten = A.map (numB .i64) ∧ A.length = L.length := by
  obtain ⟨A, h1, h2, _⟩ := as_map (Sh := sh64) (f := fun z => [numB .i64 z]) (ok := fun _ => True) (fun x ⟨z, hz, _⟩ => ⟨z, hz, trivial⟩) (fun x hx => (h x hx).2)
  refine ⟨A, ?_, h2⟩
  rw [h1]
  have : ∀ A : List Int, cellsT (fun z => [numB .i64 z]) A = A.map (numB .i64) := fun A => by
    induction A with
    | nil => rfl
    | cons x r ih => simpa [cellsT] using ih
  exact this A
theorem ca_of {x : List B} (h : shCa x) : ∃ a : Ca, x = caB a ∧ a.Ok := by
  obtain ⟨_, _, rfl, _, ⟨k, rfl, hk⟩, _, _, rfl, _, ⟨s, rfl, hs⟩, _, _, rfl, _, ⟨f, rfl, hf⟩, _, _, rfl, _, ⟨z, rfl, hz⟩, _, _, rfl, _, ⟨n, rfl, hn⟩, _, _, rfl, _, ⟨L, rfl, hL, hLl⟩, rfl⟩ := h
  obtain ⟨A, hA, hAl⟩ := ints_of hL
  have hm : maxLen ≤ 9223372036854775807 := by decide
  exact ⟨⟨k, s, f, z, n, A⟩, by rw [hA]; rfl, ⟨by have := lit_u8 hf; simp only; omega, lit_i64 hz, lit_i64 hn, by simp only; omega⟩⟩
theorem open_ca {v : Value} {d : DataW H} {p : List MemPlace} (hval : Value.okWide Try.prog W .any 0 31 v) (h : DataW.Trod enc Try.prog W 0 (fun _ => true) true 31 v d p) : ∃ a : Ca, RepB W (fun _ => True) (.agg (caB a)) v ∧ a.Ok := by
  obtain ⟨bs, h1, h2⟩ := o31.topAgg Try.underlying31 hval h
  obtain ⟨a, rfl, ha⟩ := ca_of h2
  exact ⟨a, h1, ha⟩
theorem open_cas {v : Value} {d : DataW H} {p : List MemPlace} (hval : Value.okWide Try.prog W .any 0 37 v) (h : DataW.Trod enc Try.prog W 0 (fun _ => true) true 37 v d p) :
    ∃ A : List Ca, RepB W (fun _ => True) (slT 6 caB A) v ∧ (∀ a ∈ A, a.Ok) ∧ A.length ≤ 9223372036854775807 := by
  obtain ⟨L, h1, h2, h3⟩ := o37.topSlice Try.underlying37 hval h
  obtain ⟨A, e1, e2, e3⟩ := as_map (f := caB) (ok := Ca.Ok) (fun x hx => ca_of hx) (fun x hx => (h2 x hx).2)
  have hm : maxLen ≤ 9223372036854775807 := by decide
  exact ⟨A, by rw [e1] at h1; exact h1, e3, by omega⟩
theorem open_u8 {v : Value} {d : DataW H} {p : List MemPlace} (hval : Value.okWide Try.prog W .any 0 5 v) (h : DataW.Trod enc Try.prog W 0 (fun _ => true) true 5 v d p) :
    ∃ n : Int, RepB W (fun _ => True) (numB .u8 n) v ∧ 0 ≤ n ∧ n ≤ 255 := by
  obtain ⟨n, rfl, _, _, hw⟩ := open_int Try.underlying5 hval h
  exact ⟨n, .lit _ rfl, lit_u8 hw⟩
theorem T31 : Try.prog.readableRec 31 = true ∧ 31 < Try.prog.types.size := ⟨by kernel_rfl, of_decide_eq_true (by kernel_rfl)⟩
theorem T37 : Try.prog.readableRec 37 = true ∧ 37 < Try.prog.types.size := ⟨by kernel_rfl, of_decide_eq_true (by kernel_rfl)⟩
theorem T5 : Try.prog.readableRec 5 = true ∧ 5 < Try.prog.types.size := ⟨by kernel_rfl, of_decide_eq_true (by kernel_rfl)⟩
end
end Go.VL

/- Facts of the program's head that the rows ask for. -/
set_option linter.unusedVariables false
set_option maxRecDepth 100000
namespace Go.Proofs.Ytpoolpppmgacnaa
theorem init_lit : "harness 5d359c8752bcff62afb15ae56aa98b23305c112e2826fedfd662e80469ed0a36 cut at straightedge/straightedgelaw29.DiskApart straightedge/straightedgelaw29.DiskKeeps straightedge/straightedgelaw29.DiskTears straightedge/straightedgelaw29.DiskPlays straightedge/straightedgelaw29.DiskEnds straightedge/straightedgelaw29.DiskNil straightedge/straightedgelaw29.DiskFuses straightedge/straightedgelaw30.JournalMatchesChecksum straightedge/straightedgelaw30.JournalContinues straightedge/straightedgelaw30.JournalRoom straightedge/straightedgelaw30.JournalOwns straightedge/straightedgelaw30.JournalRots straightedge/straightedgelaw30.JournalSurvives straightedge/straightedgelaw30.JournalMatches" = String.ofList ([Char.ofNat 104, Char.ofNat 97, Char.ofNat 114, Char.ofNat 110, Char.ofNat 101, Char.ofNat 115, Char.ofNat 115, Char.ofNat 32, Char.ofNat 53, Char.ofNat 100, Char.ofNat 51, Char.ofNat 53, Char.ofNat 57, Char.ofNat 99, Char.ofNat 56, Char.ofNat 55, Char.ofNat 53, Char.ofNat 50, Char.ofNat 98, Char.ofNat 99, Char.ofNat 102, Char.ofNat 102, Char.ofNat 54, Char.ofNat 50, Char.ofNat 97, Char.ofNat 102, Char.ofNat 98, Char.ofNat 49, Char.ofNat 53, Char.ofNat 97, Char.ofNat 101, Char.ofNat 53, Char.ofNat 54, Char.ofNat 97, Char.ofNat 97, Char.ofNat 57, Char.ofNat 56, Char.ofNat 98, Char.ofNat 50, Char.ofNat 51, Char.ofNat 51, Char.ofNat 48, Char.ofNat 53, Char.ofNat 99, Char.ofNat 49, Char.ofNat 49, Char.ofNat 50, Char.ofNat 101, Char.ofNat 50, Char.ofNat 56, Char.ofNat 50, Char.ofNat 54, Char.ofNat 102, Char.ofNat 101, Char.ofNat 100, Char.ofNat 102, Char.ofNat 100, Char.ofNat 54, Char.ofNat 54, Char.ofNat 50, Char.ofNat 101, Char.ofNat 56, Char.ofNat 48, Char.ofNat 52, Char.ofNat 54, Char.ofNat 57, Char.ofNat 101, Char.ofNat 100, Char.ofNat 48, Char.ofNat 97, Char.ofNat 51, Char.ofNat 54, Char.ofNat 32, Char.ofNat 99, Char.ofNat 117, Char.ofNat 116] ++ Char.ofNat 32 :: [Char.ofNat 97, Char.ofNat 116, Char.ofNat 32, Char.ofNat 115, Char.ofNat 116, Char.ofNat 114, Char.ofNat 97, Char.ofNat 105, Char.ofNat 103, Char.ofNat 104, Char.ofNat 116, Char.ofNat 101, Char.ofNat 100, Char.ofNat 103, Char.ofNat 101, Char.ofNat 47, Char.ofNat 115, Char.ofNat 116, Char.ofNat 114, Char.ofNat 97, Char.ofNat 105, Char.ofNat 103, Char.ofNat 104, Char.ofNat 116, Char.ofNat 101, Char.ofNat 100, Char.ofNat 103, Char.ofNat 101, Char.ofNat 108, Char.ofNat 97, Char.ofNat 119, Char.ofNat 50, Char.ofNat 57, Char.ofNat 46, Char.ofNat 68, Char.ofNat 105, Char.ofNat 115, Char.ofNat 107, Char.ofNat 65, Char.ofNat 112, Char.ofNat 97, Char.ofNat 114, Char.ofNat 116, Char.ofNat 32, Char.ofNat 115, Char.ofNat 116, Char.ofNat 114, Char.ofNat 97, Char.ofNat 105, Char.ofNat 103, Char.ofNat 104, Char.ofNat 116, Char.ofNat 101, Char.ofNat 100, Char.ofNat 103, Char.ofNat 101, Char.ofNat 47, Char.ofNat 115, Char.ofNat 116, Char.ofNat 114, Char.ofNat 97, Char.ofNat 105, Char.ofNat 103, Char.ofNat 104, Char.ofNat 116, Char.ofNat 101, Char.ofNat 100, Char.ofNat 103, Char.ofNat 101, Char.ofNat 108, Char.ofNat 97, Char.ofNat 119, Char.ofNat 50, Char.ofNat 57, Char.ofNat 46, Char.ofNat 68, Char.ofNat 105, Char.ofNat 115, Char.ofNat 107, Char.ofNat 75, Char.ofNat 101, Char.ofNat 101, Char.ofNat 112, Char.ofNat 115, Char.ofNat 32, Char.ofNat 115, Char.ofNat 116, Char.ofNat 114, Char.ofNat 97, Char.ofNat 105, Char.ofNat 103, Char.ofNat 104, Char.ofNat 116, Char.ofNat 101, Char.ofNat 100, Char.ofNat 103, Char.ofNat 101, Char.ofNat 47, Char.ofNat 115, Char.ofNat 116, Char.ofNat 114, Char.ofNat 97, Char.ofNat 105, Char.ofNat 103, Char.ofNat 104, Char.ofNat 116, Char.ofNat 101, Char.ofNat 100, Char.ofNat 103, Char.ofNat 101, Char.ofNat 108, Char.ofNat 97, Char.ofNat 119, Char.ofNat 50, Char.ofNat 57, Char.ofNat 46, Char.ofNat 68, Char.ofNat 105, Char.ofNat 115, Char.ofNat 107, Char.ofNat 84, Char.ofNat 101, Char.ofNat 97, Char.ofNat 114, Char.ofNat 115, Char.ofNat 32, Char.ofNat 115, Char.ofNat 116, Char.ofNat 114, Char.ofNat 97, Char.ofNat 105, Char.ofNat 103, Char.ofNat 104, Char.ofNat 116, Char.ofNat 101, Char.ofNat 100, Char.ofNat 103, Char.ofNat 101, Char.ofNat 47, Char.ofNat 115, Char.ofNat 116, Char.ofNat 114, Char.ofNat 97, Char.ofNat 105, Char.ofNat 103, Char.ofNat 104, Char.ofNat 116, Char.ofNat 101, Char.ofNat 100, Char.ofNat 103, Char.ofNat 101, Char.ofNat 108, Char.ofNat 97, Char.ofNat 119, Char.ofNat 50, Char.ofNat 57, Char.ofNat 46, Char.ofNat 68, Char.ofNat 105, Char.ofNat 115, Char.ofNat 107, Char.ofNat 80, Char.ofNat 108, Char.ofNat 97, Char.ofNat 121, Char.ofNat 115, Char.ofNat 32, Char.ofNat 115, Char.ofNat 116, Char.ofNat 114, Char.ofNat 97, Char.ofNat 105, Char.ofNat 103, Char.ofNat 104, Char.ofNat 116, Char.ofNat 101, Char.ofNat 100, Char.ofNat 103, Char.ofNat 101, Char.ofNat 47, Char.ofNat 115, Char.ofNat 116, Char.ofNat 114, Char.ofNat 97, Char.ofNat 105, Char.ofNat 103, Char.ofNat 104, Char.ofNat 116, Char.ofNat 101, Char.ofNat 100, Char.ofNat 103, Char.ofNat 101, Char.ofNat 108, Char.ofNat 97, Char.ofNat 119, Char.ofNat 50, Char.ofNat 57, Char.ofNat 46, Char.ofNat 68, Char.ofNat 105, Char.ofNat 115, Char.ofNat 107, Char.ofNat 69, Char.ofNat 110, Char.ofNat 100, Char.ofNat 115, Char.ofNat 32, Char.ofNat 115, Char.ofNat 116, Char.ofNat 114, Char.ofNat 97, Char.ofNat 105, Char.ofNat 103, Char.ofNat 104, Char.ofNat 116, Char.ofNat 101, Char.ofNat 100, Char.ofNat 103, Char.ofNat 101, Char.ofNat 47, Char.ofNat 115, Char.ofNat 116, Char.ofNat 114, Char.ofNat 97, Char.ofNat 105, Char.ofNat 103, Char.ofNat 104, Char.ofNat 116, Char.ofNat 101, Char.ofNat 100, Char.ofNat 103, Char.ofNat 101, Char.ofNat 108, Char.ofNat 97, Char.ofNat 119, Char.ofNat 50, Char.ofNat 57, Char.ofNat 46, Char.ofNat 68, Char.ofNat 105, Char.ofNat 115, Char.ofNat 107, Char.ofNat 78, Char.ofNat 105, Char.ofNat 108, Char.ofNat 32, Char.ofNat 115, Char.ofNat 116, Char.ofNat 114, Char.ofNat 97, Char.ofNat 105, Char.ofNat 103, Char.ofNat 104, Char.ofNat 116, Char.ofNat 101, Char.ofNat 100, Char.ofNat 103, Char.ofNat 101, Char.ofNat 47, Char.ofNat 115, Char.ofNat 116, Char.ofNat 114, Char.ofNat 97, Char.ofNat 105, Char.ofNat 103, Char.ofNat 104, Char.ofNat 116, Char.ofNat 101, Char.ofNat 100, Char.ofNat 103, Char.ofNat 101, Char.ofNat 108, Char.ofNat 97, Char.ofNat 119, Char.ofNat 50, Char.ofNat 57, Char.ofNat 46, Char.ofNat 68, Char.ofNat 105, Char.ofNat 115, Char.ofNat 107, Char.ofNat 70, Char.ofNat 117, Char.ofNat 115, Char.ofNat 101, Char.ofNat 115, Char.ofNat 32, Char.ofNat 115, Char.ofNat 116, Char.ofNat 114, Char.ofNat 97, Char.ofNat 105, Char.ofNat 103, Char.ofNat 104, Char.ofNat 116, Char.ofNat 101, Char.ofNat 100, Char.ofNat 103, Char.ofNat 101, Char.ofNat 47, Char.ofNat 115, Char.ofNat 116, Char.ofNat 114, Char.ofNat 97, Char.ofNat 105, Char.ofNat 103, Char.ofNat 104, Char.ofNat 116, Char.ofNat 101, Char.ofNat 100, Char.ofNat 103, Char.ofNat 101, Char.ofNat 108, Char.ofNat 97, Char.ofNat 119, Char.ofNat 51, Char.ofNat 48, Char.ofNat 46, Char.ofNat 74, Char.ofNat 111, Char.ofNat 117, Char.ofNat 114, Char.ofNat 110, Char.ofNat 97, Char.ofNat 108, Char.ofNat 77, Char.ofNat 97, Char.ofNat 116, Char.ofNat 99, Char.ofNat 104, Char.ofNat 101, Char.ofNat 115, Char.ofNat 67, Char.ofNat 104, Char.ofNat 101, Char.ofNat 99, Char.ofNat 107, Char.ofNat 115, Char.ofNat 117, Char.ofNat 109, Char.ofNat 32, Char.ofNat 115, Char.ofNat 116, Char.ofNat 114, Char.ofNat 97, Char.ofNat 105, Char.ofNat 103, Char.ofNat 104, Char.ofNat 116, Char.ofNat 101, Char.ofNat 100, Char.ofNat 103, Char.ofNat 101, Char.ofNat 47, Char.ofNat 115, Char.ofNat 116, Char.ofNat 114, Char.ofNat 97, Char.ofNat 105, Char.ofNat 103, Char.ofNat 104, Char.ofNat 116, Char.ofNat 101, Char.ofNat 100, Char.ofNat 103, Char.ofNat 101, Char.ofNat 108, Char.ofNat 97, Char.ofNat 119, Char.ofNat 51, Char.ofNat 48, Char.ofNat 46, Char.ofNat 74, Char.ofNat 111, Char.ofNat 117, Char.ofNat 114, Char.ofNat 110, Char.ofNat 97, Char.ofNat 108, Char.ofNat 67, Char.ofNat 111, Char.ofNat 110, Char.ofNat 116, Char.ofNat 105, Char.ofNat 110, Char.ofNat 117, Char.ofNat 101, Char.ofNat 115, Char.ofNat 32, Char.ofNat 115, Char.ofNat 116, Char.ofNat 114, Char.ofNat 97, Char.ofNat 105, Char.ofNat 103, Char.ofNat 104, Char.ofNat 116, Char.ofNat 101, Char.ofNat 100, Char.ofNat 103, Char.ofNat 101, Char.ofNat 47, Char.ofNat 115, Char.ofNat 116, Char.ofNat 114, Char.ofNat 97, Char.ofNat 105, Char.ofNat 103, Char.ofNat 104, Char.ofNat 116, Char.ofNat 101, Char.ofNat 100, Char.ofNat 103, Char.ofNat 101, Char.ofNat 108, Char.ofNat 97, Char.ofNat 119, Char.ofNat 51, Char.ofNat 48, Char.ofNat 46, Char.ofNat 74, Char.ofNat 111, Char.ofNat 117, Char.ofNat 114, Char.ofNat 110, Char.ofNat 97, Char.ofNat 108, Char.ofNat 82, Char.ofNat 111, Char.ofNat 111, Char.ofNat 109, Char.ofNat 32, Char.ofNat 115, Char.ofNat 116, Char.ofNat 114, Char.ofNat 97, Char.ofNat 105, Char.ofNat 103, Char.ofNat 104, Char.ofNat 116, Char.ofNat 101, Char.ofNat 100, Char.ofNat 103, Char.ofNat 101, Char.ofNat 47, Char.ofNat 115, Char.ofNat 116, Char.ofNat 114, Char.ofNat 97, Char.ofNat 105, Char.ofNat 103, Char.ofNat 104, Char.ofNat 116, Char.ofNat 101, Char.ofNat 100, Char.ofNat 103, Char.ofNat 101, Char.ofNat 108, Char.ofNat 97, Char.ofNat 119, Char.ofNat 51, Char.ofNat 48, Char.ofNat 46, Char.ofNat 74, Char.ofNat 111, Char.ofNat 117, Char.ofNat 114, Char.ofNat 110, Char.ofNat 97, Char.ofNat 108, Char.ofNat 79, Char.ofNat 119, Char.ofNat 110, Char.ofNat 115, Char.ofNat 32, Char.ofNat 115, Char.ofNat 116, Char.ofNat 114, Char.ofNat 97, Char.ofNat 105, Char.ofNat 103, Char.ofNat 104, Char.ofNat 116, Char.ofNat 101, Char.ofNat 100, Char.ofNat 103, Char.ofNat 101, Char.ofNat 47, Char.ofNat 115, Char.ofNat 116, Char.ofNat 114, Char.ofNat 97, Char.ofNat 105, Char.ofNat 103, Char.ofNat 104, Char.ofNat 116, Char.ofNat 101, Char.ofNat 100, Char.ofNat 103, Char.ofNat 101, Char.ofNat 108, Char.ofNat 97, Char.ofNat 119, Char.ofNat 51, Char.ofNat 48, Char.ofNat 46, Char.ofNat 74, Char.ofNat 111, Char.ofNat 117, Char.ofNat 114, Char.ofNat 110, Char.ofNat 97, Char.ofNat 108, Char.ofNat 82, Char.ofNat 111, Char.ofNat 116, Char.ofNat 115, Char.ofNat 32, Char.ofNat 115, Char.ofNat 116, Char.ofNat 114, Char.ofNat 97, Char.ofNat 105, Char.ofNat 103, Char.ofNat 104, Char.ofNat 116, Char.ofNat 101, Char.ofNat 100, Char.ofNat 103, Char.ofNat 101, Char.ofNat 47, Char.ofNat 115, Char.ofNat 116, Char.ofNat 114, Char.ofNat 97, Char.ofNat 105, Char.ofNat 103, Char.ofNat 104, Char.ofNat 116, Char.ofNat 101, Char.ofNat 100, Char.ofNat 103, Char.ofNat 101, Char.ofNat 108, Char.ofNat 97, Char.ofNat 119, Char.ofNat 51, Char.ofNat 48, Char.ofNat 46, Char.ofNat 74, Char.ofNat 111, Char.ofNat 117, Char.ofNat 114, Char.ofNat 110, Char.ofNat 97, Char.ofNat 108, Char.ofNat 83, Char.ofNat 117, Char.ofNat 114, Char.ofNat 118, Char.ofNat 105, Char.ofNat 118, Char.ofNat 101, Char.ofNat 115, Char.ofNat 32, Char.ofNat 115, Char.ofNat 116, Char.ofNat 114, Char.ofNat 97, Char.ofNat 105, Char.ofNat 103, Char.ofNat 104, Char.ofNat 116, Char.ofNat 101, Char.ofNat 100, Char.ofNat 103, Char.ofNat 101, Char.ofNat 47, Char.ofNat 115, Char.ofNat 116, Char.ofNat 114, Char.ofNat 97, Char.ofNat 105, Char.ofNat 103, Char.ofNat 104, Char.ofNat 116, Char.ofNat 101, Char.ofNat 100, Char.ofNat 103, Char.ofNat 101, Char.ofNat 108, Char.ofNat 97, Char.ofNat 119, Char.ofNat 51, Char.ofNat 48, Char.ofNat 46, Char.ofNat 74, Char.ofNat 111, Char.ofNat 117, Char.ofNat 114, Char.ofNat 110, Char.ofNat 97, Char.ofNat 108, Char.ofNat 77, Char.ofNat 97, Char.ofNat 116, Char.ofNat 99, Char.ofNat 104, Char.ofNat 101, Char.ofNat 115]) := rfl
theorem init_gen (X : List Char) : behindMainWord (wordsSigns ([Char.ofNat 104, Char.ofNat 97, Char.ofNat 114, Char.ofNat 110, Char.ofNat 101, Char.ofNat 115, Char.ofNat 115, Char.ofNat 32, Char.ofNat 53, Char.ofNat 100, Char.ofNat 51, Char.ofNat 53, Char.ofNat 57, Char.ofNat 99, Char.ofNat 56, Char.ofNat 55, Char.ofNat 53, Char.ofNat 50, Char.ofNat 98, Char.ofNat 99, Char.ofNat 102, Char.ofNat 102, Char.ofNat 54, Char.ofNat 50, Char.ofNat 97, Char.ofNat 102, Char.ofNat 98, Char.ofNat 49, Char.ofNat 53, Char.ofNat 97, Char.ofNat 101, Char.ofNat 53, Char.ofNat 54, Char.ofNat 97, Char.ofNat 97, Char.ofNat 57, Char.ofNat 56, Char.ofNat 98, Char.ofNat 50, Char.ofNat 51, Char.ofNat 51, Char.ofNat 48, Char.ofNat 53, Char.ofNat 99, Char.ofNat 49, Char.ofNat 49, Char.ofNat 50, Char.ofNat 101, Char.ofNat 50, Char.ofNat 56, Char.ofNat 50, Char.ofNat 54, Char.ofNat 102, Char.ofNat 101, Char.ofNat 100, Char.ofNat 102, Char.ofNat 100, Char.ofNat 54, Char.ofNat 54, Char.ofNat 50, Char.ofNat 101, Char.ofNat 56, Char.ofNat 48, Char.ofNat 52, Char.ofNat 54, Char.ofNat 57, Char.ofNat 101, Char.ofNat 100, Char.ofNat 48, Char.ofNat 97, Char.ofNat 51, Char.ofNat 54, Char.ofNat 32, Char.ofNat 99, Char.ofNat 117, Char.ofNat 116] ++ Char.ofNat 32 :: X)) = [Char.ofNat 99, Char.ofNat 117, Char.ofNat 116] :: wordsSigns X := by rfl
theorem init_words : ∃ R, behindMainWord (wordsSigns Try.pinned.checked.prog.initOrder.toList) = [Char.ofNat 99, Char.ofNat 117, Char.ofNat 116] :: R :=
  ⟨_, (congrArg (fun l => behindMainWord (wordsSigns l)) ((congrArg String.toList init_lit).trans String.toList_ofList)).trans (init_gen _)⟩
theorem strip (R : List (List Char)) : stripLifts liftWords ([Char.ofNat 99, Char.ofNat 117, Char.ofNat 116] :: R) = ([], [Char.ofNat 99, Char.ofNat 117, Char.ofNat 116] :: R) := by rfl
theorem may_gen (P : Program) (R : List (List Char)) (h : behindMainWord (wordsSigns P.initOrder.toList) = [Char.ofNat 99, Char.ofNat 117, Char.ofNat 116] :: R) (h1 : P.laysLater = false) (h2 : P.bearsReflect = false) (h3 : P.doorFits [] = true) : P.mayEnter = true := by
  unfold Program.mayEnter
  rw [h]
  simp only [strip]
  rw [h1, h2, h3]
  rfl
theorem lifts_gen (P : Program) (R : List (List Char)) (h : behindMainWord (wordsSigns P.initOrder.toList) = [Char.ofNat 99, Char.ofNat 117, Char.ofNat 116] :: R) : P.liftsFinal = false := by
  unfold Program.liftsFinal Program.headLifts
  rw [h]
  simp only [strip]
  rfl
theorem make_gen (P : Program) (R : List (List Char)) (h : behindMainWord (wordsSigns P.initOrder.toList) = [Char.ofNat 99, Char.ofNat 117, Char.ofNat 116] :: R) : P.make = some .cut := by
  unfold Program.make
  rw [h]
  rfl
theorem head_may : Try.pinned.checked.prog.mayEnter = true := by
  obtain ⟨R, h⟩ := init_words
  exact may_gen _ R h (by kernel_rfl) (by kernel_rfl) (by kernel_rfl)
theorem head_lifts : Try.pinned.checked.prog.liftsFinal = false := by
  obtain ⟨R, h⟩ := init_words
  exact lifts_gen _ R h
theorem head_make : Try.pinned.checked.prog.make = some .cut := by
  obtain ⟨R, h⟩ := init_words
  exact make_gen _ R h
end Go.Proofs.Ytpoolpppmgacnaa

/- A small program logic over the translated Go code, further part: parts of a slice that is told by its contents. -/
set_option linter.unusedVariables false
namespace Go.VL
section
variable {P : Program} {ops : Array Oper} {o : Oper} {n d : Nat} {s : Slots} {E : Env} {T el by' : Nat} {x lo hi : Operand} {ik ik' ik2 : IntKind} {L : List Int} {a b : Int} {z' : B}
theorem Cfr (K : SlT P T el z' by') (h : (runs ops s o.guard, o.dst, o.op, ev s x, ev s lo) = (some true, some d, .slice T x (some lo) none none, some (.b (slK ik L)), some (vI ik' a))) (h0 : 0 ≤ a := by omega) (h1 : a ≤ L.length := by omega) :
    Stp P ops o n s E (n + 1) (setAt s d (some (.b (slK ik (L.drop a.toNat))))) E [] := by
  simp only [Prod.mk.injEq] at h; obtain ⟨h2, h3, h4, h5, h6⟩ := h
  refine st0 h2 h3 (h4 ▸ ?_)
  have := Eff.slSl (P := P) (id := n) (E := E) T x (some lo) none 1 (L.map (numB ik)) el ik' ik' a _ h5 K.u K.s (.inr ⟨lo, rfl, h6⟩) (.inl ⟨rfl, rfl⟩) h0 (by simp; omega) (by simp)
  simp only [Nat.mul_one, Nat.div_one, Int.toNat_natCast, List.take_length, ← List.map_drop] at this
  exact this
theorem Cbt (K : SlT P T el z' by') (h : (runs ops s o.guard, o.dst, o.op, ev s x, ev s lo, ev s hi) = (some true, some d, .slice T x (some lo) (some hi) none, some (.b (slK ik L)), some (vI ik' a), some (vI ik2 b))) (h0 : 0 ≤ a := by omega) (h1 : a ≤ b := by omega) (h2 : b ≤ L.length := by omega) :
    Stp P ops o n s E (n + 1) (setAt s d (some (.b (slK ik ((L.take b.toNat).drop a.toNat))))) E [] := by
  simp only [Prod.mk.injEq] at h; obtain ⟨g2, g3, g4, g5, g6, g7⟩ := h
  refine st0 g2 g3 (g4 ▸ ?_)
  have := Eff.slSl (P := P) (id := n) (E := E) T x (some lo) (some hi) 1 (L.map (numB ik)) el ik' ik2 a b g5 K.u K.s (.inr ⟨lo, rfl, g6⟩) (.inr ⟨hi, rfl, g7⟩) h0 h1 (by simp; omega)
  simp only [Nat.mul_one, ← List.map_take, ← List.map_drop] at this
  exact this
end
end Go.VL

/- A plain model of a disk: with a fuse so many operations succeed. -/
set_option linter.unusedVariables false
set_option linter.unusedSimpArgs false
namespace Go.VL
def andB (x y : Int) : Int := IntKind.i64.wrap ((BitVec.ofInt 64 x &&& BitVec.ofInt 64 y).toNat : Int)
theorem bop_andI {x y : Int} : bop .and (.int .i64 x) (.int .i64 y) = some (.int .i64 (andB x y)) := rfl
theorem andB_le (x : Int) (k : Nat) (h : k < 2 ^ 63) : 0 ≤ andB x k ∧ andB x k ≤ k := by
  have h1 : (BitVec.ofInt 64 x &&& BitVec.ofInt 64 (k : Int)).toNat ≤ k := by
    rw [BitVec.toNat_and]
    have h2 : (BitVec.ofInt 64 (k : Int)).toNat = k := by
      rw [BitVec.ofInt_natCast, BitVec.toNat_ofNat]
      exact Nat.mod_eq_of_lt (by omega)
    rw [h2]
    exact Nat.and_le_right
  have hw := wrap_i64 (x := ((BitVec.ofInt 64 x &&& BitVec.ofInt 64 (k : Int)).toNat : Int)) (by omega)
  unfold andB
  rw [hw]
  omega
/-- How a fuse of q stands behind so many operations that succeeded. -/
def FuI (q : Int) (d : Dk) (done : Int) : Prop := 0 ≤ done ∧ done ≤ q ∧ ((d.off = false ∧ d.fuse = q - done) ∨ (d.off = true ∧ done = q))
section
variable {n m : Nat} {q done : Int} {d : Dk}
theorem fu_out (h : FuI q d done) (h0 : d.off = false) (h1 : d.out = true) : done = q ∧ d.burn.off = true ∧ FuI q d.burn done := by
  have h2 : d.fuse = 0 := by simpa [Dk.out] using h1
  obtain ⟨a, b, c⟩ := h
  have h3 : done = q := by
    rcases c with c | c
    · omega
    · exact c.2
  have h4 : d.burn = { d with fuse := -1, off := true } := by rw [Dk.burn, if_pos h2]
  rw [h4]
  exact ⟨h3, rfl, a, b, .inr ⟨rfl, h3⟩⟩
theorem fu_in (h : FuI q d done) (h0 : d.off = false) (h1 : d.out = false) : done ≠ q ∧ d.burn.off = false ∧ FuI q d.burn (done + 1) := by
  have h2 : d.fuse ≠ 0 := by simpa [Dk.out] using h1
  obtain ⟨a, b, c⟩ := h
  have h3 : d.fuse = q - done := by
    rcases c with c | c
    · exact c.2
    · rw [h0] at c; exact absurd c.1 (by decide)
  have h4 : d.burn = { d with fuse := d.fuse - 1 } := by rw [Dk.burn, if_neg h2, if_pos (by omega)]
  rw [h4]
  exact ⟨by omega, h0, by omega, by omega, .inl ⟨h0, by simp only; omega⟩⟩
theorem fuse_step {a : Ca} (h : FuI q d done) (h0 : ¬ a.kind < 0) (h2 : ¬ a.kind > 2) :
    ((d.doR n a).2.2 = 0 ∧ d.off = false ∧ done ≠ q ∧ (d.doR n a).1.off = false ∧ FuI q (d.doR n a).1 (done + 1)) ∨ ((d.doR n a).2.2 = 1 ∧ d.off = false ∧ (d.doR n a).1.off = false ∧ FuI q (d.doR n a).1 done) ∨
      ((d.doR n a).2.2 = 290 ∧ (d.off = false → done = q) ∧ (d.doR n a).1.off = true ∧ FuI q (d.doR n a).1 done) := by
  unfold Dk.doR
  by_cases k0 : a.kind = 0
  · rw [if_pos k0]
    unfold Dk.readR
    cases ho : d.off with
    | true => rw [if_pos rfl]; exact .inr (.inr ⟨rfl, (fun hc => by cases hc), ho, h⟩)
    | false =>
      rw [if_neg (by decide)]
      cases hh : hasS n a.sector with
      | false => rw [if_pos rfl]; exact .inr (.inl ⟨rfl, rfl, ho, h⟩)
      | true =>
        rw [if_neg (by decide)]
        cases hu : d.out with
        | true => obtain ⟨e1, e2, e3⟩ := fu_out h ho hu; rw [if_pos rfl]; exact .inr (.inr ⟨rfl, fun _ => e1, e2, e3⟩)
        | false => obtain ⟨e1, e2, e3⟩ := fu_in h ho hu; rw [if_neg (by decide)]; exact .inl ⟨rfl, rfl, e1, e2, e3⟩
  rw [if_neg k0]
  by_cases k1 : a.kind = 1
  · rw [if_pos k1]
    unfold Dk.writeR
    cases ho : d.off with
    | true => rw [if_pos rfl]; exact .inr (.inr ⟨rfl, (fun hc => by cases hc), ho, h⟩)
    | false =>
      rw [if_neg (by decide)]
      by_cases hh : hasS n a.sector = false ∨ (bytM a).length ≠ 64
      · rw [if_pos hh]; exact .inr (.inl ⟨rfl, rfl, ho, h⟩)
      · rw [if_neg hh]
        cases hu : d.out with
        | true => obtain ⟨e1, e2, e3⟩ := fu_out h ho hu; exact .inr (.inr ⟨rfl, fun _ => e1, e2, e3⟩)
        | false => obtain ⟨e1, e2, e3⟩ := fu_in h ho hu; exact .inl ⟨rfl, rfl, e1, e2, e3⟩
  rw [if_neg k1, if_pos (show a.kind = 2 by omega)]
  unfold Dk.syncR
  cases ho : d.off with
  | true => rw [if_pos rfl]; exact .inr (.inr ⟨rfl, (fun hc => by cases hc), ho, h⟩)
  | false =>
    rw [if_neg (by decide)]
    cases hu : d.out with
    | true => obtain ⟨e1, e2, e3⟩ := fu_out h ho hu; rw [if_pos rfl]; exact .inr (.inr ⟨rfl, fun _ => e1, e2, e3⟩)
    | false => obtain ⟨e1, e2, e3⟩ := fu_in h ho hu; rw [if_neg (by decide)]; exact .inl ⟨rfl, rfl, e1, e2, e3⟩
theorem fu_start (h0 : 0 ≤ q) (h1 : q ≤ 15) : FuI q ((newD 4).fuseR q) 0 := ⟨by omega, h0, .inl ⟨rfl, by simp only [Dk.fuseR, newD]; rw [if_neg (by omega)]; omega⟩⟩
theorem fu_ok (h1 : q ≤ 15) : ((newD 4).fuseR q).Ok 256 0 := (newD_ok (z := 4) (by decide) (by decide)).fuse (by omega)
theorem new4_ok : (newD 4).Ok 256 0 := newD_ok (z := 4) (by decide) (by decide)
end
end Go.VL

/- A plain model of a disk: what was durable stays, but where a write is pending. -/
set_option linter.unusedVariables false
set_option linter.unusedSimpArgs false
namespace Go.VL
theorem cpw_get {D L : List Int} {off m : Nat} (h : off + m ≤ D.length) (j : Nat) : (cpw D off m L)[j]? = if off ≤ j ∧ j < off + min L.length m then L[j - off]? else D[j]? := by
  have hm : Nat.min L.length m = min L.length m := rfl
  simp only [cpw, hm]
  have hle := Nat.min_le_right L.length m
  have hle2 := Nat.min_le_left L.length m
  generalize min L.length m = q at hle hle2
  by_cases h1 : j < off
  · rw [List.getElem?_append_left (by simp; omega), List.getElem?_take_of_lt h1, if_neg (by omega)]
  · rw [List.getElem?_append_right (by simp; omega), List.length_take, Nat.min_eq_left (by omega)]
    by_cases h2 : j < off + q
    · rw [List.getElem?_append_left (by simp; omega), List.getElem?_take_of_lt (by omega), if_pos ⟨by omega, h2⟩]
    · rw [List.getElem?_append_right (by simp; omega), List.length_take, Nat.min_eq_left (by omega), List.getElem?_drop, if_neg (by omega)]
      congr 1; omega
theorem sec_get {D : List Int} {s : Int} (j : Nat) : (sec D s)[j]? = if j < 64 then D[(s * 64).toNat + j]? else none := by
  simp only [sec]
  split
  · rename_i h; rw [List.getElem?_take_of_lt h, List.getElem?_drop]
  · rename_i h; rw [List.getElem?_eq_none (by simp; omega)]
theorem sec_put {D b : List Int} {s i : Int} (h0 : 0 ≤ s) (h1 : s * 64 + 64 ≤ D.length) (hi : 0 ≤ i) (hne : s ≠ i) : sec (put D s b) i = sec D i := by
  apply List.ext_getElem?
  intro j
  rw [sec_get, sec_get]
  split
  · rename_i hj
    have := Nat.min_le_right b.length 64
    rw [put, cpw_get (by omega), if_neg (by omega)]
  · rfl
theorem rdS_nil {d : Dk} (h : d.pen = []) {s : Int} (h0 : 0 ≤ s) (h1 : s * 64 + 64 ≤ d.dur.length) : rdS d s = sec d.dur s := by
  rw [rdS, h]
  exact cpw_all (by simp) (sec_len h0 h1)
theorem boL_sec {K : List Bool} {last torn : Int} {P : List Pen} {D : List Int} {i : Int} (hi : 0 ≤ i) (hp : ∀ w ∈ P, 0 ≤ w.1 ∧ w.1 * 64 + 64 ≤ (D.length : Int)) (hn : ∀ w ∈ P, w.1 ≠ i) :
    ∀ j, j ≤ P.length → (boL K last torn P D j).length = D.length ∧ sec (boL K last torn P D j) i = sec D i
  | 0, _ => ⟨rfl, rfl⟩
  | j + 1, h => by
    obtain ⟨e1, e2⟩ := boL_sec hi hp hn (K := K) (last := last) (torn := torn) j (by omega)
    have hm : P.getD j w0 ∈ P := getD_mem' (by omega)
    obtain ⟨a, b⟩ := hp _ hm
    simp only [boL]
    split
    · exact ⟨by rw [put_len a (by rw [e1]; exact b)]; exact e1, by rw [sec_put a (by rw [e1]; exact b) hi (hn _ hm)]; exact e2⟩
    · exact ⟨e1, e2⟩
section
variable {n m : Nat} {d : Dk}
theorem Dk.Ok.boot0 (h : d.Ok n m) (keep : List Int) (torn : Int) : (d.bootR keep torn).Ok n 0 := { h.boot keep torn with pen := Nat.le_refl _ }
theorem boot_sync (keep : List Int) (torn : Int) : (d.bootR keep torn).syncR = (d.bootR keep torn, 0) := rfl
theorem burn_none (h : d.fuse = -1) : d.burn = d := by rw [Dk.burn, if_neg (by omega), if_neg (by omega)]
theorem out_none (h : d.fuse = -1) : d.out = false := by simp [Dk.out, h]
theorem read_up (h0 : d.off = false) (h : d.fuse = -1) {s : Int} (hs : hasS n s = true) : d.readR n s = (d, rdS d s, 0) := by
  rw [Dk.readR, if_neg (by simp [h0]), if_neg (by simp [hs]), if_neg (by simp [out_none h]), burn_none h]
theorem hasS_of {z : Nat} {s : Int} (h0 : 0 ≤ s) (h1 : s < z) : hasS (z * 64) s = true := by
  simp only [hasS, Bool.and_eq_true, decide_eq_true_eq]; omega
def rwB (l : List Int) : List B := [slK .u8 l]
theorem rwB_len : ∀ l, (rwB l).length = 1 := fun _ => rfl
/-- All sectors, the first i of them. -/
def alL (d : Dk) : Nat → List (List Int)
  | 0 => []
  | i + 1 => alL d i ++ [rdS d i]
theorem alL_len : ∀ i, (alL d i).length = i
  | 0 => rfl
  | i + 1 => by simp [alL, alL_len i]
theorem alL_at {j : Nat} : ∀ i, j < i → (alL d i).getD j [] = rdS d j
  | 0, h => by omega
  | i + 1, h => by
    simp only [alL, List.getD_eq_getElem?_getD]
    by_cases hj : j < i
    · rw [List.getElem?_append_left (by rw [alL_len]; exact hj), ← List.getD_eq_getElem?_getD]; exact alL_at i hj
    · have : j = i := by omega
      subst this
      rw [List.getElem?_append_right (by rw [alL_len]; exact Nat.le_refl _), alL_len]; simp
/-- What was written since. -/
def WrI (D0 : List Int) (d : Dk) (W : List Bool) : Prop := d.dur = D0 ∧ ∀ w ∈ d.pen, W.getD w.1.toNat false = true
theorem keep_step {a : Ca} (h2 : a.kind ≠ 2) (h4 : a.kind ≠ 4) (h5 : a.kind ≠ 5) : (d.doR n a).1.dur = d.dur ∧ ∀ w ∈ (d.doR n a).1.pen, w ∈ d.pen ∨ (a.kind = 1 ∧ w.1 = a.sector ∧ 0 ≤ a.sector ∧ a.sector < (n : Int) / 64) := by
  have same : d.dur = d.dur ∧ ∀ w ∈ d.pen, w ∈ d.pen ∨ (a.kind = 1 ∧ w.1 = a.sector ∧ 0 ≤ a.sector ∧ a.sector < (n : Int) / 64) := ⟨rfl, fun w hw => .inl hw⟩
  have burn : d.burn.dur = d.dur ∧ ∀ w ∈ d.burn.pen, w ∈ d.pen ∨ (a.kind = 1 ∧ w.1 = a.sector ∧ 0 ≤ a.sector ∧ a.sector < (n : Int) / 64) := ⟨burn_dur, fun w hw => .inl (by rw [burn_pen] at hw; exact hw)⟩
  unfold Dk.doR
  by_cases k0 : a.kind = 0
  · rw [if_pos k0]; unfold Dk.readR
    repeat' (first | exact same | exact burn | split)
  rw [if_neg k0]
  by_cases k1 : a.kind = 1
  · rw [if_pos k1]
    unfold Dk.writeR
    split
    · exact same
    · split
      · exact same
      · rename_i hh
        have hs : hasS n a.sector = true := by
          cases hq : hasS n a.sector with
          | true => rfl
          | false => exact absurd (.inl hq) hh
        simp only [hasS, Bool.and_eq_true, decide_eq_true_eq] at hs
        refine ⟨burn_dur, fun w hw => ?_⟩
        rcases List.mem_append.1 (show w ∈ d.pen ++ [(a.sector, bytM a)] from hw) with hw | hw
        · exact .inl hw
        · have := List.mem_singleton.1 hw
          subst this
          exact .inr ⟨k1, rfl, hs.1, hs.2⟩
  rw [if_neg k1, if_neg h2]
  by_cases k3 : a.kind = 3
  · rw [if_pos k3]; exact same
  rw [if_neg k3, if_neg h4, if_neg h5]
  exact same
theorem wr_same {D0 : List Int} {W : List Bool} {a : Ca} (h : WrI D0 d W) (h2 : a.kind ≠ 2) (h4 : a.kind ≠ 4) (h5 : a.kind ≠ 5) (hn : ¬ (a.kind = 1 ∧ 0 ≤ a.sector ∧ a.sector < (n : Int) / 64)) : WrI D0 (d.doR n a).1 W := by
  obtain ⟨e1, e2⟩ := keep_step (n := n) (d := d) h2 h4 h5
  refine ⟨e1.trans h.1, fun w hw => ?_⟩
  rcases e2 w hw with q | ⟨q1, q2, q3, q4⟩
  · exact h.2 w q
  · exact absurd ⟨q1, q3, q4⟩ hn
theorem wr_set {D0 : List Int} {W : List Bool} {a : Ca} (h : WrI D0 d W) (h1 : a.kind = 1) (h0 : 0 ≤ a.sector) (hl : a.sector < (W.length : Int)) : WrI D0 (d.doR n a).1 (W.set a.sector.toNat true) := by
  obtain ⟨e1, e2⟩ := keep_step (n := n) (d := d) (a := a) (by omega) (by omega) (by omega)
  refine ⟨e1.trans h.1, fun w hw => ?_⟩
  rw [List.getD_eq_getElem?_getD, List.getElem?_set]
  split
  · rename_i hj; rw [if_pos (by omega)]; rfl
  · rename_i hj
    rcases e2 w hw with q | ⟨q1, q2, q3, q4⟩
    · rw [← List.getD_eq_getElem?_getD]; exact h.2 w q
    · rw [q2] at hj; exact absurd rfl hj
theorem keeps {z : Nat} {D0 : Dk} {W : List Bool} {keep : List Int} {torn : Int} {i : Nat} (h0 : D0.Ok (z * 64) 0) (hd : d.Ok (z * 64) m) (h : WrI D0.dur d W) (hi : i < z) (hW : W.getD i false = false) : rdS (d.bootR keep torn) i = rdS D0 i := by
  have hl : D0.dur.length = z * 64 := h0.len
  have hl2 : (d.bootR keep torn).dur.length = z * 64 := (hd.boot keep torn).len
  have hp0 : D0.pen = [] := List.length_eq_zero_iff.1 (Nat.le_zero.1 h0.pen)
  rw [rdS_nil rfl (by omega) (by rw [hl2]; omega), rdS_nil hp0 (by omega) (by rw [hl]; omega)]
  have e := (boL_sec (K := (kpL keep d.pen.length keep.length).1) (last := (kpL keep d.pen.length keep.length).2) (torn := torn) (P := d.pen) (D := d.dur) (i := (i : Int)) (by omega) (fun w hw => by
    obtain ⟨a, b, _⟩ := hd.ins w hw
    rw [hd.len]; exact ⟨a, b⟩) (fun w hw hc => by
    have := h.2 w hw
    rw [hc] at this
    rw [Int.toNat_natCast, hW] at this
    cases this) d.pen.length (Nat.le_refl _)).2
  rw [← h.1]
  exact e
end
end Go.VL

/- The disk: what stays pending, what is returned. -/
set_option linter.unusedVariables false
set_option linter.unusedSimpArgs false
namespace Go.VL
theorem pen_N {n : Nat} {d : Dk} {a : Ca} (hp : d.pen = []) (hn : ¬ (a.kind = 1 ∧ d.off = false ∧ hasS n a.sector = true ∧ (bytM a).length = 64)) : (d.doR n a).1.pen = [] := by
  unfold Dk.doR
  split
  · unfold Dk.readR
    split
    · exact hp
    · split
      · exact hp
      · split <;> (show d.burn.pen = []; rw [burn_pen]; exact hp)
  · split
    · next h =>
      show (d.writeR n a.sector (bytM a)).1.pen = []
      unfold Dk.writeR
      split
      · exact hp
      · next h0 =>
        split
        · exact hp
        · next h1 =>
          exfalso
          refine hn ⟨h, by simpa using h0, ?_, ?_⟩
          · cases hs : hasS n a.sector with
            | true => rfl
            | false => exact absurd (.inl hs) h1
          · exact Classical.byContradiction fun h2 => h1 (.inr h2)
    · split
      · show d.syncR.1.pen = []
        unfold Dk.syncR
        split
        · exact hp
        · split
          · show d.burn.pen = []; rw [burn_pen]; exact hp
          · rfl
      · split
        · exact hp
        · split
          · rfl
          · split
            · show (d.rotR n a.sector a.n).1.pen = []
              unfold Dk.rotR
              split <;> exact hp
            · exact hp
theorem pen_S {n : Nat} {d : Dk} {a : Ca} (hs : a.kind = 4 ∨ (a.kind = 2 ∧ d.off = false ∧ d.out = false)) : (d.doR n a).1.pen = [] := by
  rcases hs with h | ⟨h, h0, h1⟩
  · simp [Dk.doR, h, Dk.bootR]
  · simp [Dk.doR, h, Dk.syncR, h0, h1]
theorem readR_len {n : Nat} {d : Dk} {s : Int} : (d.readR n s).2.1.length ≤ 100000 := by
  unfold Dk.readR
  split
  · exact Nat.zero_le _
  · split
    · exact Nat.zero_le _
    · split
      · exact Nat.zero_le _
      · show (rdS d s).length ≤ 100000
        rw [rdS_len]; decide
theorem doR_len {n : Nat} {d : Dk} {a : Ca} : (d.doR n a).2.1.length ≤ 100000 := by
  unfold Dk.doR
  split
  · exact readR_len
  · repeat (first | exact Nat.zero_le _ | split)
theorem eqL_refl {A : List Int} : eqL A A = true := decide_eq_true rfl
theorem three {p q : Prop} : p ∨ q ∨ (¬ p ∧ ¬ q) := by
  by_cases h : p
  · exact .inl h
  · by_cases h2 : q
    · exact .inr (.inl h2)
    · exact .inr (.inr ⟨h, h2⟩)
end Go.VL

/- A small program logic over the translated Go code, further part: families of rows, of any number. -/
set_option linter.unusedVariables false
set_option linter.unusedSimpArgs false
namespace Go.VL
open Go.RowKit

/-- Entries written down, and a family of further ones from number b on. -/
def enF (L : List (Nat × Ent)) (b : Nat) (F : List Ent) : Env := fun i => match L.lookup i with
  | some e => some e
  | none => if b ≤ i then F[i - b]? else none
/-- A row of values without names. -/
def Plain (e : Ent) : Prop := ∀ v ∈ e.cells, ∃ x, v = .b x
theorem Plain.ren {e : Ent} (h : Plain e) (ρ : Nat → Nat) : e.ren ρ = e := by
  have : e.cells.map (V.ren1 ρ) = e.cells := by
    conv => rhs; rw [← List.map_id e.cells]
    exact List.map_congr_left fun v hv => by obtain ⟨x, rfl⟩ := h v hv; rfl
  simp only [Ent.ren, this]
theorem Plain.low {e : Ent} (h : Plain e) {v : V} (hv : v ∈ e.cells) {i : Nat} (hi : i ∈ v.all1) : False := by
  obtain ⟨x, rfl⟩ := h v hv
  simp [V.all1, V.all0] at hi
theorem plainK {ik : IntKind} {L : List Int} : Plain (rowK ik L) := fun v hv => by
  simp only [rowK, List.mem_map] at hv
  obtain ⟨x, _, rfl⟩ := hv
  exact ⟨_, rfl⟩
theorem plainT {α : Type} {sz : Nat} {f : α → List B} {L : List α} : Plain (rowT sz f L) := fun v hv => by
  simp only [rowT, List.mem_map] at hv
  obtain ⟨x, _, rfl⟩ := hv
  exact ⟨_, rfl⟩
/-- The family stands in the table. -/
def Fam (E : Env) (b : Nat) (F : List Ent) : Prop := ∀ j e, F[j]? = some e → E (b + j) = some e
def okF (b : Nat) (l : List Nat) : Bool := l.all fun i => decide (i < b) || decide (100000 ≤ i)
theorem okF_get {b : Nat} {l : List Nat} (h : okF b l = true) {i : Nat} (hi : i ∈ l) : i < b ∨ 100000 ≤ i := by
  have := List.all_eq_true.1 h i hi
  simpa using this
section
variable {E : Env} {b : Nat} {F : List Ent} {L : List (Nat × Ent)} {i j s : Nat} {e e' : Ent}
theorem Fam.get (h : Fam E b F) (hs : F[j]? = some e) : E (b + j) = some e := h j e hs
theorem Fam.base (hL : okF b (L.map (·.1)) = true) (hF : b + F.length ≤ 100000) : Fam (enF L b F) b F := fun j e h => by
  have hj := (List.getElem?_eq_some_iff.1 h).1
  have : L.lookup (b + j) = none := by
    cases hq : L.lookup (b + j) with
    | none => rfl
    | some x =>
      have := okF_get hL (List.mem_map.2 ⟨_, lookup_mem hq, rfl⟩)
      simp only at this
      omega
  simp only [enF, this, Nat.le_add_right, if_true, Nat.add_sub_cancel_left]
  exact h
theorem Fam.skip {x : Option Ent} (h : Fam E b F) (hi : i < b ∨ b + F.length ≤ i) : Fam (setAt E i x) b F := fun j e hj => by
  have := (List.getElem?_eq_some_iff.1 hj).1
  rw [setAt_ne _ _ (by omega)]
  exact h j e hj
theorem Fam.put (h : Fam E b F) : Fam (setAt E (b + s) (some e')) b (F.set s e') := fun j e hj => by
  rw [List.getElem?_set] at hj
  by_cases hs : s = j
  · subst hs
    rw [setAt_self]
    rw [if_pos rfl] at hj
    split at hj
    · exact hj
    · cases hj
  · rw [if_neg hs] at hj
    rw [setAt_ne _ _ (by omega)]
    exact h j e hj
theorem enF_inv (h : enF L b F i = some e) : L.lookup i = some e ∨ ∃ j, i = b + j ∧ F[j]? = some e := by
  unfold enF at h
  cases hq : L.lookup i with
  | some x => rw [hq] at h; exact .inl h
  | none =>
    rw [hq] at h
    simp only at h
    split at h
    · exact .inr ⟨i - b, by omega, h⟩
    · cases h
/-- Less is told, by other names. -/
theorem WeakF {k n1 : Nat} {s : Slots} {S1 : List (Nat × V)} {L1 : List (Nat × Ent)} (ρ : Nat → Nat) (hk : k ≤ n1) (hlow : ∀ i, i < k → ρ i = i)
    (h1 : AllS (fun t x => s t = some (x.ren ρ) ∧ x.all.all (fun i => decide (i < n1)) = true) S1)
    (h2 : AllE (fun i e => E (ρ i) = some (e.ren ρ) ∧ i < n1 ∧ ∀ v ∈ e.cells, v.all1.all (fun i => decide (i < n1)) = true) L1)
    (h3 : ∀ j e, F[j]? = some e → E (ρ (b + j)) = some e ∧ Plain e) (hn : b + F.length ≤ n1)
    (hinj : ∀ i j, (i ∈ L1.map (·.1) ∨ b ≤ i ∧ i < b + F.length) → (j ∈ L1.map (·.1) ∨ b ≤ j ∧ j < b + F.length) → ρ i = ρ j → i = j) : Weak k s E n1 (sl S1) (enF L1 b F) := by
  have key : ∀ i e, enF L1 b F i = some e → i ∈ L1.map (·.1) ∨ b ≤ i ∧ i < b + F.length := fun i e he => by
    rcases enF_inv he with h | ⟨j, rfl, h⟩
    · exact .inl (List.mem_map.2 ⟨_, lookup_mem h, rfl⟩)
    · have := (List.getElem?_eq_some_iff.1 h).1
      exact .inr ⟨by omega, by omega⟩
  refine .inl ⟨ρ, hk, hlow, fun t x ht => ?_, fun i e he => ?_, fun i j e e' hi hj h => hinj i j (key i e hi) (key j e' hj) h⟩
  · obtain ⟨a1, a2⟩ := h1.get _ (lookup_mem ht)
    exact ⟨a1, fun i hi => by simpa using List.all_eq_true.1 a2 i hi⟩
  · rcases enF_inv he with h | ⟨j, rfl, h⟩
    · obtain ⟨a1, a2, a3⟩ := h2.get _ (lookup_mem h)
      exact ⟨a1, a2, fun v hv j hj => by simpa using List.all_eq_true.1 (a3 v hv) j hj⟩
    · have hj := (List.getElem?_eq_some_iff.1 h).1
      obtain ⟨a1, a2⟩ := h3 j e h
      exact ⟨by rw [a2.ren]; exact a1, by omega, fun v hv i hi => (a2.low hv hi).elim⟩
end
/-- Names of the family stay; others are told. -/
def rhA (b : Nat) (l : List (Nat × Nat)) : Nat → Nat := fun i => if i < b ∨ 100000 ≤ i then rl l i else i
theorem rhA_fam {b i : Nat} {l : List (Nat × Nat)} (h : b ≤ i) (h2 : i < 100000) : rhA b l i = i := by unfold rhA; rw [if_neg (by omega)]
def ckA (b : Nat) (l : List (Nat × Nat)) (K : List Nat) : Bool :=
  (List.range b).all (fun i => rl l i == i) && okF b K && okF b (K.map (rl l)) && K.all (fun i => K.all fun j => !(rl l i == rl l j) || i == j)
/-- The row of the family's names. -/
def safeE (b n : Nat) : Ent := ⟨1, (List.range n).map fun j => .own (b + j) 64, true⟩
theorem safe_ren {b c n : Nat} {ρ : Nat → Nat} (h : ∀ j, j < n → ρ (c + j) = b + j) : (safeE c n).ren ρ = safeE b n := by
  simp only [safeE, Ent.ren, List.map_map, Ent.mk.injEq, true_and, and_true]
  exact List.map_congr_left fun j hj => by
    simp only [Function.comp, V.ren1, V.ren0]
    rw [h j (List.mem_range.1 hj)]
theorem safe_low {b n n1 : Nat} (h : b + n ≤ n1) : ∀ v ∈ (safeE b n).cells, v.all1.all (fun i => decide (i < n1)) = true := fun v hv => by
  simp only [safeE, List.mem_map, List.mem_range] at hv
  obtain ⟨j, hj, rfl⟩ := hv
  simp [V.all1, V.all0]; omega
theorem safe_at {b n j : Nat} (h : j < n) : (safeE b n).cells[j]? = some (.own (b + j) 64) := by simp [safeE, h]
theorem safe_len {b n : Nat} : (safeE b n).cells.length = n := by simp [safeE]
theorem safe_rhA {b n : Nat} {l : List (Nat × Nat)} {E : Env} {i : Nat} (hn : b + n ≤ 100000) (h : E i = some (safeE b n)) : E i = some ((safeE b n).ren (rhA b l)) := by
  rw [safe_ren (fun j hj => rhA_fam (by omega) (by omega))]; exact h
theorem WA {k n1 b : Nat} {s : Slots} {E : Env} {S1 : List (Nat × V)} {L1 : List (Nat × Ent)} {F : List Ent} (l : List (Nat × Nat)) (hF : Fam E b F) (hP : ∀ e ∈ F, Plain e) (hb : b + F.length ≤ 100000) (hk : k ≤ 100000)
    (h2 : AllE (fun i e => E (rhA b l i) = some (e.ren (rhA b l)) ∧ i < n1 ∧ ∀ v ∈ e.cells, v.all1.all (fun i => decide (i < n1)) = true) L1)
    (hc : ckA b l (L1.map (·.1)) = true := by rfl) (hn : Nat.ble 100000 n1 = true := by rfl)
    (h1 : AllS (fun t x => s t = some (x.ren (rhA b l)) ∧ x.all.all (fun i => decide (i < n1)) = true) S1 := by repeat' (first | exact trivial | refine ⟨⟨rfl, rfl⟩, ?_⟩)) :
    Weak k s E n1 (sl S1) (enF L1 b F) := by
  have hn := Nat.le_of_ble_eq_true hn
  simp only [ckA, Bool.and_eq_true] at hc
  obtain ⟨⟨⟨c1, c2⟩, c3⟩, c4⟩ := hc
  have far : ∀ i ∈ L1.map (·.1), rhA b l i = rl l i ∧ (rl l i < b ∨ 100000 ≤ rl l i) := fun i hi => by
    have e1 := okF_get c2 hi
    exact ⟨by unfold rhA; rw [if_pos e1], okF_get c3 (List.mem_map.2 ⟨i, hi, rfl⟩)⟩
  refine WeakF (rhA b l) (by omega) (fun i hi => ?_) h1 h2 (fun j e hj => ?_) (by omega) (fun i j hi hj h => ?_)
  · by_cases hib : i < b
    · unfold rhA
      rw [if_pos (.inl hib)]
      simpa using List.all_eq_true.1 c1 i (List.mem_range.2 hib)
    · exact rhA_fam (by omega) (by omega)
  · have hjl := (List.getElem?_eq_some_iff.1 hj).1
    rw [rhA_fam (by omega) (by omega)]
    exact ⟨hF j e hj, hP e (List.mem_of_getElem? hj)⟩
  · rcases hi with hi | hi <;> rcases hj with hj | hj
    · rw [(far i hi).1, (far j hj).1] at h
      have := List.all_eq_true.1 (List.all_eq_true.1 c4 i hi) j hj
      simpa [h] using this
    · rw [(far i hi).1, rhA_fam (by omega) (by omega)] at h
      have := (far i hi).2
      omega
    · rw [(far j hj).1, rhA_fam (by omega) (by omega)] at h
      have := (far j hj).2
      omega
    · rw [rhA_fam (by omega) (by omega), rhA_fam (by omega) (by omega)] at h
      exact h
theorem plain_mapK {C : List (List Int)} {ik : IntKind} : ∀ e ∈ C.map (rowK ik), Plain e := fun e he => by
  obtain ⟨c, _, rfl⟩ := List.mem_map.1 he
  exact plainK
theorem AllS.imp {p q : Nat → V → Prop} (h : ∀ t x, p t x → q t x) : ∀ {l : List (Nat × V)}, AllS p l → AllS q l
  | [], _ => trivial
  | (t, x) :: r, hp => ⟨h t x hp.1, AllS.imp h hp.2⟩
theorem AllE.imp {p q : Nat → Ent → Prop} (h : ∀ t x, p t x → q t x) : ∀ {l : List (Nat × Ent)}, AllE p l → AllE q l
  | [], _ => trivial
  | (t, x) :: r, hp => ⟨h t x hp.1, AllE.imp h hp.2⟩
/-- A disk's rows: a box, the row of names, further entries, the family. -/
theorem tab_nth {L : List Ent} {j : Nat} {e : Ent} (h : L[j]? = some e) : tab (L.map some) j = some e := by
  rw [tab_some, List.getElem?_map, h]; rfl
theorem fam_tab {Lc F : List Ent} : Fam (tab ((Lc ++ F).map some)) Lc.length F := fun j e h => by
  refine tab_nth ?_
  rw [List.getElem?_append_right (by omega), Nat.add_sub_cancel_left]; exact h
/-- At the start of a function that is lent a family. -/
theorem WS {c : Nat} {s : Slots} {Lc F : List Ent} {S1 : List (Nat × V)} {L1 : List (Nat × Ent)} (hc : Lc.length = c) (hP : ∀ e ∈ F, Plain e) (hb : c + F.length ≤ 100000) (hk : okF c (L1.map (·.1)) = true)
    (h2 : AllE (fun i e => tab ((Lc ++ F).map some) i = some e ∧ i < c ∧ ∀ v ∈ e.cells, v.all1.all (fun i => decide (i < 100000)) = true) L1)
    (h1 : AllS (fun t x => s t = some x ∧ x.all.all (fun i => decide (i < 100000)) = true) S1 := by repeat' (first | exact trivial | refine ⟨⟨rfl, rfl⟩, ?_⟩)) :
    Weak (Lc ++ F).length s (tab ((Lc ++ F).map some)) 100000 (sl S1) (enF L1 c F) := by
  refine WeakF (fun i => i) (by rw [List.length_append]; omega) (fun _ _ => rfl) ?_ ?_ (fun j e hj => ⟨?_, hP e (List.mem_of_getElem? hj)⟩) hb (fun i j _ _ h => h)
  · refine AllS.imp (fun t x h => ?_) h1
    rw [V.ren_id]; exact h
  · refine AllE.imp (fun i e h => ?_) h2
    rw [Ent.ren_id]; exact ⟨h.1, by omega, h.2.2⟩
  · subst hc; exact fam_tab j e hj
/-- The function's own numbers: first ones, the family, new ones. -/
def rhE (c m : Nat) (ln : List Nat) : Nat → Nat := fun j => if j < c ∨ j < c + m then j else ln.getD (j - (c + m)) 0
theorem WeakR.fam {k c : Nat} {s : Slots} {E : Env} {Lc1 N : List (Option Ent)} {F : List Ent} (ln : List Nat) (hc : Lc1.length = c) (hk : k = c + F.length) (hF : Fam E c F) (hP : ∀ e ∈ F, Plain e) (hb : c + F.length ≤ 100000) (hN : N.length = ln.length)
    (hln : ln.all (fun i => decide (100000 ≤ i)) = true) (hnd : ln.Nodup) (h1 : AllO (fun j e => E j = some (e.ren (rhE c F.length ln)) ∧ ∀ v ∈ e.cells, ∀ i ∈ v.all1, i < c + F.length + ln.length) 0 Lc1)
    (h2 : AllO (fun j e => E (ln.getD j 0) = some (e.ren (rhE c F.length ln)) ∧ ∀ v ∈ e.cells, ∀ i ∈ v.all1, i < c + F.length + ln.length) 0 N) :
    WeakR (rhE c F.length ln) k s E (Lc1 ++ (F.map some ++ N)).length (fun _ => none) (tab (Lc1 ++ (F.map some ++ N))) := by
  have hlen : (Lc1 ++ (F.map some ++ N)).length = c + F.length + ln.length := by simp [hc, hN]; omega
  have cases3 : ∀ i e, tab (Lc1 ++ (F.map some ++ N)) i = some e → (i < c ∧ Lc1[i]? = some (some e)) ∨ (∃ j, i = c + j ∧ F[j]? = some e) ∨ (∃ j, i = c + F.length + j ∧ N[j]? = some (some e)) := fun i e he => by
    have he' := tab_some.1 he
    by_cases hi : i < c
    · rw [List.getElem?_append_left (by omega)] at he'
      exact .inl ⟨hi, he'⟩
    · rw [List.getElem?_append_right (by omega), hc] at he'
      by_cases hj : i - c < F.length
      · rw [List.getElem?_append_left (by simpa using hj), List.getElem?_map] at he'
        obtain ⟨x, hx, hx2⟩ := Option.map_eq_some_iff.1 he'
        injection hx2 with hx2
        subst hx2
        exact .inr (.inl ⟨i - c, by omega, hx⟩)
      · rw [List.getElem?_append_right (by simp; omega), List.length_map] at he'
        exact .inr (.inr ⟨i - c - F.length, by omega, he'⟩)
  have old : ∀ i, i < c + F.length → rhE c F.length ln i = i := fun i hi => by unfold rhE; rw [if_pos (.inr hi)]
  have new : ∀ j, rhE c F.length ln (c + F.length + j) = ln.getD j 0 := fun j => by unfold rhE; rw [if_neg (by omega), Nat.add_sub_cancel_left]
  have big : ∀ j, j < ln.length → 100000 ≤ ln.getD j 0 := fun j hj => by
    have := List.all_eq_true.1 hln _ (List.getElem_mem hj)
    rw [List.getD_eq_getElem?_getD, List.getElem?_eq_getElem hj]
    simpa using this
  have ident : ∀ i e, tab (Lc1 ++ (F.map some ++ N)) i = some e → (i < c + F.length ∧ rhE c F.length ln i = i) ∨ ∃ j, j < ln.length ∧ i = c + F.length + j ∧ rhE c F.length ln i = ln.getD j 0 := fun i e he => by
    rcases cases3 i e he with ⟨q1, q2⟩ | ⟨j, rfl, q2⟩ | ⟨j, rfl, q2⟩
    · exact .inl ⟨by omega, old i (by omega)⟩
    · have := (List.getElem?_eq_some_iff.1 q2).1
      exact .inl ⟨by omega, old _ (by omega)⟩
    · have := (List.getElem?_eq_some_iff.1 q2).1
      exact .inr ⟨j, by omega, rfl, new j⟩
  refine ⟨by rw [hlen]; omega, fun i hi => old i (by omega), (fun t x h => by cases h), fun i e he => ?_, fun i j e e' hi hj h => ?_⟩
  · rcases cases3 i e he with ⟨q1, q2⟩ | ⟨j, rfl, q2⟩ | ⟨j, rfl, q2⟩
    · have := h1.get i e q2
      rw [Nat.zero_add] at this
      rw [old i (by omega), hlen]
      exact ⟨this.1, by omega, this.2⟩
    · have hj := (List.getElem?_eq_some_iff.1 q2).1
      have hp := hP e (List.mem_of_getElem? q2)
      rw [old _ (by omega), hlen, hp.ren]
      exact ⟨hF j e q2, by omega, fun v hv i hi => (hp.low hv hi).elim⟩
    · have hj := (List.getElem?_eq_some_iff.1 q2).1
      have := h2.get j e q2
      rw [Nat.zero_add] at this
      rw [new, hlen]
      exact ⟨this.1, by omega, this.2⟩
  · rcases ident i e hi with ⟨a1, a2⟩ | ⟨i', a1, a2, a3⟩ <;> rcases ident j e' hj with ⟨b1, b2⟩ | ⟨j', b1, b2, b3⟩
    · rw [a2, b2] at h; exact h
    · rw [a2, b3] at h; have := big j' b1; omega
    · rw [a3, b2] at h; have := big i' a1; omega
    · rw [a3, b3, List.getD_eq_getElem?_getD, List.getD_eq_getElem?_getD, List.getElem?_eq_getElem a1, List.getElem?_eq_getElem b1] at h
      have := (List.getElem_inj hnd).1 h
      omega
theorem low_of {e : Ent} {c n : Nat} (h : (e.cells.all fun v => v.all1.all fun i => decide (i < c)) = true) (hn : c ≤ n) : ∀ v ∈ e.cells, ∀ i ∈ v.all1, i < n := fun v hv i hi => by
  have := List.all_eq_true.1 (List.all_eq_true.1 h v hv) i hi
  have h2 : i < c := by simpa using this
  omega
theorem plain_low {e : Ent} {n : Nat} (h : Plain e) : ∀ v ∈ e.cells, ∀ i ∈ v.all1, i < n := fun v hv i hi => (h.low hv hi).elim
theorem safe_low' {b m n1 : Nat} (h : b + m ≤ n1) : ∀ v ∈ (safeE b m).cells, ∀ i ∈ v.all1, i < n1 := fun v hv i hi => by
  have := List.all_eq_true.1 (safe_low h v hv) i hi
  simpa using this
/-- The caller's numbers for the callee's. -/
def rhC (lc : List Nat) (b c : Nat) : Nat → Nat := fun j => if j < c then lc.getD j 0 else b + (j - c)
def sgC (lc : List Nat) (b c m q : Nat) : Nat → Nat := fun j => if j < c then lc.getD j 0 else if j < c + m then b + (j - c) else q + (j - (c + m))
theorem nm_sgC {lc : List Nat} {b c m q k : Nat} (hk : k = c + m) : nm (rhC lc b c) k q = sgC lc b c m q := by
  funext j
  unfold nm sgC rhC
  subst hk
  by_cases h1 : j < c
  · rw [if_pos (by omega), if_pos h1, if_pos h1]
  · rw [if_neg h1, if_neg h1]
section
variable {P : Program} {ops : Array Oper} {o : Oper} {r : List Oper} {n n' id : Nat} {s : Slots} {E E2 : Env} {Q : Nat → Slots → Env → Prop} {d i : Nat} {v w : V}
variable {fop : Operand} {args : Array Operand} {ts : Array TypeId} {f : FuncId} {caps vs xs : List V}
theorem lent_fam {lc nv : List Nat} {b c : Nat} {Lc F : List Ent} (hc : Lc.length = c) (hlc : lc.length = c) (hnd : lc.Nodup) (hok : okF b lc = true) (hnv : okF b nv = true) (hb : b + F.length ≤ 100000) (hF : Fam E b F) (hP : ∀ e ∈ F, Plain e)
    (hl : AllT (fun j e => E (lc.getD j 0) = some (e.ren (rhC lc b c)) ∧ nv.contains (lc.getD j 0) = false ∧ ∀ v ∈ e.cells, ∀ i ∈ v.all1, i < c + F.length) 0 Lc) : Lent E (rhC lc b c) nv (Lc ++ F) := by
  have hlen : (Lc ++ F).length = c + F.length := by simp [hc]
  have lo : ∀ j, j < c → rhC lc b c j = lc.getD j 0 ∧ lc.getD j 0 ∈ lc := fun j hj => by
    refine ⟨by unfold rhC; rw [if_pos hj], ?_⟩
    rw [List.getD_eq_getElem?_getD, List.getElem?_eq_getElem (by omega)]
    exact List.getElem_mem _
  have hi : ∀ j, rhC lc b c (c + j) = b + j := fun j => by unfold rhC; rw [if_neg (by omega), Nat.add_sub_cancel_left]
  refine ⟨fun j e he => ?_, fun i j hi' hj' h => ?_⟩
  · rw [hlen]
    by_cases hj : j < c
    · rw [List.getElem?_append_left (by omega)] at he
      have := hl.get j e he
      rw [Nat.zero_add] at this
      rw [(lo j hj).1]
      exact this
    · rw [List.getElem?_append_right (by omega), hc] at he
      have hjl := (List.getElem?_eq_some_iff.1 he).1
      have hp := hP e (List.mem_of_getElem? he)
      have e1 : j = c + (j - c) := by omega
      rw [e1, hi, hp.ren]
      refine ⟨hF _ e he, ?_, fun v hv i hi => (hp.low hv hi).elim⟩
      cases hq : nv.contains (b + (j - c)) with
      | false => rfl
      | true =>
        have := okF_get hnv (by simpa using hq)
        omega
  · rw [hlen] at hi' hj'
    by_cases h1 : i < c <;> by_cases h2 : j < c
    · rw [(lo i h1).1, (lo j h2).1, List.getD_eq_getElem?_getD, List.getD_eq_getElem?_getD, List.getElem?_eq_getElem (by omega), List.getElem?_eq_getElem (by omega)] at h
      exact (List.getElem_inj hnd).1 h
    · have e2 : j = c + (j - c) := by omega
      rw [(lo i h1).1, e2, hi] at h
      have := okF_get hok (lo i h1).2
      omega
    · have e2 : i = c + (i - c) := by omega
      rw [(lo j h2).1, e2, hi] at h
      have := okF_get hok (lo j h2).2
      omega
    · have e1 : i = c + (i - c) := by omega
      have e2 : j = c + (j - c) := by omega
      rw [e1, e2, hi, hi] at h
      omega
theorem after_fam {lc nv : List Nat} {b c q m : Nat} {F : List Ent} {Lc1 N : List (Option Ent)} {L2 : List (Nat × Ent)} (hc : Lc1.length = c) (hm : F.length = m) (hlc : lc.length = c) (hP : ∀ e ∈ F, Plain e) (hb : b + F.length ≤ 100000) (hk2 : okF b (L2.map (·.1)) = true)
    (ha : AllE (fun i e => (∃ j e0, j < c ∧ Lc1[j]? = some (some e0) ∧ lc.getD j 0 = i ∧ e = e0.ren (sgC lc b c m q)) ∨ (∃ j e0, N[j]? = some (some e0) ∧ q + j = i ∧ e = e0.ren (sgC lc b c m q)) ∨ (upds E (nv.map (cool E)) i = some e ∧ lc.contains i = false)) L2) :
    After E (enF L2 b F) (rhC lc b c) (c + m) q nv (Lc1 ++ (F.map some ++ N)) := fun i e he => by
  rw [nm_sgC rfl]
  have e0 : ∀ j, j < c → sgC lc b c m q j = lc.getD j 0 := fun j hj => by unfold sgC; rw [if_pos hj]
  have e1 : ∀ j, j < m → sgC lc b c m q (c + j) = b + j := fun j hj => by unfold sgC; rw [if_neg (by omega), if_pos (by omega), Nat.add_sub_cancel_left]
  have e2 : ∀ j, sgC lc b c m q (c + m + j) = q + j := fun j => by unfold sgC; rw [if_neg (by omega), if_neg (by omega), Nat.add_sub_cancel_left]
  rcases enF_inv he with h | ⟨j, rfl, h⟩
  · rcases ha.get _ (lookup_mem h) with ⟨j, e', h1, h2, h3, h4⟩ | ⟨j, e', h2, h3, h4⟩ | ⟨h1, h2⟩
    · exact .inl ⟨j, e', by rw [List.getElem?_append_left (by omega)]; exact h2, by rw [e0 j h1]; exact h3, h4⟩
    · refine .inl ⟨c + m + j, e', ?_, by rw [e2]; exact h3, h4⟩
      rw [List.getElem?_append_right (by omega), List.getElem?_append_right (by simp; omega), List.length_map]
      rw [← h2]; congr 1; omega
    · refine .inr ⟨h1, fun j hj hc2 => ?_⟩
      by_cases hj2 : j < c
      · have e3 : rhC lc b c j = lc.getD j 0 := by unfold rhC; rw [if_pos hj2]
        rw [e3, List.getD_eq_getElem?_getD, List.getElem?_eq_getElem (by omega)] at hc2
        have : i ∈ lc := by rw [← hc2]; exact List.getElem_mem _
        simp [this] at h2
      · have e3 : rhC lc b c j = b + (j - c) := by unfold rhC; rw [if_neg hj2]
        have := okF_get hk2 (List.mem_map.2 ⟨_, lookup_mem h, rfl⟩)
        simp only at this
        omega
  · have hj := (List.getElem?_eq_some_iff.1 h).1
    refine .inl ⟨c + j, e, ?_, e1 j (by omega), ((hP e (List.mem_of_getElem? h)).ren _).symm⟩
    rw [List.getElem?_append_right (by omega), hc, Nat.add_sub_cancel_left, List.getElem?_append_left (by simpa using hj), List.getElem?_map, h]; rfl
/-- A call that is lent a family. -/
theorem GmF (q q2 : Nat) (lc nv : List Nat) {b c : Nat} {Lc F F1 : List Ent} {Lc1 N : List (Option Ent)} {rr : V} (L2 : List (Nat × Ent)) (h : (n, runs ops s o.guard, o.dst, o.op, ev s fop, evs s args.toList) = (q, some true, some d, .call { callee := .value fop, args := args, argTypes := ts }, some (.fn f caps), some vs))
    (hv : VG P f xs (Lc ++ F) rr (Lc1 ++ (F1.map some ++ N))) (hr : rr.ren (sgC lc b c F.length q) = v) (hF : Fam E b F) (hm : F1.length = F.length) (hP : ∀ e ∈ F, Plain e) (hP1 : ∀ e ∈ F1, Plain e) (hb : b + F.length ≤ 100000) (hq : q + N.length ≤ q2)
    (hx : Args E (rhC lc b c) (Lc ++ F).length nv (vs ++ caps) xs)
    (hl : AllT (fun j e => E (lc.getD j 0) = some (e.ren (rhC lc b c)) ∧ nv.contains (lc.getD j 0) = false ∧ ∀ v ∈ e.cells, ∀ i ∈ v.all1, i < c + F.length) 0 Lc)
    (ha : AllE (fun i e => (∃ j e0, j < c ∧ Lc1[j]? = some (some e0) ∧ lc.getD j 0 = i ∧ e = e0.ren (sgC lc b c F.length q)) ∨ (∃ j e0, N[j]? = some (some e0) ∧ q + j = i ∧ e = e0.ren (sgC lc b c F.length q)) ∨ (upds E (nv.map (cool E)) i = some e ∧ lc.contains i = false)) L2)
    (h3 : VList P ops r q2 (setAt s d (some v)) (enF L2 b F1) Q)
    (hcs : (Lc.length, Lc1.length, lc.length) = (c, c, c) := by rfl) (hnd : lc.Nodup := by decide) (hoks : (okF b lc && okF b nv && okF b (L2.map (·.1))) = true := by rfl) : VList P ops (o :: r) n s E Q := by
  simp only [Prod.mk.injEq] at h hcs; obtain ⟨rfl, h1, h2, h4, h5, h6⟩ := h
  obtain ⟨c1, c2, c3⟩ := hcs
  simp only [Bool.and_eq_true] at hoks
  have hlen : (Lc ++ F).length = c + F.length := by simp [c1]
  have hcg : CallG P n s E (.call { callee := .value fop, args := args, argTypes := ts }) (rr.ren (nm (rhC lc b c) (Lc ++ F).length n)) q2 (enF L2 b F1) := by
    refine CallG.mk fop args ts f caps vs xs (Lc ++ F) rr _ (rhC lc b c) nv q2 _ h5 h6 hx (lent_fam c1 c3 hnd hoks.1.1 hoks.1.2 hb hF hP hl) hv ?_ ?_
    · rw [hlen]; simp only [List.length_append, List.length_map, c2, hm]; omega
    · rw [hlen]; exact after_fam c2 hm c3 hP1 (by omega) hoks.2 ha
  refine VList.goV h1 h2 (by rw [h4]; exact hcg) ?_ h3
  rw [hlen, nm_sgC rfl]; exact hr
end
/-- Steps in pairs. -/
theorem t2 {α β : Type} {a a' : α} {b b' : β} (h : a = a') (h2 : b = b') : (a, b) = (a', b') := by rw [h, h2]
end Go.VL

/- A small program logic over the translated Go code, further part: functions that are lent families of rows of bytes; the rows of a disk. -/
set_option linter.unusedVariables false
set_option linter.unusedSimpArgs false
namespace Go.VL
open Go.RowKit
theorem skipE {E : Env} {i a : Nat} {x : Option Ent} {e : Ent} (h : i ≠ a) (h2 : E i = some e) : setAt E a x i = some e := by rw [setAt_ne _ _ h]; exact h2
def famD (C : List (List Int)) : List Ent := C.map (rowK .u8)
theorem famD_len {C : List (List Int)} : (famD C).length = C.length := by simp [famD]
theorem famD_plain {C : List (List Int)} : ∀ e ∈ famD C, Plain e := plain_mapK
theorem famD_at {C : List (List Int)} {j : Nat} {c : List Int} (h : C[j]? = some c) : (famD C)[j]? = some (rowK .u8 c) := by simp [famD, h]
theorem famD_set {A : List (List Int)} {s : Nat} {R R' : List Int} : (famD (A.set s R)).set s (rowK .u8 R') = famD (A.set s R') := by
  simp only [famD, List.map_set, List.set_set]
/-- The rows of a disk. -/
def rowsD (z : Nat) (D : List Int) : List (List Int) := (List.range z).map fun s : Nat => sec D (s : Int)
theorem rowsD_len {z : Nat} {D : List Int} : (rowsD z D).length = z := by simp [rowsD]
theorem rowsD_at {z s : Nat} {D : List Int} (h : s < z) : (rowsD z D)[s]? = some (sec D (s : Int)) := by simp [rowsD, h]
theorem famR_len {z : Nat} {D : List Int} : (famD (rowsD z D)).length = z := by rw [famD_len, rowsD_len]
theorem sec_put_same {D b : List Int} {s : Int} (h0 : 0 ≤ s) (h1 : s * 64 + 64 ≤ D.length) : sec (put D s b) s = cpw (sec D s) 0 64 b := by
  apply List.ext_getElem?
  intro j
  rw [sec_get]
  have hl := sec_len h0 h1
  rw [cpw_get (by omega)]
  have := Nat.min_le_right b.length 64
  split
  · rename_i hj
    rw [put, cpw_get (by omega)]
    by_cases h2 : j < min b.length 64
    · rw [if_pos (by omega), if_pos (by omega)]; congr 1; omega
    · rw [if_neg (by omega), if_neg (by omega), sec_get, if_pos hj]
  · rename_i hj
    rw [if_neg (by omega), sec_get, if_neg hj]
theorem rowsD_put {z s : Nat} {D b : List Int} (hD : D.length = z * 64) (hs : s < z) : rowsD z (put D (s : Int) b) = (rowsD z D).set s (cpw (sec D (s : Int)) 0 64 b) := by
  apply List.ext_getElem?
  intro j
  rw [List.getElem?_set]
  by_cases hj : j < z
  · rw [rowsD_at hj]
    by_cases hsj : s = j
    · subst hsj
      rw [if_pos rfl, if_pos (by rw [rowsD_len]; exact hj), sec_put_same (by omega) (by omega)]
    · rw [if_neg hsj, rowsD_at hj, sec_put (by omega) (by omega) (by omega) (by omega)]
  · have e1 : (rowsD z (put D (s : Int) b))[j]? = none := List.getElem?_eq_none (by rw [rowsD_len]; omega)
    have e2 : (rowsD z D)[j]? = none := List.getElem?_eq_none (by rw [rowsD_len]; omega)
    rw [e1, if_neg (by omega), e2]
theorem safe_rhC {lc : List Nat} {b c n : Nat} : (safeE c n).ren (rhC lc b c) = safeE b n := safe_ren fun j _ => by unfold rhC; rw [if_neg (by omega), Nat.add_sub_cancel_left]
theorem safe_rhC' {lc : List Nat} {b c n i : Nat} {E : Env} (h : E i = some (safeE b n)) : E i = some ((safeE c n).ren (rhC lc b c)) := by rw [safe_rhC]; exact h
theorem safe_sgC {lc : List Nat} {b c n m q : Nat} (h : n ≤ m) : safeE b n = (safeE c n).ren (sgC lc b c m q) := (safe_ren fun j hj => by unfold sgC; rw [if_neg (by omega), if_pos (by omega), Nat.add_sub_cancel_left]).symm
theorem safe_rhE {c n m : Nat} {ln : List Nat} {E : Env} {i : Nat} (hm : n ≤ m) (h : E i = some (safeE c n)) : E i = some ((safeE c n).ren (rhE c m ln)) := by
  rw [safe_ren (b := c) (fun j hj => by unfold rhE; rw [if_pos (.inr (by omega))])]; exact h
section
variable {P : Program} {f : FuncId} {fn : Func} {cd : Code} {xs : List V} {r : V} {s : Slots} {E : Env} {e : VExit} {n : Nat}
/-- A function that is lent a family keeps its contract. -/
theorem VGf_of {c : Nat} {Lc F F1 : List Ent} {Lc1 N : List (Option Ent)} {S1 : List (Nat × V)} {L1 : List (Nat × Ent)} (hm : P.follows .mixedOrders = true) (hfn : P.funcs[f]? = some fn) (hb : fn.body = some cd) (hname : (fn.name == "runtime.NumGoroutine") = false)
    (hc : codeOk (xs.length + (fn.ntmps - xs.length)) cd = true) (hcs : (Lc.length, Lc1.length) = (c, c)) (hF : F1.length = F.length) (hN : (N.all fun | some e => e.hot | none => true) = true) (hw : Weak (Lc ++ F).length (fun t => xs[t]?) (tab ((Lc ++ F).map some)) 100000 (sl S1) (enF L1 c F))
    (hbody : VCode P (Lc ++ F).length cd 100000 (sl S1) (enF L1 c F) (PostW P fn (Lc ++ F).length r (Lc1 ++ (F1.map some ++ N)))) : VG P f xs (Lc ++ F) r (Lc1 ++ (F1.map some ++ N)) := by
  simp only [Prod.mk.injEq] at hcs
  refine VG_ofY hm hfn hb hname hc (by simp [hcs.1, hcs.2, hF]) ?_ (fun e n s E h => ?_) (.inr hw) hbody
  · have e1 : (Lc1 ++ (F1.map some ++ N)).drop (Lc ++ F).length = N := by
      rw [← List.append_assoc, List.drop_append_of_le_length (by simp [hcs.1, hcs.2, hF]), List.drop_of_length_le (by simp [hcs.1, hcs.2, hF]), List.nil_append]
    rw [e1]; exact hN
  · rcases h with h | ⟨n1, s1, E1, hw, h⟩
    · exact ⟨h.1, .inl h.2⟩
    · exact ⟨h.1, .inr ⟨n1, s1, E1, hw, h.2⟩⟩
/-- The end. -/
theorem GgF {c k : Nat} {F F' : List Ent} {Lc1 Lc1' N N' : List (Option Ent)} {r' : V} {l : List V} (ln : List Nat) (hg : ResG P s E (rhE c F'.length ln) (Lc1' ++ (F'.map some ++ N')) fn.results.toList l) (ho : ResOf l r') (hr : r' = r) (hF : Fam E c F') (hP : ∀ e ∈ F', Plain e) (hk : k = c + F'.length) (hb : c + F'.length ≤ 100000)
    (h1 : AllO (fun j e => E j = some (e.ren (rhE c F'.length ln)) ∧ ∀ v ∈ e.cells, ∀ i ∈ v.all1, i < c + F'.length + ln.length) 0 Lc1')
    (h2 : AllO (fun j e => E (ln.getD j 0) = some (e.ren (rhE c F'.length ln)) ∧ ∀ v ∈ e.cells, ∀ i ∈ v.all1, i < c + F'.length + ln.length) 0 N')
    (hL : (Lc1', F', N') = (Lc1, F, N)) (hcs : (Lc1'.length, N'.length) = (c, ln.length) := by rfl) (hln : ln.all (fun i => decide (100000 ≤ i)) = true := by rfl) (hnd : ln.Nodup := by decide) (he : match e with | .exit _ => False | _ => True := by trivial) :
    PostG P fn k r (Lc1 ++ (F.map some ++ N)) e n s E := by
  simp only [Prod.mk.injEq] at hL hcs
  obtain ⟨rfl, rfl, rfl⟩ := hL
  exact postG he (WeakR.fam ln hcs.1 hk hF hP hb hcs.2 hln hnd h1 h2) hg ho hr rfl
end
section
theorem rowT_cell {α : Type} {sz : Nat} {f : α → List B} {L : List α} {j k : Nat} {x : α} {y : B} (hf : ∀ x, (f x).length = sz) (hj : L[j]? = some x) (hk : (f x)[k]? = some y) (hl : k < sz) : (rowT sz f L).cells[j * sz + k]? = some (.b y) := by
  have h := cellsT_at hf hj
  have h2 : ((cellsT f L).drop (j * sz)).take sz = f x := h
  have h3 : (((cellsT f L).drop (j * sz)).take sz)[k]? = some y := by rw [h2]; exact hk
  rw [List.getElem?_take_of_lt hl, List.getElem?_drop] at h3
  simp only [rowT, List.getElem?_map, h3, Option.map_some]
theorem free_fam {c : Nat} {F : List Ent} {Lc1 : List (Option Ent)} {l : List Nat} (hc : Lc1.length = c) (hb : c + F.length ≤ 100000) (hq : (l.all fun i => decide (100000 ≤ i)) = true) : freeOf (rhE c F.length []) (Lc1 ++ (F.map some ++ [])) l = true := by
  refine List.all_eq_true.2 fun i hi => List.all_eq_true.2 fun j hj => ?_
  have h1 : 100000 ≤ i := by simpa using List.all_eq_true.1 hq i hi
  have hj2 : j < c + F.length := by
    have := List.mem_range.1 hj
    simpa [hc] using this
  have h2 : rhE c F.length [] j = j := by unfold rhE; rw [if_pos (.inr hj2)]
  rw [h2]
  have h3 : (j == i) = false := by simp; omega
  split
  · simp [h3]
  · rfl
theorem rhE_new {c m q z : Nat} (h : m = z) : rhE c m [q] (c + z) = q := by subst h; unfold rhE; rw [if_neg (by omega), Nat.sub_self]; rfl
variable {P : Program} {ops : Array Oper} {o : Oper} {n : Nat} {s : Slots} {E : Env} {T : TypeId} {p x : Operand} {i off d : Nat} {e : Ent}
theorem Sn (hn : szOf P T = some 1) (h : (runs ops s o.guard, o.dst, o.op, ev s p, E i, e.hot, Nat.ble (off + 1) e.cells.length) = (some true, none, .store T p (.const (.slice none 0 0)), some (.ptr i off), some e, true, true)) :
    Stp P ops o n s E (n + 1) s (setAt E i (some { e with cells := e.cells.set off (.b .nil) })) [i] := by
  simp only [Prod.mk.injEq] at h
  exact stS h.1 h.2.1 (h.2.2.1 ▸ .storeNil _ _ _ _ _ h.2.2.2.1 h.2.2.2.2.1 h.2.2.2.2.2.1 hn (Nat.le_of_ble_eq_true h.2.2.2.2.2.2))
theorem BdN {parts : Array (Nat × Operand)} {z : List B} {fl : List (Nat × Nat)} {vs cs : List V} (K : StT P T z fl) (h : (runs ops s o.guard, o.dst, o.op, evs s (parts.toList.map (·.2)), putParts (fun k => fl[k]?) ((parts.toList.map (·.1)).zip vs) ((z.map nilB).map .b)) = (some true, some d, .build T parts, some vs, some cs)) :
    Stp P ops o n s E (n + 1) (setAt s d (some (.agg cs))) E [] := by
  simp only [Prod.mk.injEq] at h
  exact st0 h.1 h.2.1 (h.2.2.1 ▸ .buildN _ _ _ _ _ h.2.2.2.1 (by rw [K.z]; rfl) K.p (putParts_mono K.f h.2.2.2.2))
end
/-- The family grows by a row. -/
def rhB (b : Nat) (l : List (Nat × Nat)) (m q : Nat) : Nat → Nat := fun i => if i < b ∨ 100000 ≤ i then rl l i else if i = b + m then q else i
theorem safe_rhB {b m q : Nat} {l : List (Nat × Nat)} {E : Env} {i : Nat} (hm : b + m < 100000) (h : E i = some ⟨1, (safeE b m).cells ++ [.own q 64], true⟩) : E i = some ((safeE b (m + 1)).ren (rhB b l m q)) := by
  rw [h]
  simp only [safeE, Ent.ren, List.map_map, Option.some.injEq, Ent.mk.injEq, true_and, and_true]
  rw [List.range_succ, List.map_append]
  congr 1
  · exact List.map_congr_left fun j hj => by
      have := List.mem_range.1 hj
      simp only [Function.comp, V.ren1, V.ren0, rhB]
      rw [if_neg (by omega), if_neg (by omega)]
  · simp only [List.map_cons, List.map_nil, Function.comp, V.ren1, V.ren0, rhB]
    rw [if_neg (by omega)]
    simp
theorem WB {n1 b : Nat} {s : Slots} {E : Env} {S1 : List (Nat × V)} {L1 : List (Nat × Ent)} {F F1 : List Ent} {e0 : Ent} (l : List (Nat × Nat)) (q : Nat) (hF : Fam E b F) (hP : ∀ e ∈ F, Plain e) (he : E q = some e0) (hP0 : Plain e0) (hF1 : F1 = F ++ [e0]) (hb : b + F.length + 1 ≤ 100000)
    (h2 : AllE (fun i e => E (rhB b l F.length q i) = some (e.ren (rhB b l F.length q)) ∧ i < n1 ∧ ∀ v ∈ e.cells, v.all1.all (fun i => decide (i < n1)) = true) L1)
    (hc : (ckA b l (L1.map (·.1)) && decide (100000 ≤ q) && !((L1.map (·.1)).map (rl l)).contains q) = true := by rfl) (hn : Nat.ble 100000 n1 = true := by rfl)
    (h1 : AllS (fun t x => s t = some (x.ren (rhB b l F.length q)) ∧ x.all.all (fun i => decide (i < n1)) = true) S1 := by repeat' (first | exact trivial | refine ⟨⟨rfl, rfl⟩, ?_⟩)) :
    Weak 0 s E n1 (sl S1) (enF L1 b F1) := by
  subst hF1
  have hn := Nat.le_of_ble_eq_true hn
  simp only [ckA, Bool.and_eq_true, decide_eq_true_eq, Bool.not_eq_true'] at hc
  obtain ⟨⟨⟨⟨⟨c1, c2⟩, c3⟩, c4⟩, c5⟩, c6⟩ := hc
  have far : ∀ i ∈ L1.map (·.1), rhB b l F.length q i = rl l i ∧ (rl l i < b ∨ 100000 ≤ rl l i) ∧ rl l i ≠ q := fun i hi => by
    have e1 := okF_get c2 hi
    have hm : rl l i ∈ (L1.map (·.1)).map (rl l) := List.mem_map.2 ⟨i, hi, rfl⟩
    refine ⟨by unfold rhB; rw [if_pos e1], okF_get c3 hm, fun h => ?_⟩
    rw [h] at hm
    have h7 : ((L1.map (·.1)).map (rl l)).contains q = true := List.elem_eq_true_of_mem hm
    rw [h7] at c6; cases c6
  have fam : ∀ j, j < F.length → rhB b l F.length q (b + j) = b + j := fun j hj => by unfold rhB; rw [if_neg (by omega), if_neg (by omega)]
  have last : rhB b l F.length q (b + F.length) = q := by unfold rhB; rw [if_neg (by omega), if_pos rfl]
  have two : ∀ i, b ≤ i ∧ i < b + (F ++ [e0]).length → (i < b + F.length ∧ rhB b l F.length q i = i) ∨ (i = b + F.length ∧ rhB b l F.length q i = q) := fun i hi => by
    simp at hi
    by_cases h : i = b + F.length
    · exact .inr ⟨h, by rw [h]; exact last⟩
    · obtain ⟨j, rfl⟩ : ∃ j, i = b + j := ⟨i - b, by omega⟩
      exact .inl ⟨by omega, fam j (by omega)⟩
  refine WeakF (rhB b l F.length q) (Nat.zero_le _) (fun i hi => by omega) h1 h2 (fun j e hj => ?_) (by simp; omega) (fun i j hi hj h => ?_)
  · by_cases hjl : j < F.length
    · rw [List.getElem?_append_left hjl] at hj
      rw [fam j hjl]
      exact ⟨hF j e hj, hP e (List.mem_of_getElem? hj)⟩
    · rw [List.getElem?_append_right (by omega)] at hj
      have hj0 : j = F.length := by
        have := (List.getElem?_eq_some_iff.1 hj).1
        simp at this; omega
      subst hj0
      rw [Nat.sub_self] at hj
      injection hj with hj
      subst hj
      rw [last]
      exact ⟨he, hP0⟩
  · rcases hi with hi | hi <;> rcases hj with hj | hj
    · rw [(far i hi).1, (far j hj).1] at h
      have := List.all_eq_true.1 (List.all_eq_true.1 c4 i hi) j hj
      simpa [h] using this
    · obtain ⟨f1, f2, f3⟩ := far i hi
      rw [f1] at h
      rcases two j hj with ⟨g1, g2⟩ | ⟨g1, g2⟩
      · rw [g2] at h; omega
      · rw [g2] at h; exact absurd h f3
    · obtain ⟨f1, f2, f3⟩ := far j hj
      rw [f1] at h
      rcases two i hi with ⟨g1, g2⟩ | ⟨g1, g2⟩
      · rw [g2] at h; omega
      · rw [g2] at h; exact absurd h.symm f3
    · rcases two i hi with ⟨g1, g2⟩ | ⟨g1, g2⟩ <;> rcases two j hj with ⟨k1, k2⟩ | ⟨k1, k2⟩
      · rw [g2, k2] at h; exact h
      · rw [g2, k2] at h; omega
      · rw [g2, k2] at h; omega
      · omega
section
variable {P : Program} {ops : Array Oper} {o : Oper} {n : Nat} {s : Slots} {E : Env} {T el by' : Nat} {x y : Operand} {i j d b m : Nat} {v : V}
theorem Aos (q : Nat) (hu : P.underlying T = some (.slice el)) (hs : szOf P el = some 1) (hb : (P.info? el).map (·.bytes) = some by') (hz : (zeroOf P el).map List.length = some 1)
    (h : (n, runs ops s o.guard, o.dst, o.op, ev s x, E i, ev s y, E j, Nat.beq j i) = (q, some true, some d, .call { callee := .builtin .append, args := #[x, y], argTypes := #[T, T] }, some (.own i m), some (safeE b m), some (.own j 1), some ⟨1, [v], true⟩, false))
    (hm : (m + 1) * by' ≤ 140737488355328 ∧ m + 1 ≤ maxLen) :
    Stp P ops o n s E (q + 1) (setAt s d (some (.own q (m + 1)))) (setAt (setAt E i none) q (some ⟨1, (safeE b m).cells ++ [v], true⟩)) [i, q] := by
  simp only [Prod.mk.injEq] at h
  obtain ⟨rfl, h1, h2, h3, h4, h5, h6, h7, h8⟩ := h
  have hne : j ≠ i := fun e => by rw [e, Nat.beq_refl] at h8; cases h8
  have := Eff.appendOO (P := P) (id := n) x y T el i m (safeE b m) j 1 ⟨1, [v], true⟩ by' h4 h5 rfl (by simp [safeE]) h6 h7 rfl (by simp [safeE]) hne (by decide) hu hs hb hz hm.1 hm.2
  have e : (⟨(safeE b m).sz, (safeE b m).cells ++ (⟨1, [v], true⟩ : Ent).cells.take (1 * (safeE b m).sz), true⟩ : Ent) = ⟨1, (safeE b m).cells ++ [v], true⟩ := rfl
  rw [e] at this
  exact st2 h1 h2 (h3 ▸ this)
end
/-- All that is yielded is new. -/
theorem WeakR.famN {c b : Nat} {s : Slots} {E : Env} {Lc1 : List (Option Ent)} {F : List Ent} (lc : List Nat) (hc : (Lc1.length, lc.length) = (c, c)) (hF : Fam E b F) (hP : ∀ e ∈ F, Plain e) (hb : b + F.length ≤ 100000) (hok : okF b lc = true) (hnd : lc.Nodup)
    (h1 : AllO (fun j e => E (lc.getD j 0) = some (e.ren (rhC lc b c)) ∧ ∀ v ∈ e.cells, ∀ i ∈ v.all1, i < c + F.length) 0 Lc1) : WeakR (rhC lc b c) 0 s E (Lc1 ++ (F.map some ++ [])).length (fun _ => none) (tab (Lc1 ++ (F.map some ++ []))) := by
  simp only [Prod.mk.injEq] at hc
  obtain ⟨c1, c2⟩ := hc
  have hlen : (Lc1 ++ (F.map some ++ [])).length = c + F.length := by simp [c1]
  have two : ∀ i e, tab (Lc1 ++ (F.map some ++ [])) i = some e → (i < c ∧ Lc1[i]? = some (some e)) ∨ (∃ j, i = c + j ∧ F[j]? = some e) := fun i e he => by
    have he' := tab_some.1 he
    by_cases hi : i < c
    · rw [List.getElem?_append_left (by omega)] at he'
      exact .inl ⟨hi, he'⟩
    · rw [List.getElem?_append_right (by omega), c1, List.append_nil, List.getElem?_map] at he'
      obtain ⟨x, hx, hx2⟩ := Option.map_eq_some_iff.1 he'
      injection hx2 with hx2
      subst hx2
      exact .inr ⟨i - c, by omega, hx⟩
  have lo : ∀ j, j < c → rhC lc b c j = lc.getD j 0 ∧ lc.getD j 0 ∈ lc := fun j hj => by
    refine ⟨by unfold rhC; rw [if_pos hj], ?_⟩
    rw [List.getD_eq_getElem?_getD, List.getElem?_eq_getElem (by omega)]
    exact List.getElem_mem _
  have hi : ∀ j, rhC lc b c (c + j) = b + j := fun j => by unfold rhC; rw [if_neg (by omega), Nat.add_sub_cancel_left]
  refine ⟨Nat.zero_le _, fun i hi => by omega, (fun t x h => by cases h), fun i e he => ?_, fun i j e e' he hj h => ?_⟩
  · rcases two i e he with ⟨q1, q2⟩ | ⟨j, rfl, q2⟩
    · have := h1.get i e q2
      rw [Nat.zero_add] at this
      rw [(lo i q1).1, hlen]
      exact ⟨this.1, by omega, this.2⟩
    · have hj := (List.getElem?_eq_some_iff.1 q2).1
      have hp := hP e (List.mem_of_getElem? q2)
      rw [hi, hlen, hp.ren]
      exact ⟨hF j e q2, by omega, fun v hv i hi => (hp.low hv hi).elim⟩
  · rcases two i e he with ⟨q1, q2⟩ | ⟨i', rfl, q2⟩ <;> rcases two j e' hj with ⟨r1, r2⟩ | ⟨j', rfl, r2⟩
    · rw [(lo i q1).1, (lo j r1).1, List.getD_eq_getElem?_getD, List.getD_eq_getElem?_getD, List.getElem?_eq_getElem (by omega), List.getElem?_eq_getElem (by omega)] at h
      exact (List.getElem_inj hnd).1 h
    · have := (List.getElem?_eq_some_iff.1 r2).1
      rw [(lo i q1).1, hi] at h
      have := okF_get hok (lo i q1).2
      omega
    · have := (List.getElem?_eq_some_iff.1 q2).1
      rw [(lo j r1).1, hi] at h
      have := okF_get hok (lo j r1).2
      omega
    · rw [hi, hi] at h; omega
end Go.VL

/- Plain laws of a disk: the specification's way of booting; rows written byte by byte. -/
set_option linter.unusedVariables false
set_option linter.unusedSimpArgs false
namespace Go.VL
def hasQ (keep : List Int) (n : Int) : Bool := keep.any (fun x => x == n)
theorem any_take {keep : List Int} {n : Int} {i : Nat} (h : i < keep.length) : (keep.take (i + 1)).any (fun x => x == n) = ((keep.take i).any (fun x => x == n) || (keep.getD i 0 == n)) := by
  rw [List.take_add_one, List.any_append, List.getElem?_eq_getElem h]
  simp [List.getD_eq_getElem?_getD, h]
theorem hasQ_all {keep : List Int} {n : Int} {i : Nat} (h : ¬ i < keep.length) (h2 : (keep.take i).any (fun x => x == n) = false) : hasQ keep n = false := by
  rw [List.take_of_length_le (by omega)] at h2; exact h2
theorem hasQ_at {keep : List Int} {n : Int} {i : Nat} (h : i < keep.length) (h2 : keep.getD i 0 = n) : hasQ keep n = true := by
  rw [List.getD_eq_getElem?_getD, List.getElem?_eq_getElem h] at h2
  exact List.any_eq_true.2 ⟨_, List.getElem_mem h, by simpa using h2⟩
/-- The last of the first j pending writes that is kept. -/
def lastL (keep : List Int) : Nat → Int
  | 0 => -1
  | j + 1 => if hasQ keep (j : Int) = true then (j : Int) else lastL keep j
theorem lastL_lt (keep : List Int) : ∀ j : Nat, -1 ≤ lastL keep j ∧ lastL keep j < j
  | 0 => by simp [lastL]
  | j + 1 => by
    have := lastL_lt keep j
    simp only [lastL]; split <;> omega
theorem lastL_in {keep : List Int} {i : Int} (h0 : 0 ≤ i) (hq : hasQ keep i = true) : ∀ j : Nat, i < (j : Int) → i ≤ lastL keep j
  | 0, h => by omega
  | j + 1, h => by
    simp only [lastL]
    split
    · omega
    · rename_i hn
      by_cases hij : i = (j : Int)
      · subst hij; exact absurd hq hn
      · exact lastL_in h0 hq j (by omega)
theorem lastL_has {keep : List Int} : ∀ j : Nat, lastL keep j = -1 ∨ hasQ keep (lastL keep j) = true
  | 0 => .inl rfl
  | j + 1 => by
    simp only [lastL]
    split
    · rename_i h; exact .inr h
    · exact lastL_has j
theorem kpL_has {keep : List Int} {N : Nat} {i : Nat} (hi : i < N) : ∀ j, j ≤ keep.length → (kpL keep N j).1.getD i false = (keep.take j).any (fun x => x == (i : Int))
  | 0, _ => by simp [kpL, List.getD_eq_getElem?_getD, hi]
  | j + 1, hj => by
    have ih := kpL_has (keep := keep) hi j (by omega)
    have hjk : j < keep.length := by omega
    rw [any_take hjk, ← ih]
    by_cases h1 : keep.getD j 0 ≥ 0
    · by_cases h2 : keep.getD j 0 < (N : Int)
      · rw [kpL_in h1 h2]
        simp only [List.getD_eq_getElem?_getD]
        rw [List.getElem?_set]
        by_cases h3 : (keep[j]?.getD 0).toNat = i
        · have h1' : 0 ≤ keep[j]?.getD 0 := by simpa [List.getD_eq_getElem?_getD] using h1
          rw [if_pos h3, if_pos (by rw [kpL_len]; omega)]
          have : keep[j]?.getD 0 = (i : Int) := by omega
          simp [this]
        · have h1' : 0 ≤ keep[j]?.getD 0 := by simpa [List.getD_eq_getElem?_getD] using h1
          rw [if_neg h3]
          have : (keep[j]?.getD 0 == (i : Int)) = false := by simp; omega
          simp [this]
      · rw [kpL_hi h2]
        have : (keep.getD j 0 == (i : Int)) = false := by simp only [beq_eq_false_iff_ne]; omega
        rw [this, Bool.or_false]
    · rw [kpL_lo h1]
      have : (keep.getD j 0 == (i : Int)) = false := by simp only [beq_eq_false_iff_ne]; omega
      rw [this, Bool.or_false]
theorem kpL_hasQ {keep : List Int} {N i : Nat} (hi : i < N) : (kpL keep N keep.length).1.getD i false = hasQ keep (i : Int) := by
  rw [kpL_has hi _ (Nat.le_refl _), List.take_length]; rfl
theorem kpL_lastI {keep : List Int} {N : Nat} : ∀ j, j ≤ keep.length → -1 ≤ (kpL keep N j).2 ∧ (kpL keep N j).2 < N ∧ ((kpL keep N j).2 = -1 ∨ (kpL keep N j).2 ∈ keep.take j) ∧ ∀ x ∈ keep.take j, 0 ≤ x → x < (N : Int) → x ≤ (kpL keep N j).2
  | 0, _ => by simp [kpL]; omega
  | j + 1, hj => by
    obtain ⟨a1, a2, a3, a4⟩ := kpL_lastI (keep := keep) (N := N) j (by omega)
    have hjk : j < keep.length := by omega
    have et : keep.take (j + 1) = keep.take j ++ [keep.getD j 0] := by
      rw [List.take_add_one, List.getD_eq_getElem?_getD, List.getElem?_eq_getElem hjk]; rfl
    rw [et]
    by_cases h1 : keep.getD j 0 ≥ 0
    · by_cases h2 : keep.getD j 0 < (N : Int)
      · rw [kpL_in h1 h2]
        simp only
        split
        · rename_i h3
          refine ⟨by omega, h2, .inr (by simp), fun x hx h0 hN => ?_⟩
          rcases List.mem_append.1 hx with hx | hx
          · have := a4 x hx h0 hN; omega
          · have := List.mem_singleton.1 hx; omega
        · rename_i h3
          refine ⟨a1, a2, ?_, fun x hx h0 hN => ?_⟩
          · rcases a3 with a3 | a3
            · exact .inl a3
            · exact .inr (List.mem_append_left _ a3)
          · rcases List.mem_append.1 hx with hx | hx
            · exact a4 x hx h0 hN
            · have := List.mem_singleton.1 hx; omega
      · rw [kpL_hi h2]
        refine ⟨a1, a2, ?_, fun x hx h0 hN => ?_⟩
        · rcases a3 with a3 | a3
          · exact .inl a3
          · exact .inr (List.mem_append_left _ a3)
        · rcases List.mem_append.1 hx with hx | hx
          · exact a4 x hx h0 hN
          · have := List.mem_singleton.1 hx; omega
    · rw [kpL_lo h1]
      refine ⟨a1, a2, ?_, fun x hx h0 hN => ?_⟩
      · rcases a3 with a3 | a3
        · exact .inl a3
        · exact .inr (List.mem_append_left _ a3)
      · rcases List.mem_append.1 hx with hx | hx
        · exact a4 x hx h0 hN
        · have := List.mem_singleton.1 hx; omega
theorem kpL_last {keep : List Int} {N : Nat} : (kpL keep N keep.length).2 = lastL keep N := by
  obtain ⟨a1, a2, a3, a4⟩ := kpL_lastI (keep := keep) (N := N) keep.length (Nat.le_refl _)
  rw [List.take_length] at a3 a4
  have hb := lastL_lt keep N
  have up : (kpL keep N keep.length).2 ≤ lastL keep N := by
    rcases a3 with a3 | a3
    · omega
    · by_cases h0 : (kpL keep N keep.length).2 = -1
      · omega
      · exact lastL_in (by omega) (List.any_eq_true.2 ⟨_, a3, by simp⟩) N a2
  have lo : lastL keep N ≤ (kpL keep N keep.length).2 := by
    rcases lastL_has (keep := keep) N with h | h
    · omega
    · by_cases h0 : lastL keep N = -1
      · omega
      · obtain ⟨x, hx, hx2⟩ := List.any_eq_true.1 h
        have hx3 : x = lastL keep N := by simpa using hx2
        have := a4 x hx (by omega) (by omega)
        omega
  omega
theorem boL_beyond {keep : List Int} {K : List Bool} {l torn : Int} {P : List Pen} {D : List Int} {i : Nat} (hK : ∀ q, q < P.length → K.getD q false = hasQ keep (q : Int)) (hi : (i : Int) = lastL keep P.length + 1) : ∀ j, i ≤ j → j ≤ P.length → boL K l torn P D j = boL K l torn P D i
  | 0, h, _ => by have : i = 0 := by omega
                  subst this; rfl
  | j + 1, h, hj => by
    by_cases hij : i = j + 1
    · rw [hij]
    · have hq : hasQ keep (j : Int) = false := by
        cases hq : hasQ keep (j : Int) with
        | false => rfl
        | true => have := lastL_in (by omega) hq P.length (by omega); omega
      rw [boL_no (by rw [hK j (by omega)]; exact hq)]
      exact boL_beyond hK hi j (by omega) (by omega)
theorem rowsD_same {z s : Nat} {D : List Int} (hs : s < z) : (rowsD z D).set s (sec D (s : Int)) = rowsD z D := by
  apply List.ext_getElem?
  intro j
  rw [List.getElem?_set]
  split
  · rename_i h; subst h; rw [if_pos (by rw [rowsD_len]; exact hs), rowsD_at hs]
  · rfl
theorem rowsD_atI {z : Nat} {s : Int} {D : List Int} (h0 : 0 ≤ s) (h : s < z) : (rowsD z D)[s.toNat]? = some (sec D s) := by
  obtain ⟨k, rfl⟩ : ∃ k : Nat, s = k := ⟨s.toNat, by omega⟩
  exact rowsD_at (by omega)
theorem rowsD_sameI {z : Nat} {s : Int} {D : List Int} (h0 : 0 ≤ s) (h : s < z) : (rowsD z D).set s.toNat (sec D s) = rowsD z D := by
  obtain ⟨k, rfl⟩ : ∃ k : Nat, s = k := ⟨s.toNat, by omega⟩
  exact rowsD_same (by omega)
theorem rowsD_putI {z : Nat} {s : Int} {D b : List Int} (hD : D.length = z * 64) (h0 : 0 ≤ s) (h : s < z) : rowsD z (put D s b) = (rowsD z D).set s.toNat (cpw (sec D s) 0 64 b) := by
  obtain ⟨k, rfl⟩ : ∃ k : Nat, s = k := ⟨s.toNat, by omega⟩
  exact rowsD_put hD (by omega)
theorem set_at {A : List (List Int)} {s : Nat} {R : List Int} (h : s < A.length) : (famD (A.set s R))[s]? = some (rowK .u8 R) := famD_at (by rw [List.getElem?_set_self h])
theorem own_rhA {b i m t : Nat} {l : List (Nat × Nat)} {s : Slots} (h1 : b ≤ i) (h2 : i < 100000) (hs : s t = some (.own i m)) : s t = some ((V.own i m).ren (rhA b l)) := by
  rw [hs]; simp only [V.ren, V.ren2, V.ren1, V.ren0, rhA_fam h1 h2]
theorem own_low {i m n1 : Nat} (h : i < n1) : (V.own i m).all.all (fun i => decide (i < n1)) = true := by simp [V.all, V.all2, V.all1, V.all0, h]
theorem Fam.putD {E : Env} {b s : Nat} {A : List (List Int)} {R R' : List Int} (h : Fam E b (famD (A.set s R))) : Fam (setAt E (b + s) (some (rowK .u8 R'))) b (famD (A.set s R')) := by
  rw [← famD_set (R := R)]; exact Fam.put h
theorem Fam.putR {E : Env} {b s : Nat} {A : List (List Int)} {R' : List Int} (h : Fam E b (famD A)) : Fam (setAt E (b + s) (some (rowK .u8 R'))) b (famD (A.set s R')) := by
  have e : famD (A.set s R') = (famD A).set s (rowK .u8 R') := by simp only [famD, List.map_set]
  rw [e]; exact Fam.put h
theorem cpw_snoc {D b : List Int} {i : Nat} (hD : D.length = 64) (hb : b.length = 64) (hi : i < 64) : (cpw D 0 64 (b.take i)).set i (b.getD i 0) = cpw D 0 64 (b.take (i + 1)) := by
  have e : ∀ k, k ≤ 64 → cpw D 0 64 (b.take k) = b.take k ++ D.drop k := fun k hk => by
    have h1 : (b.take k).length = k := by simp; omega
    have h2 : Nat.min k 64 = k := Nat.min_eq_left hk
    simp only [cpw, h1, h2, List.take_zero, List.nil_append, Nat.zero_add]
    rw [List.take_of_length_le (by omega)]
  rw [e i (by omega), e (i + 1) (by omega)]
  apply List.ext_getElem?
  intro j
  rw [List.getElem?_set]
  by_cases hij : i = j
  · subst hij
    rw [if_pos rfl, if_pos (by simp; omega), List.getElem?_append_left (by simp; omega), List.getElem?_take_of_lt (by omega), List.getD_eq_getElem?_getD, List.getElem?_eq_getElem (by omega)]
    rfl
  · rw [if_neg hij]
    by_cases hj : j < i
    · rw [List.getElem?_append_left (by simp; omega), List.getElem?_append_left (by simp; omega), List.getElem?_take_of_lt hj, List.getElem?_take_of_lt (by omega)]
    · rw [List.getElem?_append_right (by simp; omega), List.getElem?_append_right (by simp; omega), List.length_take, List.length_take, List.getElem?_drop, List.getElem?_drop]
      congr 1; omega
theorem sec_getD {D : List Int} {s : Int} {k : Nat} (hk : k < 64) : (sec D s).getD k 0 = D.getD ((s * 64).toNat + k) 0 := by
  rw [List.getD_eq_getElem?_getD, List.getD_eq_getElem?_getD, sec_get, if_pos hk]
theorem hasS_no {z : Nat} {s : Int} (h : s < 0 ∨ s ≥ (z : Int)) : hasS (z * 64) s = false := by
  cases hq : hasS (z * 64) s with
  | false => rfl
  | true =>
    simp only [hasS, Bool.and_eq_true, decide_eq_true_eq] at hq
    omega
theorem hasS_yes {z : Nat} {s : Int} (h0 : ¬ s < 0) (h1 : ¬ s ≥ (z : Int)) : hasS (z * 64) s = true := hasS_of (by omega) (by omega)
/-- The reference's way of reading. -/
theorem rdL_none {s : Int} {P : List Pen} {R0 : List Int} {i : Nat} (h : ¬ (P.getD i w0).1 = s) : rdL s P R0 (i + 1) = rdL s P R0 i := by rw [rdL, if_neg h]
theorem rdL_some {s : Int} {P : List Pen} {R0 : List Int} {i : Nat} (h : (P.getD i w0).1 = s) (hR : R0.length = 64) (h2 : (P.getD i w0).2.length = 64) : rdL s P R0 (i + 1) = (P.getD i w0).2 := by
  rw [rdL, if_pos h]; exact cpw_all (rdL_len hR i) h2
theorem rdS_sec {d : Dk} {s : Int} (h : (sec d.dur s).length = 64) : rdS d s = rdL s d.pen (sec d.dur s) d.pen.length := by
  rw [rdS, cpw_all (by simp) h]
theorem Two.app {p : V → V → Prop} : ∀ {l m l' m' : List V}, Two p l m → Two p l' m' → Two p (l ++ l') (m ++ m')
  | [], [], _, _, _, h => h
  | x :: l, y :: m, _, _, h, h2 => ⟨h.1, Two.app h.2 h2⟩
  | [], _ :: _, _, _, h, _ => h.elim
  | _ :: _, [], _, _, h, _ => h.elim
/-- From one region to the next, values told by their contents, with a family. -/
theorem Weak.convF {k n1 b : Nat} {s : Slots} {E : Env} {nv : List Nat} {S1 : List (Nat × V)} {L1 : List (Nat × Ent)} {F : List Ent}
    (h1 : AllS (fun t y => (∃ x, s t = some x ∧ ConvV (upds E (nv.map (cool E))) x y) ∧ y.all.all (fun i => decide (i < n1)) = true) S1)
    (h2 : AllE (fun i e1 => (∃ e, upds E (nv.map (cool E)) i = some e ∧ e1.sz = e.sz ∧ e1.hot = e.hot ∧ Two (ConvV (upds E (nv.map (cool E)))) e.cells e1.cells) ∧ i < n1 ∧ ∀ v ∈ e1.cells, v.all1.all (fun i => decide (i < n1)) = true) L1)
    (hF : Fam (upds E (nv.map (cool E))) b F) (hP : ∀ e ∈ F, Plain e) (hb : b + F.length ≤ n1) (hk : k ≤ n1) : Weak k s E n1 (sl S1) (enF L1 b F) := by
  refine .inr ⟨nv, sl S1, enF L1 b F, fun i => i, ⟨fun t y ht => ?_, fun i e1 he => ?_⟩, hk, fun _ _ => rfl, fun t x ht => ?_, fun i e he => ?_, fun i j e e' _ _ h => h⟩
  · exact (h1.get _ (lookup_mem ht)).1
  · rcases enF_inv he with h | ⟨j, rfl, h⟩
    · obtain ⟨⟨e, q1, q2, q3, q4⟩, _⟩ := h2.get _ (lookup_mem h)
      exact ⟨e, q1, q2, q3, q4.len, q4.get⟩
    · exact ⟨e1, hF j e1 h, rfl, rfl, rfl, fun j y hj => ⟨y, hj, .inl rfl⟩⟩
  · obtain ⟨_, a2⟩ := h1.get _ (lookup_mem ht)
    exact ⟨by rw [V.ren_id]; exact ht, fun i hi => by simpa using List.all_eq_true.1 a2 i hi⟩
  · rcases enF_inv he with h | ⟨j, rfl, h⟩
    · obtain ⟨_, a2, a3⟩ := h2.get _ (lookup_mem h)
      exact ⟨by rw [Ent.ren_id]; exact he, a2, fun v hv j hj => by simpa using List.all_eq_true.1 (a3 v hv) j hj⟩
    · have hj := (List.getElem?_eq_some_iff.1 h).1
      have hp := hP e (List.mem_of_getElem? h)
      exact ⟨by rw [Ent.ren_id]; exact he, by omega, fun v hv i hi => (hp.low hv hi).elim⟩
theorem CxF {k n n1 b : Nat} {s : Slots} {E : Env} {P : Program} {c : Code} {X : VExit → Nat → Slots → Env → Prop} {S1 : List (Nat × V)} {L1 : List (Nat × Ent)} {F : List Ent} (hw : Weak k s E n1 (sl S1) (enF L1 b F)) (h : VCode P k c n1 (sl S1) (enF L1 b F) X) : Then P k c X .normal n s E := .inr ⟨_, _, _, hw, h⟩
section
variable {P : Program} {ops : Array Oper} {o : Oper} {n : Nat} {s : Slots} {E : Env} {T el by' : Nat} {x y : Operand} {i j d m : Nat} {v w : V} {ik : IntKind} {L : List Int}
theorem ApF (q : Nat) (K : SlT P T el (numB ik 0) by') (h : (runs ops s o.guard, o.dst, o.op, ev s x, E i, ev s y, n) = (some true, some d, .call { callee := .builtin .append, args := #[x, y], argTypes := #[T, T] }, some (.own i 0), some (rowK ik []), some w, q)) (hne : i ∉ w.names)
    (hr : res E w = some (slK ik L)) (hm : L.length * by' ≤ 140737488355328 ∧ L.length ≤ maxLen) : Stp P ops o n s E (q + 1) (setAt s d (some (.own q L.length))) (setAt (setAt E i none) q (some (rowK ik L))) [i, q] := by
  simp only [Prod.mk.injEq] at h
  obtain ⟨h1, h2, h3, h4, h5, h6, rfl⟩ := h
  have := Eff.append (P := P) (id := n) x y T el i 0 (rowK ik []) w (L.map (numB ik)) by' h4 h5 rfl rfl rfl h6 hr hne K.u K.s K.b (by rw [K.z]; rfl) (by simpa using hm.1) (by simpa using hm.2) lits_allK
  rw [List.length_map, Nat.zero_add] at this
  have e : (⟨1, (rowK ik []).cells ++ (L.map (numB ik)).map .b, true⟩ : Ent) = rowK ik L := by simp only [rowK, List.map_map, List.map_nil, List.nil_append]; rfl
  rw [e] at this
  exact st2 h1 h2 (h3 ▸ this)
/-- An element with a name is appended. -/
theorem AoN {α : Type} {sz : Nat} {f : α → List B} {A : List α} {cs : List V} (q : Nat) (hu : P.underlying T = some (.slice el)) (hs : szOf P el = some sz) (hb : (P.info? el).map (·.bytes) = some by') (hz : (zeroOf P el).map List.length = some sz)
    (h : (n, runs ops s o.guard, o.dst, o.op, ev s x, E i, ev s y, E j, Nat.beq j i, cs.length) = (q, some true, some d, .call { callee := .builtin .append, args := #[x, y], argTypes := #[T, T] }, some (.own i m), some (rowT sz f A), some (.own j 1), some ⟨sz, cs, true⟩, false, sz)) (hf : ∀ x, (f x).length = sz) (hA : A.length = m)
    (hm : (m + 1) * by' ≤ 140737488355328 ∧ m + 1 ≤ maxLen) :
    Stp P ops o n s E (q + 1) (setAt s d (some (.own q (m + 1)))) (setAt (setAt E i none) q (some ⟨sz, (rowT sz f A).cells ++ cs, true⟩)) [i, q] := by
  simp only [Prod.mk.injEq] at h
  obtain ⟨rfl, h1, h2, h3, h4, h5, h6, h7, h8, h9⟩ := h
  have hne : j ≠ i := fun e => by rw [e, Nat.beq_refl] at h8; cases h8
  have := Eff.appendOO (P := P) (id := n) x y T el i m (rowT sz f A) j 1 ⟨sz, cs, true⟩ by' h4 h5 rfl (by simp only [rowT, List.length_map, cellsT_len hf, hA]) h6 h7 rfl (by simp [rowT, h9]) hne (by decide) hu hs hb hz hm.1 hm.2
  have e : (⟨(rowT sz f A).sz, (rowT sz f A).cells ++ (⟨sz, cs, true⟩ : Ent).cells.take (1 * (rowT sz f A).sz), true⟩ : Ent) = ⟨sz, (rowT sz f A).cells ++ cs, true⟩ := by
    simp only [rowT, Nat.one_mul]
    rw [List.take_of_length_le (by omega)]
  rw [e] at this
  exact st2 h1 h2 (h3 ▸ this)
end
theorem cpw_nil {D : List Int} : cpw D 0 64 [] = D := by simp [cpw]
theorem sec_set {z : Nat} {D : List Int} {s : Int} {k : Nat} {x : Int} (hD : D.length = z * 64) (h0 : 0 ≤ s) (h : s < z) (hk : k < 64) : rowsD z (D.set ((s * 64).toNat + k) x) = (rowsD z D).set s.toNat ((sec D s).set k x) := by
  apply List.ext_getElem?
  intro j
  rw [List.getElem?_set]
  by_cases hj : j < z
  · rw [rowsD_at hj]
    by_cases hsj : s.toNat = j
    · rw [if_pos hsj, if_pos (by rw [rowsD_len]; omega)]
      have : s = (j : Int) := by omega
      subst this
      congr 1
      apply List.ext_getElem?
      intro q
      rw [sec_get, List.getElem?_set, List.getElem?_set, sec_get, sec_len (by omega) (by omega)]
      by_cases hq : q < 64
      · rw [if_pos hq]
        by_cases hkq : k = q
        · subst hkq; rw [if_pos rfl, if_pos (by omega), if_pos rfl, if_pos hk]
        · rw [if_neg (by omega), if_neg hkq, if_pos hq]
      · rw [if_neg hq, if_neg (by omega), if_neg hq]
    · rw [if_neg hsj, rowsD_at hj]
      congr 1
      apply List.ext_getElem?
      intro q
      rw [sec_get, sec_get]
      by_cases hq : q < 64
      · rw [if_pos hq, if_pos hq, List.getElem?_set, if_neg (by omega)]
      · rw [if_neg hq, if_neg hq]
  · have e1 : (rowsD z (D.set ((s * 64).toNat + k) x))[j]? = none := List.getElem?_eq_none (by rw [rowsD_len]; omega)
    have e2 : (rowsD z D)[j]? = none := List.getElem?_eq_none (by rw [rowsD_len]; omega)
    rw [e1, if_neg (by omega), e2]
end Go.VL

/- Plain laws of a disk: a pending write told by its contents. -/
set_option linter.unusedVariables false
set_option linter.unusedSimpArgs false
namespace Go.VL
theorem pen_conv {p : V → V → Prop} {A : List Pen} {w : Pen} {x y : V} (hp : ∀ x, p x x) (h1 : p x (.b (numB .i64 w.1))) (h2 : p y (.b (slK .u8 w.2))) : Two p ((rowT 2 penB A).cells ++ [x, y]) (rowT 2 penB (A ++ [w])).cells := by
  have e : (rowT 2 penB (A ++ [w])).cells = (rowT 2 penB A).cells ++ [.b (numB .i64 w.1), .b (slK .u8 w.2)] := by
    simp only [rowT, cellsT_append, List.map_append]; rfl
  rw [e]
  exact Two.app (Two.same hp _) ⟨h1, h2, trivial⟩
theorem pen_conv1 {p : V → V → Prop} {w : Pen} {x y : V} (h1 : p x (.b (numB .i64 w.1))) (h2 : p y (.b (slK .u8 w.2))) : Two p [x, y] (rowT 2 penB [w]).cells := ⟨h1, h2, trivial⟩
theorem box_bound {c m z q : Nat} {pl : Nat} {t : Bool} {f : Int} (hm : m = z) (hc : 2 ≤ c) : ∀ v ∈ (⟨4, [.own 1 z, .own (c + z) pl, vB t, vI .i64 f], true⟩ : Ent).cells, ∀ i ∈ v.all1, i < c + m + [q].length := fun v hv i hi => by
  simp only [List.mem_cons, List.not_mem_nil, or_false] at hv
  rcases hv with rfl | rfl | rfl | rfl
  · simp [V.all1, V.all0] at hi; simp; omega
  · simp [V.all1, V.all0] at hi; simp; omega
  · simp [V.all1, V.all0, vB] at hi
  · simp [V.all1, V.all0, vI] at hi
theorem box_ren {c m z q pl : Nat} {t : Bool} {f : Int} {E : Env} {i : Nat} (hm : m = z) (hc : 2 ≤ c) (h : E i = some ⟨4, [.own 1 z, .own q pl, vB t, vI .i64 f], true⟩) : E i = some ((⟨4, [.own 1 z, .own (c + z) pl, vB t, vI .i64 f], true⟩ : Ent).ren (rhE c m [q])) := by
  rw [h]
  have e1 : rhE c m [q] 1 = 1 := by unfold rhE; rw [if_pos (.inl (by omega))]
  have e2 := rhE_new (c := c) (q := q) hm
  simp only [Ent.ren, List.map_cons, List.map_nil, V.ren1, V.ren0, e1, e2, vB, vI]
theorem Fam.cool1 {E : Env} {b q : Nat} {F : List Ent} (h : Fam E b F) (hq : 100000 ≤ q) (hb : b + F.length ≤ 100000) : Fam (upds E ([q].map (cool E))) b F := by
  show Fam (setAt E q _) b F
  exact Fam.skip h (.inr (by omega))
end Go.VL

/- A small program logic over the translated Go code, further part: calls that are lent families, in regions whose order is open. -/
set_option linter.unusedVariables false
set_option linter.unusedSimpArgs false
namespace Go.VL
open Go.RowKit
/-- The table of what the operations look at and write is in order, pair by pair. -/
def PreP (t : List Nat) (j : Nat) (y : List Nat × List Nat) : Nat → List (List Nat × List Nat) → Prop
  | _, [] => True
  | i, x :: r => ((t.getD j 0).testBit i = true ∨ (x.2 = [] ∧ y.2 = []) ∨ (apartIds x.2 (y.1 ++ y.2) = true ∧ apartIds y.2 (x.1 ++ x.2) = true)) ∧ PreP t j y (i + 1) r
def LogP (t : List Nat) : Nat → List (List Nat × List Nat) → List (List Nat × List Nat) → Prop
  | _, _, [] => True
  | j, pre, y :: r => PreP t j y 0 pre ∧ LogP t (j + 1) (pre ++ [y]) r
theorem PreP.get {t : List Nat} {j : Nat} {y : List Nat × List Nat} : ∀ {pre : List (List Nat × List Nat)} {i : Nat}, PreP t j y i pre → ∀ q x, pre[q]? = some x → (t.getD j 0).testBit (i + q) = true ∨ (x.2 = [] ∧ y.2 = []) ∨ (apartIds x.2 (y.1 ++ y.2) = true ∧ apartIds y.2 (x.1 ++ x.2) = true)
  | [], i, _, q, x, h => by simp at h
  | z :: r, i, hp, q, x, h => by
    cases q with
    | zero => simp at h; subst h; exact hp.1
    | succ q => have := PreP.get hp.2 q x (by simpa using h); rwa [show i + 1 + q = i + (q + 1) by omega] at this
theorem LogP.get {t : List Nat} : ∀ {log pre : List (List Nat × List Nat)} {j : Nat}, pre.length = j → LogP t j pre log → ∀ q y, log[q]? = some y → ∀ i x, i < j + q → (pre ++ log)[i]? = some x →
    (t.getD (j + q) 0).testBit i = true ∨ (x.2 = [] ∧ y.2 = []) ∨ (apartIds x.2 (y.1 ++ y.2) = true ∧ apartIds y.2 (x.1 ++ x.2) = true)
  | [], pre, j, hl, _, q, y, h, i, x, hi, hx => by simp at h
  | z :: r, pre, j, hl, hp, q, y, h, i, x, hi, hx => by
    cases q with
    | zero =>
      simp at h; subst h
      rw [List.getElem?_append_left (by omega)] at hx
      have := PreP.get hp.1 i x hx
      simpa using this
    | succ q =>
      have := LogP.get (pre := pre ++ [z]) (j := j + 1) (by simp [hl]) hp.2 q y (by simpa using h) i x (by omega) (by simpa using hx)
      rwa [show j + 1 + q = j + (q + 1) by omega] at this
theorem logOk_of {t : List Nat} {log : List (List Nat × List Nat)} (h : LogP t 0 [] log) : logOk t log = true := by
  unfold logOk
  refine List.all_eq_true.2 fun j hj => List.all_eq_true.2 fun i hi => ?_
  have hj := List.mem_range.1 hj
  have hi := List.mem_range.1 hi
  have e1 := List.getElem?_eq_getElem hj
  have e2 := List.getElem?_eq_getElem (show i < log.length by omega)
  have := LogP.get (pre := []) (j := 0) rfl h j _ e1 i _ (by omega) (show ([] ++ log)[i]? = some log[i] from e2)
  rw [Nat.zero_add] at this
  rw [e1, e2]
  simp only [Bool.or_eq_true]
  rcases this with h | ⟨h1, h2⟩ | ⟨h1, h2⟩
  · exact .inl h
  · right; simp [h1, h2]
  · right; simp [h1, h2]
theorem apart_nil (l : List Nat) : apartIds l ([] ++ []) = true := List.all_eq_true.2 fun x _ => rfl
/-- What a call leaves of its first entries. -/
def UsF (σ : Nat → Nat) (lc : List Nat) : Nat → List (Option Ent) → List (Nat × Option Ent) → Prop
  | _, [], [] => True
  | j, e :: r, p :: us => (p.1 = lc.getD j 0 ∧ p.2 = e.map (Ent.ren σ)) ∧ UsF σ lc (j + 1) r us
  | _, _, _ => False
theorem UsF.eq {σ : Nat → Nat} {lc : List Nat} : ∀ {L : List (Option Ent)} {us : List (Nat × Option Ent)} {j : Nat}, UsF σ lc j L us → us = (List.range L.length).map fun i => (lc.getD (j + i) 0, ((L[i]?).join).map (Ent.ren σ))
  | [], [], j, _ => rfl
  | e :: r, p :: us, j, h => by
    obtain ⟨⟨h1, h2⟩, h3⟩ := h
    rw [List.length_cons, List.range_succ_eq_map, List.map_cons, List.map_map, UsF.eq h3]
    congr 1
    · exact Prod.ext (by simpa using h1) (by simpa using h2)
    · exact List.map_congr_left fun i _ => by simp [Nat.add_assoc, Nat.add_comm 1 i]
  | [], _ :: _, _, h => h.elim
  | _ :: _, [], _, h => h.elim
section
variable {P : Program} {ops : Array Oper} {o : Oper} {r : List Oper} {n : Nat} {s : Slots} {E : Env} {d : Nat} {v : V}
variable {fop : Operand} {args : Array Operand} {ts : Array TypeId} {f : FuncId} {caps vs xs : List V}
theorem upds_fam {lc : List Nat} {b c : Nat} {F : List Ent} {Lc1 N : List (Option Ent)} {usc usn : List (Nat × Option Ent)} (hlc : lc.length = c) (hc : Lc1.length = c) (hnd : lc.Nodup) (hok : okF b lc = true) (hF : Fam E b F) (hP : ∀ e ∈ F, Plain e) (hb : b + F.length ≤ 100000) (hn : 100000 ≤ n) (hnl : ∀ i ∈ lc, i ≠ n) (hN : N.length ≤ 1)
    (h1 : UsF (sgC lc b c F.length n) lc 0 Lc1 usc) (h2 : usn = (List.range N.length).map fun i => (n, ((N[i]?).join).map (Ent.ren (sgC lc b c F.length n)))) :
    upds E ((List.range (Lc1 ++ (F.map some ++ N)).length).map fun j => (sgC lc b c F.length n j, (tab (Lc1 ++ (F.map some ++ N)) j).map (Ent.ren (sgC lc b c F.length n)))) = upds E (usc ++ usn) := by
  have hlen : (Lc1 ++ (F.map some ++ N)).length = c + F.length + N.length := by simp [hc]; omega
  generalize hσ : sgC lc b c F.length n = σ at *
  have s0 : ∀ j, j < c → σ j = lc.getD j 0 ∧ lc.getD j 0 ∈ lc := fun j hj => by
    subst hσ
    refine ⟨by unfold sgC; rw [if_pos hj], ?_⟩
    rw [List.getD_eq_getElem?_getD, List.getElem?_eq_getElem (by omega)]
    exact List.getElem_mem _
  have s1 : ∀ j, j < F.length → σ (c + j) = b + j := fun j hj => by subst hσ; unfold sgC; rw [if_neg (by omega), if_pos (by omega), Nat.add_sub_cancel_left]
  have s2 : ∀ j, σ (c + F.length + j) = n + j := fun j => by subst hσ; unfold sgC; rw [if_neg (by omega), if_neg (by omega), Nat.add_sub_cancel_left]
  have split3 : ∀ j, j < c + F.length + N.length → j < c ∨ (∃ q, q < F.length ∧ j = c + q) ∨ (N.length = 1 ∧ j = c + F.length) := fun j hj => by
    by_cases h1 : j < c
    · exact .inl h1
    · by_cases h2 : j < c + F.length
      · exact .inr (.inl ⟨j - c, by omega, by omega⟩)
      · exact .inr (.inr ⟨by omega, by omega⟩)
  have inj : ∀ i j, i < c + F.length + N.length → j < c + F.length + N.length → σ i = σ j → i = j := fun i j hi hj h => by
    rcases split3 i hi with a | ⟨q, a, rfl⟩ | ⟨a1, a⟩ <;> rcases split3 j hj with a' | ⟨q', a', rfl⟩ | ⟨a1', a'⟩
    · rw [(s0 i a).1, (s0 j a').1, List.getD_eq_getElem?_getD, List.getD_eq_getElem?_getD, List.getElem?_eq_getElem (by omega), List.getElem?_eq_getElem (by omega)] at h
      exact (List.getElem_inj hnd).1 h
    · rw [(s0 i a).1, s1 q' a'] at h
      have := okF_get hok (s0 i a).2
      omega
    · have := s2 0
      rw [a', (s0 i a).1] at h
      simp only [Nat.add_zero] at this
      rw [this] at h
      exact absurd h (hnl _ (s0 i a).2)
    · rw [(s0 j a').1, s1 q a] at h
      have := okF_get hok (s0 j a').2
      omega
    · rw [s1 q a, s1 q' a'] at h; omega
    · have := s2 0
      simp only [Nat.add_zero] at this
      rw [a', s1 q a, this] at h; omega
    · have := s2 0
      simp only [Nat.add_zero] at this
      rw [a, (s0 j a').1, this] at h
      exact absurd h.symm (hnl _ (s0 j a').2)
    · have := s2 0
      simp only [Nat.add_zero] at this
      rw [a, s1 q' a', this] at h; omega
    · omega
  have e2 : usc ++ usn = (List.range c ++ (List.range N.length).map (fun i => c + F.length + i)).map fun j => (σ j, (tab (Lc1 ++ (F.map some ++ N)) j).map (Ent.ren σ)) := by
    rw [List.map_append]
    congr 1
    · rw [UsF.eq h1, hc]
      exact List.map_congr_left fun j hj => by
        have hj := List.mem_range.1 hj
        rw [Nat.zero_add, (s0 j hj).1]
        congr 1
        unfold tab
        rw [List.getElem?_append_left (by omega)]
    · rw [h2, List.map_map]
      exact List.map_congr_left fun i hi => by
        have hi := List.mem_range.1 hi
        have h0 : i = 0 := by omega
        subst h0
        have s20 := s2 0
        simp only [Nat.add_zero] at s20
        simp only [Function.comp, Nat.add_zero, s20]
        congr 1
        unfold tab
        rw [List.getElem?_append_right (by omega), List.getElem?_append_right (by simp; omega)]
        congr 2
        rw [List.length_map]
        congr 1
        omega
  have nd2 : (List.range c ++ (List.range N.length).map (fun i => c + F.length + i)).Nodup := by
    refine List.nodup_append.2 ⟨List.nodup_range, ?_, fun a ha b' hb' => ?_⟩
    · rcases Nat.eq_zero_or_pos N.length with h0 | h0
      · rw [h0]; exact List.nodup_nil
      · rw [show N.length = 1 by omega]; simp [List.range_succ]
    · have := List.mem_range.1 ha
      obtain ⟨q, _, rfl⟩ := List.mem_map.1 hb'
      omega
  have in2 : ∀ j ∈ List.range c ++ (List.range N.length).map (fun i => c + F.length + i), j < c + F.length + N.length := fun j hj => by
    rcases List.mem_append.1 hj with h | h
    · have := List.mem_range.1 h; omega
    · obtain ⟨q, hq, rfl⟩ := List.mem_map.1 h
      have := List.mem_range.1 hq; omega
  rw [e2]
  funext i
  rcases upds_map E σ (fun j => (tab (Lc1 ++ (F.map some ++ N)) j).map (Ent.ren σ)) (List.range (Lc1 ++ (F.map some ++ N)).length) (fun x hx y hy => inj x y (by rw [← hlen]; exact List.mem_range.1 hx) (by rw [← hlen]; exact List.mem_range.1 hy)) List.nodup_range i with ⟨j, k1, k2, k3⟩ | ⟨k1, k2⟩
  · rw [k3]
    have hj : j < c + F.length + N.length := by rw [← hlen]; exact List.mem_range.1 k1
    rcases upds_map E σ (fun j => (tab (Lc1 ++ (F.map some ++ N)) j).map (Ent.ren σ)) (List.range c ++ (List.range N.length).map (fun i => c + F.length + i)) (fun x hx y hy => inj x y (in2 x hx) (in2 y hy)) nd2 i with ⟨j', l1, l2, l3⟩ | ⟨l1, l2⟩
    · rw [l3]
      rw [inj j j' hj (in2 j' l1) (k2.trans l2.symm)]
    · rw [l2]
      rcases split3 j hj with a | ⟨q, a, rfl⟩ | ⟨a1, a⟩
      · exact absurd k2 (l1 j (List.mem_append_left _ (List.mem_range.2 a)))
      · rw [s1 q a] at k2
        subst k2
        have hq : F[q]? = some F[q] := List.getElem?_eq_getElem a
        rw [hF q _ hq]
        unfold tab
        rw [List.getElem?_append_right (by omega), hc, Nat.add_sub_cancel_left, List.getElem?_append_left (by simpa using a), List.getElem?_map, hq]
        simp only [Option.map_some, Option.join_some]
        rw [(hP _ (List.getElem_mem a)).ren]
      · exact absurd k2 (l1 j (List.mem_append_right _ (List.mem_map.2 ⟨0, List.mem_range.2 (by omega), by omega⟩)))
  · rw [k2]
    rcases upds_map E σ (fun j => (tab (Lc1 ++ (F.map some ++ N)) j).map (Ent.ren σ)) (List.range c ++ (List.range N.length).map (fun i => c + F.length + i)) (fun x hx y hy => inj x y (in2 x hx) (in2 y hy)) nd2 i with ⟨j', l1, l2, l3⟩ | ⟨l1, l2⟩
    · exact absurd l2 (k1 j' (List.mem_range.2 (by rw [hlen]; exact in2 j' l1)))
    · rw [l2]
end
section
variable {P : Program} {ops : Array Oper} {o : Oper} {r : List Oper} {n : Nat} {s : Slots} {E : Env} {d : Nat} {v : V}
variable {fop : Operand} {args : Array Operand} {ts : Array TypeId} {f : FuncId} {caps vs xs : List V}
theorem box_sgC {lc : List Nat} {b c m z n pl is : Nat} {t : Bool} {x : Int} (hm : m = z) (hc : 2 ≤ c) (h1 : lc.getD 1 0 = is) : (⟨4, [.own is z, .own n pl, vB t, vI .i64 x], true⟩ : Ent) = (⟨4, [.own 1 z, .own (c + z) pl, vB t, vI .i64 x], true⟩ : Ent).ren (sgC lc b c m n) := by
  have e1 : sgC lc b c m n 1 = is := by unfold sgC; rw [if_pos (by omega)]; exact h1
  have e2 : sgC lc b c m n (c + z) = n := by subst hm; unfold sgC; rw [if_neg (by omega), if_neg (by omega), Nat.sub_self, Nat.add_zero]
  simp only [Ent.ren, List.map_cons, List.map_nil, V.ren1, V.ren0, e1, e2, vB, vI]
theorem GlF {R : List (List Nat × List Nat) → Nat → Slots → Env → Prop} {log : List (List Nat × List Nat)} (q : Nat) (lc : List Nat) {b c : Nat} {Lc F : List Ent} {Lc1 N : List (Option Ent)} {rr : V} (usc usn : List (Nat × Option Ent))
    (h : (n, runs ops s o.guard, o.dst, o.op, ev s fop, evs s args.toList) = (q, some true, some d, .call { callee := .value fop, args := args, argTypes := ts }, some (.fn f caps), some vs))
    (hv : VG P f xs (Lc ++ F) rr (Lc1 ++ (F.map some ++ N))) (hr : rr.ren (sgC lc b c F.length q) = v) (hF : Fam E b F) (hP : ∀ e ∈ F, Plain e) (hb : b + F.length ≤ 100000)
    (hx : Args E (rhC lc b c) (Lc ++ F).length [] (vs ++ caps) xs)
    (hl : AllT (fun j e => E (lc.getD j 0) = some (e.ren (rhC lc b c)) ∧ ([] : List Nat).contains (lc.getD j 0) = false ∧ ∀ v ∈ e.cells, ∀ i ∈ v.all1, i < c + F.length) 0 Lc)
    (h1 : UsF (sgC lc b c F.length q) lc 0 Lc1 usc) (h2 : usn = (List.range N.length).map fun i => (q, ((N[i]?).join).map (Ent.ren (sgC lc b c F.length q))))
    (h3 : ∀ LK W, VLog P ops r (q + 1) (setAt s d (some v)) (upds E (usc ++ usn)) (log ++ [(LK, W)]) R)
    (hcs : (Lc.length, Lc1.length, lc.length) = (c, c, c) := by rfl) (hnd : lc.Nodup := by decide) (hoks : (okF b lc && Nat.ble 100000 q && lc.all (fun i => !(i == q)) && Nat.ble N.length 1) = true := by rfl) : VLog P ops (o :: r) n s E log R := by
  simp only [Prod.mk.injEq] at h hcs; obtain ⟨rfl, g1, g2, g4, g5, g6⟩ := h
  obtain ⟨c1, c2, c3⟩ := hcs
  simp only [Bool.and_eq_true] at hoks
  obtain ⟨⟨⟨k1, k2⟩, k3⟩, k4⟩ := hoks
  have k2 := Nat.le_of_ble_eq_true k2
  have k4 := Nat.le_of_ble_eq_true k4
  have hlen : (Lc ++ F).length = c + F.length := by simp [c1]
  have nmE : nm (rhC lc b c) (Lc ++ F).length n = sgC lc b c F.length n := nm_sgC hlen
  have hcall : CallL P n s E (.call { callee := .value fop, args := args, argTypes := ts }) v (([] : List Nat).map (cool E) ++ (List.range (Lc1 ++ (F.map some ++ N)).length).map fun j => (sgC lc b c F.length n j, (tab (Lc1 ++ (F.map some ++ N)) j).map (Ent.ren (sgC lc b c F.length n)))) ((List.range (Lc ++ F).length).map (rhC lc b c) ++ []) := by
    have := CallL.mk (P := P) (id := n) (s := s) (E := E) fop args ts f caps vs xs (Lc ++ F) rr (Lc1 ++ (F.map some ++ N)) (rhC lc b c) [] _ g5 g6 hx (lent_fam c1 c3 hnd k1 (by rfl) hb hF hP hl) hv (by simp [c1, c2]; omega) rfl
    rw [nmE, hr] at this
    exact this
  refine .inl ⟨g1, some v, _, _, .inr ⟨v, rfl, by rw [g4]; exact hcall⟩, ?_⟩
  · have e := upds_fam (E := E) (n := n) c3 c2 hnd k1 hF hP hb k2 (fun i hi => by
      have := List.all_eq_true.1 k3 i hi
      simpa using this) k4 h1 h2
    rw [g2]
    show VLog P ops r (n + 1) (setAt s d (some v)) (upds E ([] ++ _)) _ R
    rw [List.nil_append, e]
    exact h3 _ _
end
end Go.VL
