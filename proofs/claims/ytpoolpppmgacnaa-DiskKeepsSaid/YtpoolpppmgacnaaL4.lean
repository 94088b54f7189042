/- DiskKeeps returns true for every input and leaves the input as it was. No condition. -/
import Derived.Test.YtpoolpppmgacnaaK2
/- A plain model of a disk: with a fuse so many operations succeed. -/
set_option linter.unusedVariables false
set_option linter.unusedSimpArgs false
namespace Go.VL
def andB (x y : Int) : Int := IntKind.i64.wrap ((BitVec.ofInt 64 x &&& BitVec.ofInt 64 y).toNat : Int)
theorem bop_andI {x y : Int} : bop .and (.int .i64 x) (.int .i64 y) = some (.int .i64 (andB x y)) := rfl
theorem andB_le (x : Int) (k : Nat) (h : k < 2 ^ 63) : 0 ≤ andB x k ∧ andB x k ≤ k := by
  have h1 : (BitVec.ofInt 64 x &&& BitVec.ofInt 64 (k : Int)).toNat ≤ k := by
    rw [BitVec.toNat_and]
    have h2 : (BitVec.ofInt 64 (k : Int)).toNat = k := by
      rw [BitVec.ofInt_natCast, BitVec.toNat_ofNat]
      exact Nat.mod_eq_of_lt (by omega)
    rw [h2]
    exact Nat.and_le_right
  have hw := wrap_i64 (x := ((BitVec.ofInt 64 x &&& BitVec.ofInt 64 (k : Int)).toNat : Int)) (by omega)
  unfold andB
  rw [hw]
  omega
/-- How a fuse of q stands behind so many operations that succeeded. -/
def FuI (q : Int) (d : Dk) (done : Int) : Prop := 0 ≤ done ∧ done ≤ q ∧ ((d.off = false ∧ d.fuse = q - done) ∨ (d.off = true ∧ done = q))
section
variable {n m : Nat} {q done : Int} {d : Dk}
theorem fu_out (h : FuI q d done) (h0 : d.off = false) (h1 : d.out = true) : done = q ∧ d.burn.off = true ∧ FuI q d.burn done := by
  have h2 : d.fuse = 0 := by simpa [Dk.out] using h1
  obtain ⟨a, b, c⟩ := h
  have h3 : done = q := by
    rcases c with c | c
    · omega
    · exact c.2
  have h4 : d.burn = { d with fuse := -1, off := true } := by rw [Dk.burn, if_pos h2]
  rw [h4]
  exact ⟨h3, rfl, a, b, .inr ⟨rfl, h3⟩⟩
theorem fu_in (h : FuI q d done) (h0 : d.off = false) (h1 : d.out = false) : done ≠ q ∧ d.burn.off = false ∧ FuI q d.burn (done + 1) := by
  have h2 : d.fuse ≠ 0 := by simpa [Dk.out] using h1
  obtain ⟨a, b, c⟩ := h
  have h3 : d.fuse = q - done := by
    rcases c with c | c
    · exact c.2
    · rw [h0] at c; exact absurd c.1 (by decide)
  have h4 : d.burn = { d with fuse := d.fuse - 1 } := by rw [Dk.burn, if_neg h2, if_pos (by omega)]
  rw [h4]
  exact ⟨by omega, h0, by omega, by omega, .inl ⟨h0, by simp only; omega⟩⟩
theorem fuse_step {a : Ca} (h : FuI q d done) (h0 : ¬ a.kind < 0) (h2 : ¬ a.kind > 2) :
    ((d.doR n a).2.2 = 0 ∧ d.off = false ∧ done ≠ q ∧ (d.doR n a).1.off = false ∧ FuI q (d.doR n a).1 (done + 1)) ∨ ((d.doR n a).2.2 = 1 ∧ d.off = false ∧ (d.doR n a).1.off = false ∧ FuI q (d.doR n a).1 done) ∨
      ((d.doR n a).2.2 = 290 ∧ (d.off = false → done = q) ∧ (d.doR n a).1.off = true ∧ FuI q (d.doR n a).1 done) := by
  unfold Dk.doR
  by_cases k0 : a.kind = 0
  · rw [if_pos k0]
    unfold Dk.readR
    cases ho : d.off with
    | true => rw [if_pos rfl]; exact .inr (.inr ⟨rfl, (fun hc => by cases hc), ho, h⟩)
    | false =>
      rw [if_neg (by decide)]
      cases hh : hasS n a.sector with
      | false => rw [if_pos rfl]; exact .inr (.inl ⟨rfl, rfl, ho, h⟩)
      | true =>
        rw [if_neg (by decide)]
        cases hu : d.out with
        | true => obtain ⟨e1, e2, e3⟩ := fu_out h ho hu; rw [if_pos rfl]; exact .inr (.inr ⟨rfl, fun _ => e1, e2, e3⟩)
        | false => obtain ⟨e1, e2, e3⟩ := fu_in h ho hu; rw [if_neg (by decide)]; exact .inl ⟨rfl, rfl, e1, e2, e3⟩
  rw [if_neg k0]
  by_cases k1 : a.kind = 1
  · rw [if_pos k1]
    unfold Dk.writeR
    cases ho : d.off with
    | true => rw [if_pos rfl]; exact .inr (.inr ⟨rfl, (fun hc => by cases hc), ho, h⟩)
    | false =>
      rw [if_neg (by decide)]
      by_cases hh : hasS n a.sector = false ∨ (bytM a).length ≠ 64
      · rw [if_pos hh]; exact .inr (.inl ⟨rfl, rfl, ho, h⟩)
      · rw [if_neg hh]
        cases hu : d.out with
        | true => obtain ⟨e1, e2, e3⟩ := fu_out h ho hu; exact .inr (.inr ⟨rfl, fun _ => e1, e2, e3⟩)
        | false => obtain ⟨e1, e2, e3⟩ := fu_in h ho hu; exact .inl ⟨rfl, rfl, e1, e2, e3⟩
  rw [if_neg k1, if_pos (show a.kind = 2 by omega)]
  unfold Dk.syncR
  cases ho : d.off with
  | true => rw [if_pos rfl]; exact .inr (.inr ⟨rfl, (fun hc => by cases hc), ho, h⟩)
  | false =>
    rw [if_neg (by decide)]
    cases hu : d.out with
    | true => obtain ⟨e1, e2, e3⟩ := fu_out h ho hu; rw [if_pos rfl]; exact .inr (.inr ⟨rfl, fun _ => e1, e2, e3⟩)
    | false => obtain ⟨e1, e2, e3⟩ := fu_in h ho hu; rw [if_neg (by decide)]; exact .inl ⟨rfl, rfl, e1, e2, e3⟩
theorem fu_start (h0 : 0 ≤ q) (h1 : q ≤ 15) : FuI q ((newD 4).fuseR q) 0 := ⟨by omega, h0, .inl ⟨rfl, by simp only [Dk.fuseR, newD]; rw [if_neg (by omega)]; omega⟩⟩
theorem fu_ok (h1 : q ≤ 15) : ((newD 4).fuseR q).Ok 256 0 := (newD_ok (z := 4) (by decide) (by decide)).fuse (by omega)
theorem new4_ok : (newD 4).Ok 256 0 := newD_ok (z := 4) (by decide) (by decide)
end
end Go.VL

/- A plain model of a disk: what was durable stays, but where a write is pending. -/
set_option linter.unusedVariables false
set_option linter.unusedSimpArgs false
namespace Go.VL
theorem cpw_get {D L : List Int} {off m : Nat} (h : off + m ≤ D.length) (j : Nat) : (cpw D off m L)[j]? = if off ≤ j ∧ j < off + min L.length m then L[j - off]? else D[j]? := by
  have hm : Nat.min L.length m = min L.length m := rfl
  simp only [cpw, hm]
  have hle := Nat.min_le_right L.length m
  have hle2 := Nat.min_le_left L.length m
  generalize min L.length m = q at hle hle2
  by_cases h1 : j < off
  · rw [List.getElem?_append_left (by simp; omega), List.getElem?_take_of_lt h1, if_neg (by omega)]
  · rw [List.getElem?_append_right (by simp; omega), List.length_take, Nat.min_eq_left (by omega)]
    by_cases h2 : j < off + q
    · rw [List.getElem?_append_left (by simp; omega), List.getElem?_take_of_lt (by omega), if_pos ⟨by omega, h2⟩]
    · rw [List.getElem?_append_right (by simp; omega), List.length_take, Nat.min_eq_left (by omega), List.getElem?_drop, if_neg (by omega)]
      congr 1; omega
theorem sec_get {D : List Int} {s : Int} (j : Nat) : (sec D s)[j]? = if j < 64 then D[(s * 64).toNat + j]? else none := by
  simp only [sec]
  split
  · rename_i h; rw [List.getElem?_take_of_lt h, List.getElem?_drop]
  · rename_i h; rw [List.getElem?_eq_none (by simp; omega)]
theorem sec_put {D b : List Int} {s i : Int} (h0 : 0 ≤ s) (h1 : s * 64 + 64 ≤ D.length) (hi : 0 ≤ i) (hne : s ≠ i) : sec (put D s b) i = sec D i := by
  apply List.ext_getElem?
  intro j
  rw [sec_get, sec_get]
  split
  · rename_i hj
    have := Nat.min_le_right b.length 64
    rw [put, cpw_get (by omega), if_neg (by omega)]
  · rfl
theorem rdS_nil {d : Dk} (h : d.pen = []) {s : Int} (h0 : 0 ≤ s) (h1 : s * 64 + 64 ≤ d.dur.length) : rdS d s = sec d.dur s := by
  rw [rdS, h]
  exact cpw_all (by simp) (sec_len h0 h1)
theorem boL_sec {K : List Bool} {last torn : Int} {P : List Pen} {D : List Int} {i : Int} (hi : 0 ≤ i) (hp : ∀ w ∈ P, 0 ≤ w.1 ∧ w.1 * 64 + 64 ≤ (D.length : Int)) (hn : ∀ w ∈ P, w.1 ≠ i) :
    ∀ j, j ≤ P.length → (boL K last torn P D j).length = D.length ∧ sec (boL K last torn P D j) i = sec D i
  | 0, _ => ⟨rfl, rfl⟩
  | j + 1, h => by
    obtain ⟨e1, e2⟩ := boL_sec hi hp hn (K := K) (last := last) (torn := torn) j (by omega)
    have hm : P.getD j w0 ∈ P := getD_mem' (by omega)
    obtain ⟨a, b⟩ := hp _ hm
    simp only [boL]
    split
    · exact ⟨by rw [put_len a (by rw [e1]; exact b)]; exact e1, by rw [sec_put a (by rw [e1]; exact b) hi (hn _ hm)]; exact e2⟩
    · exact ⟨e1, e2⟩
section
variable {n m : Nat} {d : Dk}
theorem Dk.Ok.boot0 (h : d.Ok n m) (keep : List Int) (torn : Int) : (d.bootR keep torn).Ok n 0 := { h.boot keep torn with pen := Nat.le_refl _ }
theorem boot_sync (keep : List Int) (torn : Int) : (d.bootR keep torn).syncR = (d.bootR keep torn, 0) := rfl
theorem burn_none (h : d.fuse = -1) : d.burn = d := by rw [Dk.burn, if_neg (by omega), if_neg (by omega)]
theorem out_none (h : d.fuse = -1) : d.out = false := by simp [Dk.out, h]
theorem read_up (h0 : d.off = false) (h : d.fuse = -1) {s : Int} (hs : hasS n s = true) : d.readR n s = (d, rdS d s, 0) := by
  rw [Dk.readR, if_neg (by simp [h0]), if_neg (by simp [hs]), if_neg (by simp [out_none h]), burn_none h]
theorem hasS_of {z : Nat} {s : Int} (h0 : 0 ≤ s) (h1 : s < z) : hasS (z * 64) s = true := by
  simp only [hasS, Bool.and_eq_true, decide_eq_true_eq]; omega
def rwB (l : List Int) : List B := [slK .u8 l]
theorem rwB_len : ∀ l, (rwB l).length = 1 := fun _ => rfl
/-- All sectors, the first i of them. -/
def alL (d : Dk) : Nat → List (List Int)
  | 0 => []
  | i + 1 => alL d i ++ [rdS d i]
theorem alL_len : ∀ i, (alL d i).length = i
  | 0 => rfl
  | i + 1 => by simp [alL, alL_len i]
theorem alL_at {j : Nat} : ∀ i, j < i → (alL d i).getD j [] = rdS d j
  | 0, h => by omega
  | i + 1, h => by
    simp only [alL, List.getD_eq_getElem?_getD]
    by_cases hj : j < i
    · rw [List.getElem?_append_left (by rw [alL_len]; exact hj), ← List.getD_eq_getElem?_getD]; exact alL_at i hj
    · have : j = i := by omega
      subst this
      rw [List.getElem?_append_right (by rw [alL_len]; exact Nat.le_refl _), alL_len]; simp
/-- What was written since. -/
def WrI (D0 : List Int) (d : Dk) (W : List Bool) : Prop := d.dur = D0 ∧ ∀ w ∈ d.pen, W.getD w.1.toNat false = true
theorem keep_step {a : Ca} (h2 : a.kind ≠ 2) (h4 : a.kind ≠ 4) (h5 : a.kind ≠ 5) : (d.doR n a).1.dur = d.dur ∧ ∀ w ∈ (d.doR n a).1.pen, w ∈ d.pen ∨ (a.kind = 1 ∧ w.1 = a.sector ∧ 0 ≤ a.sector ∧ a.sector < (n : Int) / 64) := by
  have same : d.dur = d.dur ∧ ∀ w ∈ d.pen, w ∈ d.pen ∨ (a.kind = 1 ∧ w.1 = a.sector ∧ 0 ≤ a.sector ∧ a.sector < (n : Int) / 64) := ⟨rfl, fun w hw => .inl hw⟩
  have burn : d.burn.dur = d.dur ∧ ∀ w ∈ d.burn.pen, w ∈ d.pen ∨ (a.kind = 1 ∧ w.1 = a.sector ∧ 0 ≤ a.sector ∧ a.sector < (n : Int) / 64) := ⟨burn_dur, fun w hw => .inl (by rw [burn_pen] at hw; exact hw)⟩
  unfold Dk.doR
  by_cases k0 : a.kind = 0
  · rw [if_pos k0]; unfold Dk.readR
    repeat' (first | exact same | exact burn | split)
  rw [if_neg k0]
  by_cases k1 : a.kind = 1
  · rw [if_pos k1]
    unfold Dk.writeR
    split
    · exact same
    · split
      · exact same
      · rename_i hh
        have hs : hasS n a.sector = true := by
          cases hq : hasS n a.sector with
          | true => rfl
          | false => exact absurd (.inl hq) hh
        simp only [hasS, Bool.and_eq_true, decide_eq_true_eq] at hs
        refine ⟨burn_dur, fun w hw => ?_⟩
        rcases List.mem_append.1 (show w ∈ d.pen ++ [(a.sector, bytM a)] from hw) with hw | hw
        · exact .inl hw
        · have := List.mem_singleton.1 hw
          subst this
          exact .inr ⟨k1, rfl, hs.1, hs.2⟩
  rw [if_neg k1, if_neg h2]
  by_cases k3 : a.kind = 3
  · rw [if_pos k3]; exact same
  rw [if_neg k3, if_neg h4, if_neg h5]
  exact same
theorem wr_same {D0 : List Int} {W : List Bool} {a : Ca} (h : WrI D0 d W) (h2 : a.kind ≠ 2) (h4 : a.kind ≠ 4) (h5 : a.kind ≠ 5) (hn : ¬ (a.kind = 1 ∧ 0 ≤ a.sector ∧ a.sector < (n : Int) / 64)) : WrI D0 (d.doR n a).1 W := by
  obtain ⟨e1, e2⟩ := keep_step (n := n) (d := d) h2 h4 h5
  refine ⟨e1.trans h.1, fun w hw => ?_⟩
  rcases e2 w hw with q | ⟨q1, q2, q3, q4⟩
  · exact h.2 w q
  · exact absurd ⟨q1, q3, q4⟩ hn
theorem wr_set {D0 : List Int} {W : List Bool} {a : Ca} (h : WrI D0 d W) (h1 : a.kind = 1) (h0 : 0 ≤ a.sector) (hl : a.sector < (W.length : Int)) : WrI D0 (d.doR n a).1 (W.set a.sector.toNat true) := by
  obtain ⟨e1, e2⟩ := keep_step (n := n) (d := d) (a := a) (by omega) (by omega) (by omega)
  refine ⟨e1.trans h.1, fun w hw => ?_⟩
  rw [List.getD_eq_getElem?_getD, List.getElem?_set]
  split
  · rename_i hj; rw [if_pos (by omega)]; rfl
  · rename_i hj
    rcases e2 w hw with q | ⟨q1, q2, q3, q4⟩
    · rw [← List.getD_eq_getElem?_getD]; exact h.2 w q
    · rw [q2] at hj; exact absurd rfl hj
theorem keeps {z : Nat} {D0 : Dk} {W : List Bool} {keep : List Int} {torn : Int} {i : Nat} (h0 : D0.Ok (z * 64) 0) (hd : d.Ok (z * 64) m) (h : WrI D0.dur d W) (hi : i < z) (hW : W.getD i false = false) : rdS (d.bootR keep torn) i = rdS D0 i := by
  have hl : D0.dur.length = z * 64 := h0.len
  have hl2 : (d.bootR keep torn).dur.length = z * 64 := (hd.boot keep torn).len
  have hp0 : D0.pen = [] := List.length_eq_zero_iff.1 (Nat.le_zero.1 h0.pen)
  rw [rdS_nil rfl (by omega) (by rw [hl2]; omega), rdS_nil hp0 (by omega) (by rw [hl]; omega)]
  have e := (boL_sec (K := (kpL keep d.pen.length keep.length).1) (last := (kpL keep d.pen.length keep.length).2) (torn := torn) (P := d.pen) (D := d.dur) (i := (i : Int)) (by omega) (fun w hw => by
    obtain ⟨a, b, _⟩ := hd.ins w hw
    rw [hd.len]; exact ⟨a, b⟩) (fun w hw hc => by
    have := h.2 w hw
    rw [hc] at this
    rw [Int.toNat_natCast, hW] at this
    cases this) d.pen.length (Nat.le_refl _)).2
  rw [← h.1]
  exact e
end
end Go.VL

/- Walks over the Go functions, printed by a program of this session over the kit's print, and by hand. -/
set_option linter.unusedVariables false
set_option linter.unusedSimpArgs false
set_option maxRecDepth 100000
namespace Go.VL
open Go.Proofs
theorem k17z (z : Nat) (h0 : 1 ≤ z) (h1 : z ≤ 1024) : VG Try.prog 17 [vI .i64 (z : Int)] [] (.tup [.ptr 0 0, vI .i64 0]) [some (⟨4, [.own 1 ((z * 64)), .b (slT 2 penB ((newD z).pen)), vI .i64 ((newD z).fuse), vB ((newD z).off)], true⟩), some (rowK .u8 ((newD z).dur))] := by
  have h := k17 (z : Int) (by omega) (by omega)
  have e : ((z : Int) * 64).toNat = z * 64 := by omega
  rw [e] at h
  exact h
section
variable {n m : Nat} {d : Dk}
theorem k21s (hd : d.Ok n m) (hm : m ≤ 100000) (h0 : d.off = false) (h1 : d.fuse = -1) (s : Int) (hs : hasS n s = true) : VG Try.prog 21 [.ptr 0 0, vI .i64 s] [⟨4, [.own 1 (n), .b (slT 2 penB (d.pen)), vI .i64 (d.fuse), vB (d.off)], true⟩, rowK .u8 (d.dur)] (.b (.tup [slK .u8 (rdS d s), numB .i64 0])) [some (⟨4, [.own 1 (n), .b (slT 2 penB (d.pen)), vI .i64 (d.fuse), vB (d.off)], true⟩), some (rowK .u8 (d.dur))] := by
  have h := k21 hd hm s
  rw [read_up h0 h1 hs] at h
  exact h
theorem k25b (hd : d.Ok n m) (hm : m ≤ 100000) (keep : List Int) (torn : Int) : VG Try.prog 25 [.ptr 0 0] [⟨4, [.own 1 (n), .b (slT 2 penB ((d.bootR keep torn).pen)), vI .i64 ((d.bootR keep torn).fuse), vB ((d.bootR keep torn).off)], true⟩, rowK .u8 ((d.bootR keep torn).dur)] (vI .i64 0) [some (⟨4, [.own 1 (n), .b (slT 2 penB ((d.bootR keep torn).pen)), vI .i64 ((d.bootR keep torn).fuse), vB ((d.bootR keep torn).off)], true⟩), some (rowK .u8 ((d.bootR keep torn).dur))] := by
  have h := k25 (hd.boot keep torn) hm
  rw [boot_sync] at h
  exact h
end
theorem k26 {z m : Nat} {d : Dk} (hd : d.Ok (z * 64) m) (hm : m ≤ 100000) (h0 : d.off = false) (h1 : d.fuse = -1) (hz : 1 ≤ z) : VG Try.prog 26 [.ptr 0 (0), vI .i64 ((z : Int))] [⟨4, [.own 1 ((z * 64)), .b (slT 2 penB (d.pen)), vI .i64 (d.fuse), vB (d.off)], true⟩, rowK .u8 (d.dur)] (.b (slT 1 rwB (alL d z))) [some (⟨4, [.own 1 ((z * 64)), .b (slT 2 penB (d.pen)), vI .i64 (d.fuse), vB (d.off)], true⟩), some (rowK .u8 (d.dur))] := by
  have hhi := hd.hi
  refine VGp_of P_mixed Try.func26 rfl rfl (by kernel_rfl) (by simp) rfl <| Sq <| Rg <| Vs (As rfl) <| Nx <| Sq <| Rg <| Vs (An rfl) <| Nx <| Sq <| Sq <| Rg <| Vs (As rfl) <| Nx <| Bk <| VCode.loop (α := ((Unit)) ⊕ ((Nat) × (List (List Int)))) (fun x_ => match x_ with | .inl (u) => (2, sl [(0, .ptr 0 (0)), (1, vI .i64 ((z : Int))), (5, .b .nil), (6, vI .i64 (0))], en [(0, ⟨4, [.own 1 ((z * 64)), .b (slT 2 penB (d.pen)), vI .i64 (d.fuse), vB (d.off)], true⟩), (1, rowK .u8 (d.dur))]) | .inr (i, M) => (10, sl [(0, .ptr 0 (0)), (1, vI .i64 ((z : Int))), (5, .own 9 (i)), (6, vI .i64 ((i : Int)))], en [(0, ⟨4, [.own 1 ((z * 64)), .b (slT 2 penB (d.pen)), vI .i64 (d.fuse), vB (d.off)], true⟩), (1, rowK .u8 (d.dur)), (9, rowT 1 rwB (M))])) (fun x_ => match x_ with | .inl (u) => True | .inr (i, M) => 1 ≤ i ∧ i ≤ z ∧ M = alL d i) (fun x_ => match x_ with | .inl (u) => 2000 | .inr (i, M) => 1025 - i) (.inl (())) trivial Wk ?_
  rintro (u | ⟨i, M⟩) hok2
  · change VCode _ _ _ 2 (sl _) (en _) _
    refine Sq <| Sq <| Rg <| Vs (Mv rfl) <| Vs (Mv rfl) <| Vs (Bi rfl) <| Nx <| Cd rfl (fun hc1 => ?_) (fun hc1 => ?_)
    · replace hc1 := of_decide_eq_true hc1
      exact Ks <| Tg <| Sq <| Bk <| Sq <| Rg <| Vs (Mv rfl) <| Vs (Mv rfl) <| Gm 7 [0, 1] [] (v := .b (.tup [slK .u8 (rdS d 0), numB .i64 (0)])) [(0, ⟨4, [.own 1 ((z * 64)), .b (slT 2 penB (d.pen)), vI .i64 (d.fuse), vB (d.off)], true⟩), (1, rowK .u8 (d.dur))] rfl (k21s hd hm h0 h1 0 (hasS_of (by omega) (by omega))) rfl <| Vs (Mv rfl) <| Vs (Xt rfl) <| Vs (Xt rfl) <| Vs (As rfl) <| Vs (As rfl) <| Nx <| Rg <| Vs (Mv rfl) <| Vs (Mv rfl) <| Vs (sq1 15 rfl (.buildS _ 1 _ 27 [.b (slK .u8 (rdS d 0))] 1 _ [.b (slK .u8 (rdS d 0))] rfl TU43 TZ27 TS27 (List.cons_ne_nil _ _) (by decide) rfl rfl)) <| Vs (An1 16 TU43 TS27 TB27 TN27 (x1 := rdS d 0) (f := rwB) rfl rwB_len) <| Vs (As rfl) <| VList.nil <| Ig <| Tg <| Rg <| Vs (Mv rfl) <| Vs (Bo rfl adI) <| Vs (As rfl) <| VList.nil <| Go (.inr (1, [rdS d 0])) (by exact ⟨by decide, by omega, rfl⟩) (Wt [(9, 16)])
    · replace hc1 := of_decide_eq_false hc1
      exfalso; omega
  · change VCode _ _ _ 10 (sl _) (en _) _
    obtain ⟨g1, g2, g3⟩ := hok2
    have gl : M.length = i := by rw [g3]; exact alL_len _
    refine Sq <| Sq <| Rg <| Vs (Mv rfl) <| Vs (Mv rfl) <| Vs (Bi rfl) <| Nx <| Cd rfl (fun hc2 => ?_) (fun hc2 => ?_)
    · replace hc2 := of_decide_eq_true hc2
      exact Ks <| Tg <| Sq <| Bk <| Sq <| Rg <| Vs (Mv rfl) <| Vs (Mv rfl) <| Gm 15 [0, 1] [] (v := .b (.tup [slK .u8 (rdS d ((i : Int))), numB .i64 (0)])) [(0, ⟨4, [.own 1 ((z * 64)), .b (slT 2 penB (d.pen)), vI .i64 (d.fuse), vB (d.off)], true⟩), (1, rowK .u8 (d.dur)), (9, rowT 1 rwB (M))] rfl (k21s hd hm h0 h1 ((i : Int)) (hasS_of (by omega) (by omega))) rfl <| Vs (Mv rfl) <| Vs (Xt rfl) <| Vs (Xt rfl) <| Vs (As rfl) <| Vs (As rfl) <| Nx <| Rg <| Vs (Mv rfl) <| Vs (Mv rfl) <| Vs (sq1 23 rfl (.buildS _ 1 _ 27 [.b (slK .u8 (rdS d ((i : Int))))] 1 _ [.b (slK .u8 (rdS d ((i : Int))))] rfl TU43 TZ27 TS27 (List.cons_ne_nil _ _) (by decide) rfl rfl)) <| Vs (Ao1 24 TU43 TS27 TB27 TN27 (x1 := rdS d ((i : Int))) (f := rwB) rfl rwB_len) <| Vs (As rfl) <| VList.nil <| Ig <| Tg <| Rg <| Vs (Mv rfl) <| Vs (Bo rfl adI) <| Vs (As rfl) <| VList.nil <| Go (.inr (i + 1, (M) ++ [rdS d ((i : Int))])) (by exact ⟨by omega, by omega, by rw [g3]; rfl⟩) (Wt [(9, 24)])
    · replace hc2 := of_decide_eq_false hc2
      exact Ke <| Te <| Oe <| Ih <| Tg <| Sq <| Rg <| Vs (Mv rfl) <| Vs (As rfl) <| Nx <| Re <| Gg (L1' := [some (⟨4, [.own 1 ((z * 64)), .b (slT 2 penB (d.pen)), vI .i64 (d.fuse), vB (d.off)], true⟩), some (rowK .u8 (d.dur))]) [0, 1] (.val _ _ _ _ _ rfl (res_rowT rwB_len rfl (by first | omega | (simp; done) | (simp; omega))) rfl .nil) (.one _) (by rw [g3, show i = z by omega]) rfl
end Go.VL

/- Walks over the Go functions, printed by a program of this session over the kit's print, and by hand. -/
set_option linter.unusedVariables false
set_option linter.unusedSimpArgs false
set_option maxRecDepth 100000
namespace Go.VL
open Go.Proofs
theorem g4 (k0 : Int) (x0 : -9223372036854775808 ≤ k0) (y0 : k0 ≤ 9223372036854775807) (A : List Ca) (oA : ∀ a ∈ A, a.Ok) (lA : A.length ≤ 9223372036854775807) (A2 : List Ca) (oA2 : ∀ a ∈ A2, a.Ok) (lA2 : A2.length ≤ 9223372036854775807) (c : Ca) (oc : c.Ok) : VF Try.prog 4 [numB .i64 (k0), slT 6 caB (A), slT 6 caB (A2), .agg [numB .i64 (c.kind), numB .i64 (c.sector), numB .u8 (c.fill), numB .i64 (c.size), numB .i64 (c.n), slK .i64 (c.keep)]] (boolB true) := by
  have h7 : 0 ≤ andB k0 7 ∧ andB k0 7 ≤ 7 := andB_le k0 7 (by decide)
  obtain ⟨z, hz⟩ : ∃ z : Nat, 1 + andB k0 7 = (z : Int) := ⟨(1 + andB k0 7).toNat, by omega⟩
  have hz1 : 1 ≤ z := by omega
  have hz8 : z ≤ 8 := by omega
  refine VF_of P_mixed Try.func4 rfl rfl (by kernel_rfl) <| Sq <| Rg <| Vs (Bx 0 rfl) <| Vs (As rfl) <| Nx <| Sq <| Rg <| Vs (Mv rfl) <| Vs (Bo (c := .int .i64 ((andB k0 7))) rfl (bop_andI)) <| Vs (Bo (c := .int .i64 ((z : Int))) rfl (by rw [bop_add_i64 (by omega), hz])) <| Vs (As rfl) <| Nx <| Sq <| Rg <| Vs (Mv rfl) <| Gm 7 [] [] (v := .tup [.ptr 7 (0), vI .i64 (0)]) [(0, ⟨6, [vI .i64 (c.kind), vI .i64 (c.sector), vI .u8 (c.fill), vI .i64 (c.size), vI .i64 (c.n), .b (slK .i64 (c.keep))], true⟩), (7, ⟨4, [.own 8 ((z * 64)), .b (slT 2 penB ((newD z).pen)), vI .i64 ((newD z).fuse), vB ((newD z).off)], true⟩), (8, rowK .u8 ((newD z).dur))] rfl (k17z z hz1 (by omega)) rfl <| Vs (Mv rfl) <| Vs (Xv rfl) <| Vs (Xv rfl) <| Vs (As rfl) <| Vs (As rfl) <| Nx <| Sq <| Sq <| Rg <| Vs (Cf rfl rfl (g18) rfl) <| Vs (Un rfl) <| Vs (Mv rfl) <| Vs (Mv rfl) <| Vs (Bi (c := .bool false) rfl) <| Vs (Pk rfl) <| Vs (Mv rfl) <| Vs (Mv rfl) <| Vs (Pe TU22 rfl) <| Vs (Pk rfl) <| Nx <| Cz rfl <| Ks <| Tg <| VCode.join (α := (Nat) × (Dk)) (fun x_ => match x_ with | (i, d) => (9, sl [(2, .b (slT 6 caB (A2))), (7, .ptr 0 (0)), (9, vI .i64 ((z : Int))), (10, .ptr 7 (0))], en [(0, ⟨6, [vI .i64 (c.kind), vI .i64 (c.sector), vI .u8 (c.fill), vI .i64 (c.size), vI .i64 (c.n), .b (slK .i64 (c.keep))], true⟩), (7, ⟨4, [.own 8 ((z * 64)), .b (slT 2 penB (d.pen)), vI .i64 (d.fuse), vB (d.off)], true⟩), (8, rowK .u8 (d.dur))])) (fun x_ => match x_ with | (i, d) => i ≤ 40 ∧ d.Ok (z * 64) i) ?_ ?_
  · skip
    refine Sq <| Rg <| Vs (As rfl) <| Nx <| Bk <| VCode.loop (α := (Nat) × (Dk)) (fun x_ => match x_ with | (i, d) => (9, sl [(1, .b (slT 6 caB (A))), (2, .b (slT 6 caB (A2))), (7, .ptr 0 (0)), (9, vI .i64 ((z : Int))), (10, .ptr 7 (0)), (12, vI .i64 ((i : Int)))], en [(0, ⟨6, [vI .i64 (c.kind), vI .i64 (c.sector), vI .u8 (c.fill), vI .i64 (c.size), vI .i64 (c.n), .b (slK .i64 (c.keep))], true⟩), (7, ⟨4, [.own 8 ((z * 64)), .b (slT 2 penB (d.pen)), vI .i64 (d.fuse), vB (d.off)], true⟩), (8, rowK .u8 (d.dur))])) (fun x_ => match x_ with | (i, d) => i ≤ 40 ∧ d.Ok (z * 64) i) (fun x_ => match x_ with | (i, d) => 40 - i) (0, newD z) ⟨by omega, newD_ok hz1 (by omega)⟩ Wk ?_
    rintro ⟨i, d⟩ hok
    obtain ⟨hi, hd⟩ := hok
    change VCode _ _ _ 9 (sl _) (en _) _
    refine Sq <| Sq <| Rg <| Vs (Mv rfl) <| Vs (Mv rfl) <| Vs (Lst caB_len TU37 rfl) <| Vs (Bi rfl) <| Vs (Mv rfl) <| Sp 41 rfl (fun hc1 => ?_) (fun hc1 => ?_)
    · replace hc1 := of_decide_eq_true hc1
      refine Vs (Mv rfl) <| Vs (Bi rfl) <| Vs (Pk rfl) <| Nx <| Cd rfl (fun hc2 => ?_) (fun hc2 => ?_)
      · replace hc2 := of_decide_eq_true hc2
        exact Ks <| Tg <| Sq <| Bk <| Rg <| Vs (Mv rfl) <| Vs (Mv rfl) <| Vs (Mv rfl) <| Vs (IxT caB_len TU37 TS31 rfl (by first | omega | (simp; done) | (simp; omega)) (gd (d := a0) (j := i) (by first | omega | (simp; done) | (simp; omega))) rfl) <| Vs (LqS TA31 TS31 rfl) <| Gm 22 [7, 8] [] (v := .b (.agg [slK .u8 ((d.doR (z * 64) ((A).getD (i) a0)).2.1), numB .i64 ((d.doR (z * 64) ((A).getD (i) a0)).2.2)])) [(0, ⟨6, [vI .i64 (c.kind), vI .i64 (c.sector), vI .u8 (c.fill), vI .i64 (c.size), vI .i64 (c.n), .b (slK .i64 (c.keep))], true⟩), (7, ⟨4, [.own 8 ((z * 64)), .b (slT 2 penB (((d.doR (z * 64) ((A).getD (i) a0)).1).pen)), vI .i64 (((d.doR (z * 64) ((A).getD (i) a0)).1).fuse), vB (((d.doR (z * 64) ((A).getD (i) a0)).1).off)], true⟩), (8, rowK .u8 (((d.doR (z * 64) ((A).getD (i) a0)).1).dur))] rfl (k23 hd (by omega) (oA _ (getD_mem' (x := a0) (show i < A.length by omega)))) rfl <| VList.nil <| Ig <| Tg <| Rg <| Vs (Mv rfl) <| Vs (Bo rfl adI) <| Vs (As rfl) <| VList.nil <| Go (i + 1, (d.doR (z * 64) ((A).getD (i) a0)).1) ⟨by omega, hd.does (oA _ (getD_mem' (x := a0) (show i < A.length by omega)))⟩ Wk
      · replace hc2 := of_decide_eq_false hc2
        exact Ke <| Te <| Oe <| Ih <| Jg (i, d) ⟨hi, hd⟩ Wk
    · replace hc1 := of_decide_eq_false hc1
      exact Sk rfl <| Sk rfl <| Vs (Pk rfl) <| Nx <| Cz rfl <| Ke <| Te <| Oe <| Ih <| Jg (i, d) ⟨hi, hd⟩ Wk
  · rintro ⟨i, d⟩ hokJ
    obtain ⟨hi, hd⟩ := hokJ
    change VCode _ _ _ 9 (sl _) (en _) _
    refine Sq <| Rg <| Vs (Mv rfl) <| Gm 10 [7, 8] [] (v := .b (.tup [])) [(0, ⟨6, [vI .i64 (c.kind), vI .i64 (c.sector), vI .u8 (c.fill), vI .i64 (c.size), vI .i64 (c.n), .b (slK .i64 (c.keep))], true⟩), (7, ⟨4, [.own 8 ((z * 64)), .b (slT 2 penB ((d.bootR ([]) 0).pen)), vI .i64 ((d.bootR ([]) 0).fuse), vB ((d.bootR ([]) 0).off)], true⟩), (8, rowK .u8 ((d.bootR ([]) 0).dur))] rfl (k24 hd (by omega) (keep := []) (by simp) 0) rfl <| Nx <| Sq <| Sq <| Rg <| Vs (Mv rfl) <| Gm 12 [7, 8] [] (v := vI .i64 (0)) [(0, ⟨6, [vI .i64 (c.kind), vI .i64 (c.sector), vI .u8 (c.fill), vI .i64 (c.size), vI .i64 (c.n), .b (slK .i64 (c.keep))], true⟩), (7, ⟨4, [.own 8 ((z * 64)), .b (slT 2 penB ((d.bootR ([]) 0).pen)), vI .i64 ((d.bootR ([]) 0).fuse), vB ((d.bootR ([]) 0).off)], true⟩), (8, rowK .u8 ((d.bootR ([]) 0).dur))] rfl (k25b hd (by omega) [] 0) rfl <| Vs (Bi (c := .bool false) rfl) <| Nx <| Cz rfl <| Ks <| Tg <| Sq <| Rg <| Vs (Mv rfl) <| Vs (Mv rfl) <| Gm 16 [7, 8] [] (v := .b (slT 1 rwB (alL (d.bootR ([]) 0) z))) [(0, ⟨6, [vI .i64 (c.kind), vI .i64 (c.sector), vI .u8 (c.fill), vI .i64 (c.size), vI .i64 (c.n), .b (slK .i64 (c.keep))], true⟩), (7, ⟨4, [.own 8 ((z * 64)), .b (slT 2 penB ((d.bootR ([]) 0).pen)), vI .i64 ((d.bootR ([]) 0).fuse), vB ((d.bootR ([]) 0).off)], true⟩), (8, rowK .u8 ((d.bootR ([]) 0).dur))] rfl (k26 (hd.boot0 [] 0) (by decide) rfl rfl hz1) rfl <| Vs (As rfl) <| Nx <| Sq <| Rg <| Vs (Mv rfl) <| Vs (MkT 19 false boB_len TU45 TZ4 TS4 TB4 rfl) <| Vs (As rfl) <| Nx <| VCode.join (α := (Nat) × (Dk) × (List Bool)) (fun x_ => match x_ with | (j, e, W) => (20, sl [(7, .ptr 0 (0)), (9, vI .i64 ((z : Int))), (10, .ptr 7 (0)), (13, .b (slT 1 rwB (alL (d.bootR ([]) 0) z))), (14, .own 19 ((z)))], en [(0, ⟨6, [vI .i64 (c.kind), vI .i64 (c.sector), vI .u8 (c.fill), vI .i64 (c.size), vI .i64 (c.n), .b (slK .i64 (c.keep))], true⟩), (7, ⟨4, [.own 8 ((z * 64)), .b (slT 2 penB (e.pen)), vI .i64 (e.fuse), vB (e.off)], true⟩), (8, rowK .u8 (e.dur)), (19, rowT 1 boB (W))])) (fun x_ => match x_ with | (j, e, W) => j ≤ 40 ∧ e.Ok (z * 64) j ∧ WrI (d.bootR [] 0).dur e W ∧ W.length = z) ?_ ?_
    · skip
      refine Sq <| Rg <| Vs (As rfl) <| Nx <| Bk <| VCode.loop (α := (Nat) × (Dk) × (List Bool)) (fun x_ => match x_ with | (j, e, W) => (20, sl [(2, .b (slT 6 caB (A2))), (7, .ptr 0 (0)), (9, vI .i64 ((z : Int))), (10, .ptr 7 (0)), (13, .b (slT 1 rwB (alL (d.bootR ([]) 0) z))), (14, .own 19 ((z))), (15, vI .i64 ((j : Int)))], en [(0, ⟨6, [vI .i64 (c.kind), vI .i64 (c.sector), vI .u8 (c.fill), vI .i64 (c.size), vI .i64 (c.n), .b (slK .i64 (c.keep))], true⟩), (7, ⟨4, [.own 8 ((z * 64)), .b (slT 2 penB (e.pen)), vI .i64 (e.fuse), vB (e.off)], true⟩), (8, rowK .u8 (e.dur)), (19, rowT 1 boB (W))])) (fun x_ => match x_ with | (j, e, W) => j ≤ 40 ∧ e.Ok (z * 64) j ∧ WrI (d.bootR [] 0).dur e W ∧ W.length = z) (fun x_ => match x_ with | (j, e, W) => 40 - j) (0, d.bootR [] 0, List.replicate z false) ⟨by omega, hd.boot0 [] 0, ⟨rfl, fun w hw => absurd hw (by simp [Dk.bootR])⟩, by simp⟩ (Wt []) ?_
      rintro ⟨j, e, W⟩ hok2
      obtain ⟨hj, he, hw, hWl⟩ := hok2
      change VCode _ _ _ 20 (sl _) (en _) _
      refine Sq <| Sq <| Rg <| Vs (Mv rfl) <| Vs (Mv rfl) <| Vs (Lst caB_len TU37 rfl) <| Vs (Bi rfl) <| Vs (Mv rfl) <| Sp 67 rfl (fun hc3 => ?_) (fun hc3 => ?_)
      · replace hc3 := of_decide_eq_true hc3
        refine Vs (Mv rfl) <| Vs (Bi rfl) <| Vs (Pk rfl) <| Nx <| Cd rfl (fun hc4 => ?_) (fun hc4 => ?_)
        · replace hc4 := of_decide_eq_true hc4
          have hb := oA2 _ (getD_mem' (x := a0) (show j < A2.length by omega))
          refine Ks <| Tg <| Sq <| Bk <| Sq <| Rg <| Vs (Mv rfl) <| Vs (Mv rfl) <| Vs (IxT caB_len TU37 TS31 rfl (by first | omega | (simp; done) | (simp; omega)) (gd (d := a0) (j := j) (by first | omega | (simp; done) | (simp; omega))) rfl) <| Vs (LqS TA31 TS31 rfl) <| Vs (Al 32 TZ31 rfl) <| Vs (StS TS31 rfl) <| Nx <| Sq <| Sq <| Rg <| Vs (Fa TF31_0 rfl) <| Vs (Ld TA3 rfl) <| Vs (Bi rfl) <| Vs (Mv rfl) <| Sp 80 rfl (fun hc5 => ?_) (fun hc5 => ?_)
          · replace hc5 := eq_of_beq hc5
            exact Sk rfl <| Sk rfl <| Sk rfl <| Vs (Pk rfl) <| Vs (Mv rfl) <| Sk rfl <| Sk rfl <| Sk rfl <| Vs (Pk rfl) <| Nx <| Cy rfl <| Ke <| Te <| Ih <| Tg <| Rg <| Vs (Mv rfl) <| Vs (Bo rfl adI) <| Vs (As rfl) <| VList.nil <| Go (j + 1, e, W) (by first | exact ⟨by omega, he.mono (Nat.le_succ _), hw, hWl⟩ | exact ⟨by omega, he.does hb, wr_set hw (by assumption) (by assumption) (by omega), by rw [List.length_set]; exact hWl⟩ | exact ⟨by omega, he.does hb, wr_same hw (by assumption) (by assumption) (by assumption) (by rintro ⟨p1, p2, p3⟩; omega), hWl⟩) (Wt [])
          · replace hc5 := ne_of_beq_false hc5
            refine Vs (Fa TF31_0 rfl) <| Vs (Ld TA3 rfl) <| Vs (Bi rfl) <| Vs (Pk rfl) <| Vs (Mv rfl) <| Sp 85 rfl (fun hc6 => ?_) (fun hc6 => ?_)
            · replace hc6 := eq_of_beq hc6
              exact Sk rfl <| Sk rfl <| Sk rfl <| Vs (Pk rfl) <| Nx <| Cy rfl <| Ke <| Te <| Ih <| Tg <| Rg <| Vs (Mv rfl) <| Vs (Bo rfl adI) <| Vs (As rfl) <| VList.nil <| Go (j + 1, e, W) (by first | exact ⟨by omega, he.mono (Nat.le_succ _), hw, hWl⟩ | exact ⟨by omega, he.does hb, wr_set hw (by assumption) (by assumption) (by omega), by rw [List.length_set]; exact hWl⟩ | exact ⟨by omega, he.does hb, wr_same hw (by assumption) (by assumption) (by assumption) (by rintro ⟨p1, p2, p3⟩; omega), hWl⟩) (Wt [])
            · replace hc6 := ne_of_beq_false hc6
              refine Vs (Fa TF31_0 rfl) <| Vs (Ld TA3 rfl) <| Vs (Bi rfl) <| Vs (Pk rfl) <| Nx <| Cd rfl (fun hc7 => ?_) (fun hc7 => ?_)
              · replace hc7 := eq_of_beq hc7
                exact Ke <| Te <| Ih <| Tg <| Rg <| Vs (Mv rfl) <| Vs (Bo rfl adI) <| Vs (As rfl) <| VList.nil <| Go (j + 1, e, W) (by first | exact ⟨by omega, he.mono (Nat.le_succ _), hw, hWl⟩ | exact ⟨by omega, he.does hb, wr_set hw (by assumption) (by assumption) (by omega), by rw [List.length_set]; exact hWl⟩ | exact ⟨by omega, he.does hb, wr_same hw (by assumption) (by assumption) (by assumption) (by rintro ⟨p1, p2, p3⟩; omega), hWl⟩) (Wt [])
              · replace hc7 := ne_of_beq_false hc7
                refine Ks <| Tg <| Sq <| Rg <| Vs (Mv rfl) <| Vs (LdS TA31 TS31 rfl) <| Gm 49 [7, 8] [] (v := .b (.agg [slK .u8 ((e.doR (z * 64) ((A2).getD (j) a0)).2.1), numB .i64 ((e.doR (z * 64) ((A2).getD (j) a0)).2.2)])) [(0, ⟨6, [vI .i64 (c.kind), vI .i64 (c.sector), vI .u8 (c.fill), vI .i64 (c.size), vI .i64 (c.n), .b (slK .i64 (c.keep))], true⟩), (7, ⟨4, [.own 8 ((z * 64)), .b (slT 2 penB (((e.doR (z * 64) ((A2).getD (j) a0)).1).pen)), vI .i64 (((e.doR (z * 64) ((A2).getD (j) a0)).1).fuse), vB (((e.doR (z * 64) ((A2).getD (j) a0)).1).off)], true⟩), (8, rowK .u8 (((e.doR (z * 64) ((A2).getD (j) a0)).1).dur)), (19, rowT 1 boB (W)), (32, ⟨6, [vI .i64 (((A2).getD (j) a0).kind), vI .i64 (((A2).getD (j) a0).sector), vI .u8 (((A2).getD (j) a0).fill), vI .i64 (((A2).getD (j) a0).size), vI .i64 (((A2).getD (j) a0).n), .b (slK .i64 (((A2).getD (j) a0).keep))], true⟩)] rfl (k23 he (by omega) hb) rfl <| Nx <| Sq <| Rg <| Vs (Fa TF31_0 rfl) <| Vs (Ld TA3 rfl) <| Vs (Bi rfl) <| Vs (Mv rfl) <| Sp 96 rfl (fun hc8 => ?_) (fun hc8 => ?_)
                · replace hc8 := eq_of_beq hc8
                  refine Vs (Fa TF31_1 rfl) <| Vs (Ld TA3 rfl) <| Vs (Bi rfl) <| Vs (Pk rfl) <| Vs (Mv rfl) <| Sp 101 rfl (fun hc9 => ?_) (fun hc9 => ?_)
                  · replace hc9 := of_decide_eq_true hc9
                    refine Vs (Fa TF31_1 rfl) <| Vs (Ld TA3 rfl) <| Vs (Mv rfl) <| Vs (Bi rfl) <| Vs (Pk rfl) <| Nx <| Cd rfl (fun hc10 => ?_) (fun hc10 => ?_)
                    · replace hc10 := of_decide_eq_true hc10
                      exact Rg <| Vs (Mv rfl) <| Vs (Fa TF31_1 rfl) <| Vs (Ld TA3 rfl) <| Vs (IT TU45 TS4 rfl) <| Vs (SrT (true) boB_len TS4 rfl (by first | omega | (simp; done) | (simp; omega))) <| VList.nil <| Ig <| Tg <| Rg <| Vs (Mv rfl) <| Vs (Bo rfl adI) <| Vs (As rfl) <| VList.nil <| Go (j + 1, (e.doR (z * 64) ((A2).getD (j) a0)).1, (W).set ((((A2).getD (j) a0).sector).toNat) (true)) (by first | exact ⟨by omega, he.mono (Nat.le_succ _), hw, hWl⟩ | exact ⟨by omega, he.does hb, wr_set hw (by assumption) (by assumption) (by omega), by rw [List.length_set]; exact hWl⟩ | exact ⟨by omega, he.does hb, wr_same hw (by assumption) (by assumption) (by assumption) (by rintro ⟨p1, p2, p3⟩; omega), hWl⟩) (Wt [])
                    · replace hc10 := of_decide_eq_false hc10
                      exact Ks <| Ig <| Tg <| Rg <| Vs (Mv rfl) <| Vs (Bo rfl adI) <| Vs (As rfl) <| VList.nil <| Go (j + 1, (e.doR (z * 64) ((A2).getD (j) a0)).1, W) (by first | exact ⟨by omega, he.mono (Nat.le_succ _), hw, hWl⟩ | exact ⟨by omega, he.does hb, wr_set hw (by assumption) (by assumption) (by omega), by rw [List.length_set]; exact hWl⟩ | exact ⟨by omega, he.does hb, wr_same hw (by assumption) (by assumption) (by assumption) (by rintro ⟨p1, p2, p3⟩; omega), hWl⟩) (Wt [])
                  · replace hc9 := of_decide_eq_false hc9
                    exact Sk rfl <| Sk rfl <| Sk rfl <| Sk rfl <| Vs (Pk rfl) <| Nx <| Cz rfl <| Ks <| Ig <| Tg <| Rg <| Vs (Mv rfl) <| Vs (Bo rfl adI) <| Vs (As rfl) <| VList.nil <| Go (j + 1, (e.doR (z * 64) ((A2).getD (j) a0)).1, W) (by first | exact ⟨by omega, he.mono (Nat.le_succ _), hw, hWl⟩ | exact ⟨by omega, he.does hb, wr_set hw (by assumption) (by assumption) (by omega), by rw [List.length_set]; exact hWl⟩ | exact ⟨by omega, he.does hb, wr_same hw (by assumption) (by assumption) (by assumption) (by rintro ⟨p1, p2, p3⟩; omega), hWl⟩) (Wt [])
                · replace hc8 := ne_of_beq_false hc8
                  exact Sk rfl <| Sk rfl <| Sk rfl <| Vs (Pk rfl) <| Vs (Mv rfl) <| Sk rfl <| Sk rfl <| Sk rfl <| Sk rfl <| Vs (Pk rfl) <| Nx <| Cz rfl <| Ks <| Ig <| Tg <| Rg <| Vs (Mv rfl) <| Vs (Bo rfl adI) <| Vs (As rfl) <| VList.nil <| Go (j + 1, (e.doR (z * 64) ((A2).getD (j) a0)).1, W) (by first | exact ⟨by omega, he.mono (Nat.le_succ _), hw, hWl⟩ | exact ⟨by omega, he.does hb, wr_set hw (by assumption) (by assumption) (by omega), by rw [List.length_set]; exact hWl⟩ | exact ⟨by omega, he.does hb, wr_same hw (by assumption) (by assumption) (by assumption) (by rintro ⟨p1, p2, p3⟩; omega), hWl⟩) (Wt [])
        · replace hc4 := of_decide_eq_false hc4
          exact Ke <| Te <| Oe <| Ih <| Jg (j, e, W) ⟨hj, he, hw, hWl⟩ (Wt [])
      · replace hc3 := of_decide_eq_false hc3
        exact Sk rfl <| Sk rfl <| Vs (Pk rfl) <| Nx <| Cz rfl <| Ke <| Te <| Oe <| Ih <| Jg (j, e, W) ⟨hj, he, hw, hWl⟩ (Wt [])
    · rintro ⟨j, e, W⟩ hokJ
      obtain ⟨hj, he, hw, hWl⟩ := hokJ
      change VCode _ _ _ 20 (sl _) (en _) _
      refine Sq <| Rg <| Vs (Mv rfl) <| Vs (Fa TF31_5 rfl) <| Vs (Ld TA29 rfl) <| Vs (Fa TF31_4 rfl) <| Vs (Ld TA3 rfl) <| Gm 25 [7, 8] [] (v := .b (.tup [])) [(0, ⟨6, [vI .i64 (c.kind), vI .i64 (c.sector), vI .u8 (c.fill), vI .i64 (c.size), vI .i64 (c.n), .b (slK .i64 (c.keep))], true⟩), (7, ⟨4, [.own 8 ((z * 64)), .b (slT 2 penB ((e.bootR (c.keep) (c.n)).pen)), vI .i64 ((e.bootR (c.keep) (c.n)).fuse), vB ((e.bootR (c.keep) (c.n)).off)], true⟩), (8, rowK .u8 ((e.bootR (c.keep) (c.n)).dur)), (19, rowT 1 boB (W))] rfl (k24 he (by omega) (keep := c.keep) (oc.keep) (c.n)) rfl <| Nx <| Sq <| Rg <| Vs (Mv rfl) <| Vs (Mv rfl) <| Gm 28 [7, 8] [] (v := .b (slT 1 rwB (alL (e.bootR (c.keep) (c.n)) z))) [(0, ⟨6, [vI .i64 (c.kind), vI .i64 (c.sector), vI .u8 (c.fill), vI .i64 (c.size), vI .i64 (c.n), .b (slK .i64 (c.keep))], true⟩), (7, ⟨4, [.own 8 ((z * 64)), .b (slT 2 penB ((e.bootR (c.keep) (c.n)).pen)), vI .i64 ((e.bootR (c.keep) (c.n)).fuse), vB ((e.bootR (c.keep) (c.n)).off)], true⟩), (8, rowK .u8 ((e.bootR (c.keep) (c.n)).dur)), (19, rowT 1 boB (W))] rfl (k26 (he.boot c.keep c.n) (by omega) rfl rfl hz1) rfl <| Vs (As rfl) <| Nx <| Sq <| Sq <| Rg <| Vs (As rfl) <| Nx <| Bk <| VCode.loop (α := (Nat)) (fun q => (20, sl [(9, vI .i64 ((z : Int))), (13, .b (slT 1 rwB (alL (d.bootR ([]) 0) z))), (14, .own 19 ((z))), (17, .b (slT 1 rwB (alL (e.bootR (c.keep) (c.n)) z))), (18, vI .i64 ((q : Int)))], en [(19, rowT 1 boB (W))])) (fun q => q ≤ z) (fun q => z - q) (0) (Nat.zero_le _) (Wt []) ?_
      intro q hok3
      have hq0 := hok3
      change VCode _ _ _ 20 (sl _) (en _) _
      refine Sq <| Sq <| Rg <| Vs (Mv rfl) <| Vs (Mv rfl) <| Vs (Bi rfl) <| Nx <| Cd rfl (fun hc11 => ?_) (fun hc11 => ?_)
      · replace hc11 := of_decide_eq_true hc11
        have hq : q < z := by omega
        refine Ks <| Tg <| Sq <| Bk <| Sq <| Rd (by kernel_rfl) <| Vl (Mv rfl) <| Vl (Mv rfl) <| Vl (IT TU45 TS4 rfl) <| Vl (L1T boB_len TA4 rfl (gd (d := false) (j := q) (by first | omega | (simp; done) | (simp; omega))) rfl) <| Vl (Un rfl) <| Vl (Mv rfl) <| Sl 130 rfl (fun hc12 => ?_) (fun hc12 => ?_)
        · replace hc12 := (bnot_t hc12)
          refine Vl (Mv rfl) <| Vl (Mv rfl) <| Vl (IxT rwB_len TU43 TS27 rfl (by first | omega | (simp; done) | (simp; omega)) (gd (d := []) (j := q) (by rw [alL_len]; omega)) rfl) <| Vl (Lq TA27 rfl) <| Vl (Mv rfl) <| Vl (Mv rfl) <| Vl (IxT rwB_len TU43 TS27 rfl (by first | omega | (simp; done) | (simp; omega)) (gd (d := []) (j := q) (by rw [alL_len]; omega)) rfl) <| Vl (Lq TA27 rfl) <| Vl (Cf rfl rfl (k22 (by rw [alL_at _ hq, rdS_len]; decide) (by rw [alL_at _ hq, rdS_len]; decide)) rfl) <| Vl (Un rfl) <| Vl (Pk rfl) <| ?_
          refine VLog.nil ⟨by kernel_rfl, ?_⟩
          refine Tg <| Cd rfl (fun hc13 => ?_) (fun hc13 => ?_)
          · replace hc13 := (bnot_t hc13)
            exfalso; rw [alL_at _ hq, alL_at _ hq, keeps (hd.boot0 [] 0) he hw hq hc12] at hc13; simp [eqL] at hc13
          · replace hc13 := (bnot_f hc13)
            exact Ks <| Ig <| Tg <| Rg <| Vs (Mv rfl) <| Vs (Bo rfl adI) <| Vs (As rfl) <| VList.nil <| Go (q + 1) (by omega) (Wt [])
        · replace hc12 := (bnot_f hc12)
          refine Lk rfl <| Lk rfl <| Lk rfl <| Lk rfl <| Lk rfl <| Lk rfl <| Lk rfl <| Lk rfl <| Lk rfl <| Lk rfl <| Vl (Pk rfl) <| ?_
          refine VLog.nil ⟨by kernel_rfl, ?_⟩
          exact Tg <| Cz rfl <| Ks <| Ig <| Tg <| Rg <| Vs (Mv rfl) <| Vs (Bo rfl adI) <| Vs (As rfl) <| VList.nil <| Go (q + 1) (by omega) (Wt [])
      · replace hc11 := of_decide_eq_false hc11
        exact Ke <| Te <| Oe <| Ih <| Tg <| Sq <| Rg <| Vs (As rfl) <| Nx <| Re <| Fi (l := [boolB (true)]) (Rc (resVar_tmp rfl rfl) Rn) rfl
end Go.VL

set_option linter.unusedVariables false
set_option linter.unusedSimpArgs false
set_option maxRecDepth 100000
namespace Go.Proofs.Ytpoolpppmgacnaa
open Go.ChangeShapes Go.WideShapes Go.ChangeAt Go.RowKit Go.VL

theorem diskKeeps_lifted (os : Os) (started : os.Started) (H : Type) (enc : TypeId × Value → H) :
    ReturnsInHanded {} Try.checked os 4 .any (Rows.diskKeepsSpec.pre6 enc Try.prog Try.f4 Rows.diskKeepsRow.domain false) (Rows.diskKeepsSpec.post enc Try.prog Try.f4 false true false false) := by
  refine returnsInHanded_of_change (C := Try.checked) Try_own started (by kernel_rfl) Try.func4
    (ChangeSpec.witness6 (enc := enc) (C := Try.checked) false ⟨#[], #[.int .i64 0, .slice none 0 0, .slice none 0 0, .agg #[.int .i64 0, .int .i64 0, .int .u8 0, .int .i64 0, .int .i64 0, .slice none 0 0]], []⟩ 8 (by kernel_rfl) (by kernel_rfl) (by kernel_rfl) (by kernel_rfl)) ?_
  intro W base args ds gs before hval0 hW hcnd _
  have hval : ∀ (j : Nat) t v, Try.f4.params[j]? = some t → args[j]? = some v → Value.okWide Try.prog W .any base t v := hval0
  have hW' := hW
  obtain ⟨p, q, hA0, hV, rfl, hfz, hnd⟩ := hW
  have hA : DataW.TrodAll enc Try.prog W 0 (fun _ => true) true Try.f4.params.toList args.toList ds p := hA0
  have hA1 := hA
  rw [Try.params4] at hA hval
  obtain ⟨v0, v1, v2, v3, d0, d1, d2, d3, p0, p1, p2, p3, rfl, rfl, rfl, h0, h1, h2, h3⟩ := trodAll_four hA
  obtain ⟨rfl, rfl⟩ := trodVars_none hV
  obtain ⟨k0, r0, a0, b0⟩ := open_i64 (hval 0 3 v0 rfl rfl) h0
  obtain ⟨c1, r1, o1, l1⟩ := open_cas (hval 1 37 v1 rfl rfl) h1
  obtain ⟨c2, r2, o2, l2⟩ := open_cas (hval 2 37 v2 rfl rfl) h2
  obtain ⟨c3, r3, o3⟩ := open_ca (hval 3 31 v3 rfl rfl) h3
  simp only [List.append_nil] at hW'
  have hlt : ∀ x ∈ p0 ++ p1 ++ p2 ++ p3, x.block < W.heap.size := fun x hx => hW'.lt x hx
  have hread : ∀ t ∈ Try.f4.params.toList, Try.prog.readableRec t = true ∧ t < Try.prog.types.size := by rw [Try.params4]; exact types_cons T3 (types_cons T37 (types_cons T37 (types_cons T31 (types_nil))))
  refine ((g4 k0 a0 b0 c1 o1 l1 c2 o2 l2 c3 o3).runs (xs := [v0, v1, v2, v3]) rfl (reps_cons r0 (reps_cons r1 (reps_cons r2 (reps_cons r3 reps_nil))))).mono fun e W' ⟨he, hb⟩ => ?_
  subst he
  exact ⟨_, rfl, post_of_below (pa := _) (pv := []) hW' (fun _ _ _ => trodAll_mk1 shut_true) (fun sp hsp => args_stay Try_laidOut hb hread hA1 hlt hsp) (fun _ _ => rfl) (by simp) hb (ok_one (by kernel_rfl) rfl ok_true)⟩

theorem diskKeeps_facts : joinedFacts Try.pinned.checked.prog 4 Try.f4 Rows.diskKeepsSpec Rows.diskKeepsRow = true := by
  unfold joinedFacts
  rw [head_may, head_lifts, head_make]
  kernel_rfl

theorem diskKeeps_holds : Rows.DiskKeepsSaid :=
  OpenClaim.holds_of_wide 4 Try.f4 rfl rfl rfl rfl rfl rfl rfl ⟨rfl, rfl, rfl, rfl, rfl⟩ rfl rfl rfl rfl rfl (by kernel_rfl) Try.func4 diskKeeps_facts
    (of_decide_eq_true (by kernel_rfl)) (by unfold Func.isWrapper; rw [if_neg (of_decide_eq_false (by kernel_rfl))]; exact ⟨rfl, rfl⟩)
    (fun os started H enc _ => diskKeeps_lifted os started H enc)

end Go.Proofs.Ytpoolpppmgacnaa
