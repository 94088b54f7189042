/- DiskFuses returns true for every input and leaves the input as it was. No condition. -/
import Derived.Test.YtpoolpppmgacnaaK2
/- A plain model of a disk: with a fuse so many operations succeed. -/
set_option linter.unusedVariables false
set_option linter.unusedSimpArgs false
namespace Go.VL
def andB (x y : Int) : Int := IntKind.i64.wrap ((BitVec.ofInt 64 x &&& BitVec.ofInt 64 y).toNat : Int)
theorem bop_andI {x y : Int} : bop .and (.int .i64 x) (.int .i64 y) = some (.int .i64 (andB x y)) := rfl
theorem andB_le (x : Int) (k : Nat) (h : k < 2 ^ 63) : 0 ≤ andB x k ∧ andB x k ≤ k := by
  have h1 : (BitVec.ofInt 64 x &&& BitVec.ofInt 64 (k : Int)).toNat ≤ k := by
    rw [BitVec.toNat_and]
    have h2 : (BitVec.ofInt 64 (k : Int)).toNat = k := by
      rw [BitVec.ofInt_natCast, BitVec.toNat_ofNat]
      exact Nat.mod_eq_of_lt (by omega)
    rw [h2]
    exact Nat.and_le_right
  have hw := wrap_i64 (x := ((BitVec.ofInt 64 x &&& BitVec.ofInt 64 (k : Int)).toNat : Int)) (by omega)
  unfold andB
  rw [hw]
  omega
/-- How a fuse of q stands behind so many operations that succeeded. -/
def FuI (q : Int) (d : Dk) (done : Int) : Prop := 0 ≤ done ∧ done ≤ q ∧ ((d.off = false ∧ d.fuse = q - done) ∨ (d.off = true ∧ done = q))
section
variable {n m : Nat} {q done : Int} {d : Dk}
theorem fu_out (h : FuI q d done) (h0 : d.off = false) (h1 : d.out = true) : done = q ∧ d.burn.off = true ∧ FuI q d.burn done := by
  have h2 : d.fuse = 0 := by simpa [Dk.out] using h1
  obtain ⟨a, b, c⟩ := h
  have h3 : done = q := by
    rcases c with c | c
    · omega
    · exact c.2
  have h4 : d.burn = { d with fuse := -1, off := true } := by rw [Dk.burn, if_pos h2]
  rw [h4]
  exact ⟨h3, rfl, a, b, .inr ⟨rfl, h3⟩⟩
theorem fu_in (h : FuI q d done) (h0 : d.off = false) (h1 : d.out = false) : done ≠ q ∧ d.burn.off = false ∧ FuI q d.burn (done + 1) := by
  have h2 : d.fuse ≠ 0 := by simpa [Dk.out] using h1
  obtain ⟨a, b, c⟩ := h
  have h3 : d.fuse = q - done := by
    rcases c with c | c
    · exact c.2
    · rw [h0] at c; exact absurd c.1 (by decide)
  have h4 : d.burn = { d with fuse := d.fuse - 1 } := by rw [Dk.burn, if_neg h2, if_pos (by omega)]
  rw [h4]
  exact ⟨by omega, h0, by omega, by omega, .inl ⟨h0, by simp only; omega⟩⟩
theorem fuse_step {a : Ca} (h : FuI q d done) (h0 : ¬ a.kind < 0) (h2 : ¬ a.kind > 2) :
    ((d.doR n a).2.2 = 0 ∧ d.off = false ∧ done ≠ q ∧ (d.doR n a).1.off = false ∧ FuI q (d.doR n a).1 (done + 1)) ∨ ((d.doR n a).2.2 = 1 ∧ d.off = false ∧ (d.doR n a).1.off = false ∧ FuI q (d.doR n a).1 done) ∨
      ((d.doR n a).2.2 = 290 ∧ (d.off = false → done = q) ∧ (d.doR n a).1.off = true ∧ FuI q (d.doR n a).1 done) := by
  unfold Dk.doR
  by_cases k0 : a.kind = 0
  · rw [if_pos k0]
    unfold Dk.readR
    cases ho : d.off with
    | true => rw [if_pos rfl]; exact .inr (.inr ⟨rfl, (fun hc => by cases hc), ho, h⟩)
    | false =>
      rw [if_neg (by decide)]
      cases hh : hasS n a.sector with
      | false => rw [if_pos rfl]; exact .inr (.inl ⟨rfl, rfl, ho, h⟩)
      | true =>
        rw [if_neg (by decide)]
        cases hu : d.out with
        | true => obtain ⟨e1, e2, e3⟩ := fu_out h ho hu; rw [if_pos rfl]; exact .inr (.inr ⟨rfl, fun _ => e1, e2, e3⟩)
        | false => obtain ⟨e1, e2, e3⟩ := fu_in h ho hu; rw [if_neg (by decide)]; exact .inl ⟨rfl, rfl, e1, e2, e3⟩
  rw [if_neg k0]
  by_cases k1 : a.kind = 1
  · rw [if_pos k1]
    unfold Dk.writeR
    cases ho : d.off with
    | true => rw [if_pos rfl]; exact .inr (.inr ⟨rfl, (fun hc => by cases hc), ho, h⟩)
    | false =>
      rw [if_neg (by decide)]
      by_cases hh : hasS n a.sector = false ∨ (bytM a).length ≠ 64
      · rw [if_pos hh]; exact .inr (.inl ⟨rfl, rfl, ho, h⟩)
      · rw [if_neg hh]
        cases hu : d.out with
        | true => obtain ⟨e1, e2, e3⟩ := fu_out h ho hu; exact .inr (.inr ⟨rfl, fun _ => e1, e2, e3⟩)
        | false => obtain ⟨e1, e2, e3⟩ := fu_in h ho hu; exact .inl ⟨rfl, rfl, e1, e2, e3⟩
  rw [if_neg k1, if_pos (show a.kind = 2 by omega)]
  unfold Dk.syncR
  cases ho : d.off with
  | true => rw [if_pos rfl]; exact .inr (.inr ⟨rfl, (fun hc => by cases hc), ho, h⟩)
  | false =>
    rw [if_neg (by decide)]
    cases hu : d.out with
    | true => obtain ⟨e1, e2, e3⟩ := fu_out h ho hu; rw [if_pos rfl]; exact .inr (.inr ⟨rfl, fun _ => e1, e2, e3⟩)
    | false => obtain ⟨e1, e2, e3⟩ := fu_in h ho hu; rw [if_neg (by decide)]; exact .inl ⟨rfl, rfl, e1, e2, e3⟩
theorem fu_start (h0 : 0 ≤ q) (h1 : q ≤ 15) : FuI q ((newD 4).fuseR q) 0 := ⟨by omega, h0, .inl ⟨rfl, by simp only [Dk.fuseR, newD]; rw [if_neg (by omega)]; omega⟩⟩
theorem fu_ok (h1 : q ≤ 15) : ((newD 4).fuseR q).Ok 256 0 := (newD_ok (z := 4) (by decide) (by decide)).fuse (by omega)
theorem new4_ok : (newD 4).Ok 256 0 := newD_ok (z := 4) (by decide) (by decide)
end
end Go.VL

/- Walks over the Go functions, printed by a program of this session over the kit's print, and by hand. -/
set_option linter.unusedVariables false
set_option linter.unusedSimpArgs false
set_option maxRecDepth 100000
namespace Go.VL
open Go.Proofs
theorem g9 (k0 : Int) (a0 : -9223372036854775808 ≤ k0) (b0 : k0 ≤ 9223372036854775807) (A : List Ca) (oA : ∀ a ∈ A, a.Ok) (lA : A.length ≤ 9223372036854775807) : VF Try.prog 9 [numB .i64 (k0), slT 6 caB (A)] (boolB true) := by
  have hq : 0 ≤ andB k0 15 ∧ andB k0 15 ≤ 15 := andB_le k0 15 (by decide)
  clear a0
  refine VF_of P_mixed Try.func9 rfl rfl (by kernel_rfl) <| Sq <| Rg <| Vs (As rfl) <| Nx <| Sq <| Rg <| Vs (Mv rfl) <| Vs (Bo (c := .int .i64 ((andB k0 15))) rfl (bop_andI)) <| Vs (As rfl) <| Nx <| Sq <| Rg <| Gm 4 [] [] (v := .tup [.ptr 4 (0), vI .i64 (0)]) [(4, ⟨4, [.own 5 (256), .b (slT 2 penB ((newD 4).pen)), vI .i64 ((newD 4).fuse), vB ((newD 4).off)], true⟩), (5, rowK .u8 ((newD 4).dur))] rfl (k17 4 (by decide) (by decide)) rfl <| Vs (Mv rfl) <| Vs (Xv rfl) <| Vs (Xv rfl) <| Vs (As rfl) <| Vs (As rfl) <| Nx <| Sq <| Sq <| Rg <| Vs (Cf rfl rfl (g18) rfl) <| Vs (Un rfl) <| Vs (Mv rfl) <| Vs (Mv rfl) <| Vs (Bi (c := .bool false) rfl) <| Vs (Pk rfl) <| Vs (Mv rfl) <| Vs (Mv rfl) <| Vs (Pe TU22 rfl) <| Vs (Pk rfl) <| Nx <| Cz rfl <| Ks <| Tg <| Sq <| Rg <| Vs (Mv rfl) <| Vs (Mv rfl) <| Gm 24 [4, 5] [] (v := .b (.tup [])) [(4, ⟨4, [.own 5 (256), .b (slT 2 penB (((newD 4).fuseR ((andB k0 15))).pen)), vI .i64 (((newD 4).fuseR ((andB k0 15))).fuse), vB (((newD 4).fuseR ((andB k0 15))).off)], true⟩), (5, rowK .u8 (((newD 4).fuseR ((andB k0 15))).dur))] rfl (k37 new4_ok (by decide) ((andB k0 15))) rfl <| Nx <| Sq <| Rg <| Vs (As rfl) <| Nx <| Sq <| Sq <| Rg <| Vs (As rfl) <| Nx <| Bk <| VCode.loop (α := (Nat) × (Dk) × (Int)) (fun x_ => match x_ with | (i, d, done) => (6, sl [(0, vI .i64 ((andB k0 15))), (1, .b (slT 6 caB (A))), (5, .ptr 4 (0)), (7, vI .i64 (done)), (8, vI .i64 ((i : Int)))], en [(4, ⟨4, [.own 5 (256), .b (slT 2 penB (d.pen)), vI .i64 (d.fuse), vB (d.off)], true⟩), (5, rowK .u8 (d.dur))])) (fun x_ => match x_ with | (i, d, done) => i ≤ 40 ∧ d.Ok 256 i ∧ FuI (andB k0 15) d done) (fun x_ => match x_ with | (i, d, done) => 40 - i) (0, (newD 4).fuseR (andB k0 15), 0) ⟨by omega, fu_ok hq.2, fu_start hq.1 hq.2⟩ Wk ?_
  rintro ⟨i, d, done⟩ hok
  obtain ⟨hi, hd, hf⟩ := hok
  have hd1 : 0 ≤ done ∧ done ≤ 15 := ⟨hf.1, by have := hf.2.1; omega⟩
  change VCode _ _ _ 6 (sl _) (en _) _
  refine Sq <| Sq <| Rg <| Vs (Mv rfl) <| Vs (Mv rfl) <| Vs (Lst caB_len TU37 rfl) <| Vs (Bi rfl) <| Vs (Mv rfl) <| Sp 35 rfl (fun hc1 => ?_) (fun hc1 => ?_)
  · replace hc1 := of_decide_eq_true hc1
    refine Vs (Mv rfl) <| Vs (Bi rfl) <| Vs (Pk rfl) <| Nx <| Cd rfl (fun hc2 => ?_) (fun hc2 => ?_)
    · replace hc2 := of_decide_eq_true hc2
      refine Ks <| Tg <| Sq <| Bk <| Sq <| Rg <| Vs (Mv rfl) <| Vs (Mv rfl) <| Vs (IxT caB_len TU37 TS31 rfl (by first | omega | (simp; done) | (simp; omega)) (gd (d := a0) (j := i) (by first | omega | (simp; done) | (simp; omega))) rfl) <| Vs (LqS TA31 TS31 rfl) <| Vs (Al 18 TZ31 rfl) <| Vs (StS TS31 rfl) <| Nx <| Sq <| Sq <| Rg <| Vs (Fa TF31_0 rfl) <| Vs (Ld TA3 rfl) <| Vs (Bi rfl) <| Vs (Mv rfl) <| Sp 48 rfl (fun hc3 => ?_) (fun hc3 => ?_)
      · replace hc3 := of_decide_eq_true hc3
        exact Sk rfl <| Sk rfl <| Sk rfl <| Vs (Pk rfl) <| Nx <| Cy rfl <| Ke <| Te <| Ih <| Tg <| Rg <| Vs (Mv rfl) <| Vs (Bo rfl adI) <| Vs (As rfl) <| VList.nil <| Go (i + 1, d, done) (by first | exact ⟨by omega, hd.mono (Nat.le_succ _), hf⟩ | (refine ⟨by omega, hd.does ha, ?_⟩; rcases key with ⟨k1, k2, k3, k4, k5⟩ | ⟨k1, k2, k3, k4⟩ | ⟨k1, k2, k3, k4⟩ <;> first | assumption | (exfalso; omega))) Wk
      · replace hc3 := of_decide_eq_false hc3
        refine Vs (Fa TF31_0 rfl) <| Vs (Ld TA3 rfl) <| Vs (Bi rfl) <| Vs (Pk rfl) <| Nx <| Cd rfl (fun hc4 => ?_) (fun hc4 => ?_)
        · replace hc4 := of_decide_eq_true hc4
          exact Ke <| Te <| Ih <| Tg <| Rg <| Vs (Mv rfl) <| Vs (Bo rfl adI) <| Vs (As rfl) <| VList.nil <| Go (i + 1, d, done) (by first | exact ⟨by omega, hd.mono (Nat.le_succ _), hf⟩ | (refine ⟨by omega, hd.does ha, ?_⟩; rcases key with ⟨k1, k2, k3, k4, k5⟩ | ⟨k1, k2, k3, k4⟩ | ⟨k1, k2, k3, k4⟩ <;> first | assumption | (exfalso; omega))) Wk
        · replace hc4 := of_decide_eq_false hc4
          have ha := oA _ (getD_mem' (x := a0) (show i < A.length by omega))
          have key := fuse_step (n := 256) (a := A.getD i a0) hf hc3 hc4
          refine Ks <| Tg <| Sq <| Rg <| Vs (Mv rfl) <| Gm 29 [4, 5] [] (v := vB ((!d.off))) [(4, ⟨4, [.own 5 (256), .b (slT 2 penB (d.pen)), vI .i64 (d.fuse), vB (d.off)], true⟩), (5, rowK .u8 (d.dur)), (18, ⟨6, [vI .i64 (((A).getD (i) a0).kind), vI .i64 (((A).getD (i) a0).sector), vI .u8 (((A).getD (i) a0).fill), vI .i64 (((A).getD (i) a0).size), vI .i64 (((A).getD (i) a0).n), .b (slK .i64 (((A).getD (i) a0).keep))], true⟩)] rfl (k31 hd (by omega)) rfl <| Vs (As rfl) <| Nx <| Sq <| Rg <| Vs (Mv rfl) <| Vs (LdS TA31 TS31 rfl) <| Gm 33 [4, 5] [] (v := .b (.agg [slK .u8 ((d.doR 256 ((A).getD (i) a0)).2.1), numB .i64 ((d.doR 256 ((A).getD (i) a0)).2.2)])) [(4, ⟨4, [.own 5 (256), .b (slT 2 penB (((d.doR 256 ((A).getD (i) a0)).1).pen)), vI .i64 (((d.doR 256 ((A).getD (i) a0)).1).fuse), vB (((d.doR 256 ((A).getD (i) a0)).1).off)], true⟩), (5, rowK .u8 (((d.doR 256 ((A).getD (i) a0)).1).dur)), (18, ⟨6, [vI .i64 (((A).getD (i) a0).kind), vI .i64 (((A).getD (i) a0).sector), vI .u8 (((A).getD (i) a0).fill), vI .i64 (((A).getD (i) a0).size), vI .i64 (((A).getD (i) a0).n), .b (slK .i64 (((A).getD (i) a0).keep))], true⟩)] rfl (k23 hd (by omega) ha) rfl <| Vs (Al 34 TZ39 rfl) <| Vs (StS TS39 rfl) <| Nx <| Sq <| Rg <| Vs (Fa TF39_1 rfl) <| Vs (Ld TA23 rfl) <| Nx <| Bk <| Sq <| Rg <| Vs (Bi rfl) <| Vs (As rfl) <| Nx <| Cd rfl (fun hc5 => ?_) (fun hc5 => ?_)
          · replace hc5 := eq_of_beq hc5
            refine Sq <| Sq <| Rg <| Vs (Mv rfl) <| Vs (Un rfl) <| Vs (Mv rfl) <| Sp 64 rfl (fun hc6 => ?_) (fun hc6 => ?_)
            · replace hc6 := (bnot_f (bnot_t hc6))
              exfalso; rcases key with ⟨k1, k2, k3, k4, k5⟩ | ⟨k1, k2, k3, k4⟩ | ⟨k1, k2, k3, k4⟩ <;> first | omega | (simp_all; done) | (simp_all; omega)
            · replace hc6 := (bnot_t (bnot_f hc6))
              refine Vs (Mv rfl) <| Vs (Mv rfl) <| Vs (Bi rfl) <| Vs (Pk rfl) <| Vs (Mv rfl) <| Sp 69 rfl (fun hc7 => ?_) (fun hc7 => ?_)
              · replace hc7 := eq_of_beq hc7
                exfalso; rcases key with ⟨k1, k2, k3, k4, k5⟩ | ⟨k1, k2, k3, k4⟩ | ⟨k1, k2, k3, k4⟩ <;> first | omega | (simp_all; done) | (simp_all; omega)
              · replace hc7 := ne_of_beq_false hc7
                refine Vs (Mv rfl) <| Gm 49 [4, 5] [] (v := vB ((!((d.doR 256 ((A).getD (i) a0)).1).off))) [(4, ⟨4, [.own 5 (256), .b (slT 2 penB (((d.doR 256 ((A).getD (i) a0)).1).pen)), vI .i64 (((d.doR 256 ((A).getD (i) a0)).1).fuse), vB (((d.doR 256 ((A).getD (i) a0)).1).off)], true⟩), (5, rowK .u8 (((d.doR 256 ((A).getD (i) a0)).1).dur)), (18, ⟨6, [vI .i64 (((A).getD (i) a0).kind), vI .i64 (((A).getD (i) a0).sector), vI .u8 (((A).getD (i) a0).fill), vI .i64 (((A).getD (i) a0).size), vI .i64 (((A).getD (i) a0).n), .b (slK .i64 (((A).getD (i) a0).keep))], true⟩), (34, ⟨2, [.b (slK .u8 ((d.doR 256 ((A).getD (i) a0)).2.1)), vI .i64 ((d.doR 256 ((A).getD (i) a0)).2.2)], true⟩)] rfl (k31 (hd.does ha) (by omega)) rfl <| Vs (Un rfl) <| Vs (Pk rfl) <| Nx <| Cd rfl (fun hc8 => ?_) (fun hc8 => ?_)
                · replace hc8 := (bnot_f (bnot_t hc8))
                  exfalso; rcases key with ⟨k1, k2, k3, k4, k5⟩ | ⟨k1, k2, k3, k4⟩ | ⟨k1, k2, k3, k4⟩ <;> first | omega | (simp_all; done) | (simp_all; omega)
                · replace hc8 := (bnot_t (bnot_f hc8))
                  exact Ks <| Tg <| Rg <| Vs (Mv rfl) <| Vs (Bo rfl adI) <| Vs (As rfl) <| VList.nil <| Ig <| Ig <| Tg <| Rg <| Vs (Mv rfl) <| Vs (Bo rfl adI) <| Vs (As rfl) <| VList.nil <| Go (i + 1, (d.doR 256 ((A).getD (i) a0)).1, (done + 1)) (by first | exact ⟨by omega, hd.mono (Nat.le_succ _), hf⟩ | (refine ⟨by omega, hd.does ha, ?_⟩; rcases key with ⟨k1, k2, k3, k4, k5⟩ | ⟨k1, k2, k3, k4⟩ | ⟨k1, k2, k3, k4⟩ <;> first | assumption | (exfalso; omega))) Wk
          · replace hc5 := ne_of_beq_false hc5
            refine Sq <| Rg <| Vs (Bi rfl) <| Vs (As rfl) <| Nx <| Cd rfl (fun hc9 => ?_) (fun hc9 => ?_)
            · replace hc9 := eq_of_beq hc9
              refine Sq <| Rg <| Vs (Mv rfl) <| Vs (Un rfl) <| Vs (Mv rfl) <| Sp 80 rfl (fun hc10 => ?_) (fun hc10 => ?_)
              · replace hc10 := (bnot_f (bnot_t hc10))
                exfalso; rcases key with ⟨k1, k2, k3, k4, k5⟩ | ⟨k1, k2, k3, k4⟩ | ⟨k1, k2, k3, k4⟩ <;> first | omega | (simp_all; done) | (simp_all; omega)
              · replace hc10 := (bnot_t (bnot_f hc10))
                refine Vs (Mv rfl) <| Gm 46 [4, 5] [] (v := vB ((!((d.doR 256 ((A).getD (i) a0)).1).off))) [(4, ⟨4, [.own 5 (256), .b (slT 2 penB (((d.doR 256 ((A).getD (i) a0)).1).pen)), vI .i64 (((d.doR 256 ((A).getD (i) a0)).1).fuse), vB (((d.doR 256 ((A).getD (i) a0)).1).off)], true⟩), (5, rowK .u8 (((d.doR 256 ((A).getD (i) a0)).1).dur)), (18, ⟨6, [vI .i64 (((A).getD (i) a0).kind), vI .i64 (((A).getD (i) a0).sector), vI .u8 (((A).getD (i) a0).fill), vI .i64 (((A).getD (i) a0).size), vI .i64 (((A).getD (i) a0).n), .b (slK .i64 (((A).getD (i) a0).keep))], true⟩), (34, ⟨2, [.b (slK .u8 ((d.doR 256 ((A).getD (i) a0)).2.1)), vI .i64 ((d.doR 256 ((A).getD (i) a0)).2.2)], true⟩)] rfl (k31 (hd.does ha) (by omega)) rfl <| Vs (Un rfl) <| Vs (Pk rfl) <| Nx <| Cd rfl (fun hc11 => ?_) (fun hc11 => ?_)
                · replace hc11 := (bnot_f (bnot_t hc11))
                  exfalso; rcases key with ⟨k1, k2, k3, k4, k5⟩ | ⟨k1, k2, k3, k4⟩ | ⟨k1, k2, k3, k4⟩ <;> first | omega | (simp_all; done) | (simp_all; omega)
                · replace hc11 := (bnot_t (bnot_f hc11))
                  exact Ks <| Ig <| Ig <| Tg <| Rg <| Vs (Mv rfl) <| Vs (Bo rfl adI) <| Vs (As rfl) <| VList.nil <| Go (i + 1, (d.doR 256 ((A).getD (i) a0)).1, done) (by first | exact ⟨by omega, hd.mono (Nat.le_succ _), hf⟩ | (refine ⟨by omega, hd.does ha, ?_⟩; rcases key with ⟨k1, k2, k3, k4, k5⟩ | ⟨k1, k2, k3, k4⟩ | ⟨k1, k2, k3, k4⟩ <;> first | assumption | (exfalso; omega))) Wk
            · replace hc9 := ne_of_beq_false hc9
              refine Sq <| Rg <| Vs (Bi rfl) <| Vs (As rfl) <| Nx <| Cd rfl (fun hc12 => ?_) (fun hc12 => ?_)
              · replace hc12 := eq_of_beq hc12
                refine Sq <| Rg <| Vs (Mv rfl) <| Vs (Mv rfl) <| Sp 88 rfl (fun hc13 => ?_) (fun hc13 => ?_)
                · replace hc13 := (bnot_t hc13)
                  refine Vs (Mv rfl) <| Vs (Mv rfl) <| Vs (Bi rfl) <| Vs (Pk rfl) <| Vs (Mv rfl) <| Sp 93 rfl (fun hc14 => ?_) (fun hc14 => ?_)
                  · replace hc14 := bne_iff_ne.1 hc14
                    exfalso; rcases key with ⟨k1, k2, k3, k4, k5⟩ | ⟨k1, k2, k3, k4⟩ | ⟨k1, k2, k3, k4⟩ <;> first | omega | (simp_all; done) | (simp_all; omega)
                  · replace hc14 := bne_eq_false_iff_eq.1 hc14
                    refine Vs (Mv rfl) <| Gm 52 [4, 5] [] (v := vB ((!((d.doR 256 ((A).getD (i) a0)).1).off))) [(4, ⟨4, [.own 5 (256), .b (slT 2 penB (((d.doR 256 ((A).getD (i) a0)).1).pen)), vI .i64 (((d.doR 256 ((A).getD (i) a0)).1).fuse), vB (((d.doR 256 ((A).getD (i) a0)).1).off)], true⟩), (5, rowK .u8 (((d.doR 256 ((A).getD (i) a0)).1).dur)), (18, ⟨6, [vI .i64 (((A).getD (i) a0).kind), vI .i64 (((A).getD (i) a0).sector), vI .u8 (((A).getD (i) a0).fill), vI .i64 (((A).getD (i) a0).size), vI .i64 (((A).getD (i) a0).n), .b (slK .i64 (((A).getD (i) a0).keep))], true⟩), (34, ⟨2, [.b (slK .u8 ((d.doR 256 ((A).getD (i) a0)).2.1)), vI .i64 ((d.doR 256 ((A).getD (i) a0)).2.2)], true⟩)] rfl (k31 (hd.does ha) (by omega)) rfl <| Vs (Pk rfl) <| Nx <| Cd rfl (fun hc15 => ?_) (fun hc15 => ?_)
                    · replace hc15 := (bnot_t hc15)
                      exfalso; rcases key with ⟨k1, k2, k3, k4, k5⟩ | ⟨k1, k2, k3, k4⟩ | ⟨k1, k2, k3, k4⟩ <;> first | omega | (simp_all; done) | (simp_all; omega)
                    · replace hc15 := (bnot_f hc15)
                      exact Ks <| Ig <| Ig <| Tg <| Rg <| Vs (Mv rfl) <| Vs (Bo rfl adI) <| Vs (As rfl) <| VList.nil <| Go (i + 1, (d.doR 256 ((A).getD (i) a0)).1, done) (by first | exact ⟨by omega, hd.mono (Nat.le_succ _), hf⟩ | (refine ⟨by omega, hd.does ha, ?_⟩; rcases key with ⟨k1, k2, k3, k4, k5⟩ | ⟨k1, k2, k3, k4⟩ | ⟨k1, k2, k3, k4⟩ <;> first | assumption | (exfalso; omega))) Wk
                · replace hc13 := (bnot_f hc13)
                  refine Sk rfl <| Sk rfl <| Sk rfl <| Vs (Pk rfl) <| Vs (Mv rfl) <| Vs (Mv rfl) <| Gm 52 [4, 5] [] (v := vB ((!((d.doR 256 ((A).getD (i) a0)).1).off))) [(4, ⟨4, [.own 5 (256), .b (slT 2 penB (((d.doR 256 ((A).getD (i) a0)).1).pen)), vI .i64 (((d.doR 256 ((A).getD (i) a0)).1).fuse), vB (((d.doR 256 ((A).getD (i) a0)).1).off)], true⟩), (5, rowK .u8 (((d.doR 256 ((A).getD (i) a0)).1).dur)), (18, ⟨6, [vI .i64 (((A).getD (i) a0).kind), vI .i64 (((A).getD (i) a0).sector), vI .u8 (((A).getD (i) a0).fill), vI .i64 (((A).getD (i) a0).size), vI .i64 (((A).getD (i) a0).n), .b (slK .i64 (((A).getD (i) a0).keep))], true⟩), (34, ⟨2, [.b (slK .u8 ((d.doR 256 ((A).getD (i) a0)).2.1)), vI .i64 ((d.doR 256 ((A).getD (i) a0)).2.2)], true⟩)] rfl (k31 (hd.does ha) (by omega)) rfl <| Vs (Pk rfl) <| Nx <| Cd rfl (fun hc16 => ?_) (fun hc16 => ?_)
                  · replace hc16 := (bnot_t hc16)
                    exfalso; rcases key with ⟨k1, k2, k3, k4, k5⟩ | ⟨k1, k2, k3, k4⟩ | ⟨k1, k2, k3, k4⟩ <;> first | omega | (simp_all; done) | (simp_all; omega)
                  · replace hc16 := (bnot_f hc16)
                    exact Ks <| Ig <| Ig <| Tg <| Rg <| Vs (Mv rfl) <| Vs (Bo rfl adI) <| Vs (As rfl) <| VList.nil <| Go (i + 1, (d.doR 256 ((A).getD (i) a0)).1, done) (by first | exact ⟨by omega, hd.mono (Nat.le_succ _), hf⟩ | (refine ⟨by omega, hd.does ha, ?_⟩; rcases key with ⟨k1, k2, k3, k4, k5⟩ | ⟨k1, k2, k3, k4⟩ | ⟨k1, k2, k3, k4⟩ <;> first | assumption | (exfalso; omega))) Wk
              · replace hc12 := ne_of_beq_false hc12
                exfalso; rcases key with ⟨k1, k2, k3, k4, k5⟩ | ⟨k1, k2, k3, k4⟩ | ⟨k1, k2, k3, k4⟩ <;> first | omega | (simp_all; done) | (simp_all; omega)
    · replace hc2 := of_decide_eq_false hc2
      exact Ke <| Te <| Oe <| Ih <| Tg <| Sq <| Rg <| Vs (Mv rfl) <| Gm 15 [4, 5] [] (v := .b (.tup [])) [(4, ⟨4, [.own 5 (256), .b (slT 2 penB ((d.bootR ([]) 0).pen)), vI .i64 ((d.bootR ([]) 0).fuse), vB ((d.bootR ([]) 0).off)], true⟩), (5, rowK .u8 ((d.bootR ([]) 0).dur))] rfl (k24 hd (by omega) (keep := []) (by simp) 0) rfl <| Nx <| Sq <| Rg <| Vs (Mv rfl) <| Gm 17 [4, 5] [] (v := vB ((!(d.bootR ([]) 0).off))) [(4, ⟨4, [.own 5 (256), .b (slT 2 penB ((d.bootR ([]) 0).pen)), vI .i64 ((d.bootR ([]) 0).fuse), vB ((d.bootR ([]) 0).off)], true⟩), (5, rowK .u8 ((d.bootR ([]) 0).dur))] rfl (k31 (hd.boot [] 0) (by omega)) rfl <| Vs (As rfl) <| Nx <| Re <| Fi (l := [boolB ((!(d.bootR ([]) 0).off))]) (Rc (resVar_tmp rfl rfl) Rn) rfl
  · replace hc1 := of_decide_eq_false hc1
    exact Sk rfl <| Sk rfl <| Vs (Pk rfl) <| Nx <| Cz rfl <| Ke <| Te <| Oe <| Ih <| Tg <| Sq <| Rg <| Vs (Mv rfl) <| Gm 15 [4, 5] [] (v := .b (.tup [])) [(4, ⟨4, [.own 5 (256), .b (slT 2 penB ((d.bootR ([]) 0).pen)), vI .i64 ((d.bootR ([]) 0).fuse), vB ((d.bootR ([]) 0).off)], true⟩), (5, rowK .u8 ((d.bootR ([]) 0).dur))] rfl (k24 hd (by omega) (keep := []) (by simp) 0) rfl <| Nx <| Sq <| Rg <| Vs (Mv rfl) <| Gm 17 [4, 5] [] (v := vB ((!(d.bootR ([]) 0).off))) [(4, ⟨4, [.own 5 (256), .b (slT 2 penB ((d.bootR ([]) 0).pen)), vI .i64 ((d.bootR ([]) 0).fuse), vB ((d.bootR ([]) 0).off)], true⟩), (5, rowK .u8 ((d.bootR ([]) 0).dur))] rfl (k31 (hd.boot [] 0) (by omega)) rfl <| Vs (As rfl) <| Nx <| Re <| Fi (l := [boolB ((!(d.bootR ([]) 0).off))]) (Rc (resVar_tmp rfl rfl) Rn) rfl
end Go.VL

set_option linter.unusedVariables false
set_option linter.unusedSimpArgs false
set_option maxRecDepth 100000
namespace Go.Proofs.Ytpoolpppmgacnaa
open Go.ChangeShapes Go.WideShapes Go.ChangeAt Go.RowKit Go.VL

theorem diskFuses_lifted (os : Os) (started : os.Started) (H : Type) (enc : TypeId × Value → H) :
    ReturnsInHanded {} Try.checked os 9 .any (Rows.diskFusesSpec.pre6 enc Try.prog Try.f9 Rows.diskFusesRow.domain false) (Rows.diskFusesSpec.post enc Try.prog Try.f9 false true false false) := by
  refine returnsInHanded_of_change (C := Try.checked) Try_own started (by kernel_rfl) Try.func9
    (ChangeSpec.witness6 (enc := enc) (C := Try.checked) false ⟨#[], #[.int .i64 0, .slice none 0 0], []⟩ 8 (by kernel_rfl) (by kernel_rfl) (by kernel_rfl) (by kernel_rfl)) ?_
  intro W base args ds gs before hval0 hW hcnd _
  have hval : ∀ (j : Nat) t v, Try.f9.params[j]? = some t → args[j]? = some v → Value.okWide Try.prog W .any base t v := hval0
  have hW' := hW
  obtain ⟨p, q, hA0, hV, rfl, hfz, hnd⟩ := hW
  have hA : DataW.TrodAll enc Try.prog W 0 (fun _ => true) true Try.f9.params.toList args.toList ds p := hA0
  have hA1 := hA
  rw [Try.params9] at hA hval
  obtain ⟨v0, v1, d0, d1, p0, p1, rfl, rfl, rfl, h0, h1⟩ := trodAll_two hA
  obtain ⟨rfl, rfl⟩ := trodVars_none hV
  obtain ⟨k0, r0, a0, b0⟩ := open_i64 (hval 0 3 v0 rfl rfl) h0
  obtain ⟨c1, r1, o1, l1⟩ := open_cas (hval 1 37 v1 rfl rfl) h1
  simp only [List.append_nil] at hW'
  have hlt : ∀ x ∈ p0 ++ p1, x.block < W.heap.size := fun x hx => hW'.lt x hx
  have hread : ∀ t ∈ Try.f9.params.toList, Try.prog.readableRec t = true ∧ t < Try.prog.types.size := by rw [Try.params9]; exact types_cons T3 (types_cons T37 (types_nil))
  refine ((g9 k0 a0 b0 c1 o1 l1).runs (xs := [v0, v1]) rfl (reps_cons r0 (reps_cons r1 reps_nil))).mono fun e W' ⟨he, hb⟩ => ?_
  subst he
  exact ⟨_, rfl, post_of_below (pa := _) (pv := []) hW' (fun _ _ _ => trodAll_mk1 shut_true) (fun sp hsp => args_stay Try_laidOut hb hread hA1 hlt hsp) (fun _ _ => rfl) (by simp) hb (ok_one (by kernel_rfl) rfl ok_true)⟩

theorem diskFuses_facts : joinedFacts Try.pinned.checked.prog 9 Try.f9 Rows.diskFusesSpec Rows.diskFusesRow = true := by
  unfold joinedFacts
  rw [head_may, head_lifts, head_make]
  kernel_rfl

theorem diskFuses_holds : Rows.DiskFusesSaid :=
  OpenClaim.holds_of_wide 9 Try.f9 rfl rfl rfl rfl rfl rfl rfl ⟨rfl, rfl, rfl, rfl, rfl⟩ rfl rfl rfl rfl rfl (by kernel_rfl) Try.func9 diskFuses_facts
    (of_decide_eq_true (by kernel_rfl)) (by unfold Func.isWrapper; rw [if_neg (of_decide_eq_false (by kernel_rfl))]; exact ⟨rfl, rfl⟩)
    (fun os started H enc _ => diskFuses_lifted os started H enc)

end Go.Proofs.Ytpoolpppmgacnaa
