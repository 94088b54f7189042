/- A small program logic over the translated Go code, plain laws, and walks over the functions: several texts in one. No condition. -/
import Derived.Lib.AppendStr
import Derived.Lib.Builder
import Derived.Lib.UnsafeStr
import Derived.Test.YtlhdjfjebhffjaaK2
/- Walks over the Go functions, printed by a program of this session over the kit's print, and by hand. -/
set_option linter.unusedVariables false
set_option linter.unusedSimpArgs false
namespace Go.VL
open Go.Proofs
theorem f68 (L : List Int) (n : Int) (hL : L.length ≤ 900000000) (nL : norm L) (h0 : 0 ≤ n) (h1 : n ≤ 1000000000) : VF Try.prog 116 [u32S (L), numB .i64 (n)] (.tup [u32S (dg (val L / 2 ^ n.toNat)), boolB (decide (val L % 2 ^ n.toNat ≠ 0))]) := by
  refine VF_of P_mixed Try.func116 rfl rfl (by kernel_rfl) <| Sq <| Rg <| Vs (As rfl) <| Vs (As rfl) <| Nx <| Sq <| Rg <| Vs (Mv rfl) <| Vs (Bo rfl quI) <| Vs (As rfl) <| Nx <| Sq <| Sq <| ?_
  have oL := nL.1
  have hr : (n % 32).toNat < 32 := (by omega)
  have hm : n.toNat = 32 * (n / 32).toNat + (n % 32).toNat := (by omega)
  refine Rg <| Vs (Mv rfl) <| Vs (Mv rfl) <| Vs (Ls TK52 rfl) <| Vs (Bi rfl) <| Nx <| Cd rfl (fun hc1 => ?_) (fun hc1 => ?_)
  · replace hc1 := of_decide_eq_true hc1
    exact Sq <| Rg <| Vs (Mv rfl) <| Vs (Ls TK52 rfl) <| Vs (Bi rfl) <| Vs (As rfl) <| Vs (As rfl) <| Nx <| Re <| Tr <| Fi (l := [u32S ([]), boolB (decide (((L).length : Int) > 0))]) (Rc (resVar_tmp rfl rfl) (Rc (resVar_tmp rfl rfl) Rn)) (by obtain ⟨w1, w2⟩ := right_out nL hm (by omega); rw [w1, w2]; rfl)
  · replace hc1 := of_decide_eq_false hc1
    refine Ks <| Tg <| VCode.join (α := (Bool)) (fun b => (0, sl [(0, vS (L)), (1, vI .i64 (n)), (6, vI .i64 ((n / 32))), (7, vB (b))], en [])) (fun b => b = decide (val L % 2 ^ n.toNat ≠ 0)) ?_ ?_
    · skip
      have hq : (n / 32).toNat < L.length := (by omega)
      have h2 := two_pow_pos (n % 32).toNat
      have h3 := two_pow_lt hr
      have hx := ok32_getD oL (n / 32).toNat
      refine Rd (by kernel_rfl) <| Vl (Mv rfl) <| Vl (Mv rfl) <| Vl (Ct TK52 rfl) <| Vl (C0 rfl rfl (f64 _ (by first | omega | assumption | (simp; done) | (simp; omega)) (ok32_take oL _))) <| Vl (Ls TK52 rfl) <| Vl (Bi rfl) <| Vl (Mv rfl) <| Sl 26 rfl (fun hc2 => ?_) (fun hc2 => ?_)
      · replace hc2 := of_decide_eq_true hc2
        refine Lk rfl <| Lk rfl <| Lk rfl <| Lk rfl <| Lk rfl <| Lk rfl <| Lk rfl <| Lk rfl <| Lk rfl <| Lk rfl <| Vl (Pk rfl) <| Vl (As rfl) <| ?_
        refine VLog.nil ⟨by kernel_rfl, ?_⟩
        exact Jg (true) (by rw [eq_comm, decide_eq_true_iff]; exact (right_lost oL hr hm hq).2 (.inl hc2)) Wk
      · replace hc2 := of_decide_eq_false hc2
        refine Vl (Mv rfl) <| Vl (Mv rfl) <| Vl (Ix TK52 rfl) <| Vl (Lq TA53 rfl) <| Vl (Mv rfl) <| Vl (Bo rfl reI) <| Vl (Bo (c := .int .u32 ((1 * 2 ^ ((n % 32)).toNat))) rfl (bop_shl_u32 (by omega) (by omega) (by omega))) <| Vl (Bo (c := .int .u32 (((1 * 2 ^ ((n % 32)).toNat) - 1))) rfl (bop_sub_u32 (by omega))) <| Vl (Bo (c := .int .u32 (((L).getD ((n / 32)).toNat 0 % 2 ^ (n % 32).toNat))) rfl (bop_mask_u32 (q := 2 ^ (n % 32).toNat) (n % 32).toNat rfl (by omega) (by omega) hx)) <| Vl (Bi rfl) <| Vl (Pk rfl) <| Vl (As rfl) <| ?_
        refine VLog.nil ⟨by kernel_rfl, ?_⟩
        exact Jg (((L).getD (n / 32).toNat 0 % 2 ^ (n % 32).toNat != 0)) (by rw [Bool.eq_iff_iff, decide_eq_true_iff, right_lost oL hr hm hq, bne_iff_ne]; exact ⟨fun h => .inr h, fun h => h.resolve_left hc2⟩) Wk
    · intro b hok
      change VCode _ _ _ 0 (sl _) (en _) _
      refine Sq <| Rg <| Vs (Mv rfl) <| Vs (Ls TK52 rfl) <| Vs (Mv rfl) <| Vs (Bo rfl suI) <| Vs (Mk 4 TK52 rfl) <| Vs (As rfl) <| Nx <| Sq <| Sq <| Rg <| Vs (Mv rfl) <| Vs (Lo TU52 rfl) <| Vs (Mv rfl) <| Nx <| Bk <| VCode.loop (α := (Nat) × (List Int)) (fun x_ => match x_ with | (k, O) => (5, sl [(0, vS (L)), (1, vI .i64 (n)), (6, vI .i64 ((n / 32))), (7, vB (b)), (8, .own 4 (((((L).length : Int) - (n / 32))).toNat)), (44, vI .i64 (((((((L).length : Int) - (n / 32))).toNat : Nat) : Int))), (45, vI .i64 ((k : Int)))], en [(4, rowK .u32 (O))])) (fun x_ => match x_ with | (k, O) => RightInv L O (n / 32).toNat (n % 32).toNat k) (fun x_ => match x_ with | (k, O) => L.length - k) (0, List.replicate (((L).length : Int) - (n / 32)).toNat 0) (RightInv.start (by omega) (by simp; omega)) Wk ?_
      rintro ⟨k, O⟩ hok2
      change VCode _ _ _ 5 (sl _) (en _) _
      refine Sq <| Rg <| Vs (Bi rfl) <| Nx <| Sq <| Cd rfl (fun hc3 => ?_) (fun hc3 => ?_)
      · replace hc3 := of_decide_eq_true hc3
        refine Ks <| Tg <| Sq <| Bk <| Sq <| Rg <| Vs (Mv rfl) <| Vs (As rfl) <| Nx <| Sq <| ?_
        have hO := hok2.len
        have hi : (((k : Int)) + (n / 32)).toNat = k + (n / 32).toNat := (by omega)
        have hi1 : ((((k : Int)) + (n / 32)) + 1).toNat = k + (n / 32).toNat + 1 := (by omega)
        have hx := ok32_getD oL (((k : Int)) + (n / 32)).toNat
        have hy := ok32_getD oL ((((k : Int)) + (n / 32)) + 1).toNat
        refine Rg <| Vs (Mv rfl) <| Vs (Mv rfl) <| Vs (Mv rfl) <| Vs (Bo rfl adI) <| Vs (Ix TK52 rfl) <| Vs (Lq TA53 rfl) <| Vs (Cv TU53 TU22 rfl wrW) <| Vs (As rfl) <| Nx <| Sq <| Sq <| Rg <| Vs (Mv rfl) <| Vs (Mv rfl) <| Vs (Bo rfl adI) <| Vs (Bo rfl adI) <| Vs (Mv rfl) <| Vs (Ls TK52 rfl) <| Vs (Bi rfl) <| Nx <| Cd rfl (fun hc4 => ?_) (fun hc4 => ?_)
        · replace hc4 := of_decide_eq_true hc4
          exact Rg <| Vs (Mv rfl) <| Vs (Mv rfl) <| Vs (Mv rfl) <| Vs (Mv rfl) <| Vs (Bo rfl adI) <| Vs (Bo rfl adI) <| Vs (Ix TK52 rfl) <| Vs (Lq TA53 rfl) <| Vs (Cv TU53 TU22 rfl wrW) <| Vs (Bo (c := .int .u64 (((L).getD ((((k : Int) + (n / 32)) + 1)).toNat 0 * 4294967296))) rfl (bop_shlL_u64 (q := 4294967296) (by decide) (by decide) (by decide) (by omega))) <| Vs (Bo (c := .int .u64 (((L).getD (((k : Int) + (n / 32))).toNat 0 + ((L).getD ((((k : Int) + (n / 32)) + 1)).toNat 0 * 4294967296)))) rfl (bop_orR_u64 (q := 4294967296) 32 (by decide) hx ⟨_, hy.1, rfl⟩ (by omega))) <| Vs (As rfl) <| Nx <| Rg <| Vs (Mv rfl) <| Vs (Mv rfl) <| Vs (Mv rfl) <| Vs (Mv rfl) <| Vs (Bo rfl reI) <| Vs (Bo rfl shW) <| Vs (Cv TU22 TU53 rfl (wrapM_u32 _)) <| Vs (IrN TK52 rfl) <| Vs (SrK TS53 rfl) <| VList.nil <| Ig <| Tg <| Rg <| Vs (Bo rfl adI) <| Vs (Mv rfl) <| VList.nil <| Go (k + 1, O.set k (((L).getD ((((k : Int)) + (n / 32)).toNat) 0 + (L).getD (((((k : Int)) + (n / 32)) + 1).toNat) 0 * 4294967296) / 2 ^ ((n % 32)).toNat % 4294967296)) (hok2.step oL hr (by omega) (by rw [hi]; first | (rw [hi1]; omega) | (rw [getD_out (i := k + (n / 32).toNat + 1) (by omega)]; omega))) Wk
        · replace hc4 := of_decide_eq_false hc4
          exact Ks <| Tg <| Rg <| Vs (Mv rfl) <| Vs (Mv rfl) <| Vs (Mv rfl) <| Vs (Mv rfl) <| Vs (Bo rfl reI) <| Vs (Bo rfl shW) <| Vs (Cv TU22 TU53 rfl (wrapM_u32 _)) <| Vs (IrN TK52 rfl) <| Vs (SrK TS53 rfl) <| VList.nil <| Ig <| Tg <| Rg <| Vs (Bo rfl adI) <| Vs (Mv rfl) <| VList.nil <| Go (k + 1, O.set k ((L).getD ((((k : Int)) + (n / 32)).toNat) 0 / 2 ^ ((n % 32)).toNat % 4294967296)) (hok2.step oL hr (by omega) (by rw [hi]; first | (rw [hi1]; omega) | (rw [getD_out (i := k + (n / 32).toNat + 1) (by omega)]; omega))) Wk
      · replace hc3 := of_decide_eq_false hc3
        refine Ke <| Te <| Oe <| Ih <| Tg <| Sq <| ?_
        have hO := hok2.len
        have hle := hok2.le
        obtain ⟨e1, e2⟩ := hok2.fin oL (by omega) hm
        exact Rg <| Vs (Mv rfl) <| Vs (Cc rfl (Rk (Rr rfl) Rz) (f64 _ (by first | omega | assumption | (simp; done) | (simp; omega)) (e2))) <| Vs (Mv rfl) <| Vs (As rfl) <| Vs (As rfl) <| Nx <| Re <| Fi (l := [u32S (dg (val (O))), boolB (b)]) (Rc (resVar_tmp rfl rfl) (Rc (resVar_tmp rfl rfl) Rn)) (by rw [← hok, e1]; rfl)
end Go.VL

/- Walks over the Go functions, printed by a program of this session over the kit's print, and by hand. -/
set_option linter.unusedVariables false
set_option linter.unusedSimpArgs false
namespace Go.VL
open Go.Proofs
end Go.VL

/- Walks over the Go functions, printed by a program of this session over the kit's print, and by hand. -/
set_option linter.unusedVariables false
set_option linter.unusedSimpArgs false
namespace Go.VL
open Go.Proofs
theorem f69 (L : List Int) (hL : L.length ≤ 2) (oL : ok32 L) : VF Try.prog 98 [u32S (L)] (numB .u64 (val L)) := by
  refine VF_of P_mixed Try.func98 rfl rfl (by kernel_rfl) <| Sq <| Rg <| Vs (As rfl) <| Nx <| Sq <| Rg <| Vs (As rfl) <| Nx <| Sq <| Sq <| Rg <| Vs (Mv rfl) <| Vs (Ls TK52 rfl) <| Vs (Mv rfl) <| Nx <| Bk <| VCode.loop (α := (Nat) × (Int)) (fun x_ => match x_ with | (k, c) => (0, sl [(0, vS (L)), (3, vI .u64 (c)), (6, vI .i64 (((L).length : Int))), (7, vI .i64 ((k : Int)))], en [])) (fun x_ => match x_ with | (k, c) => k ≤ L.length ∧ c = val (L.take k)) (fun x_ => match x_ with | (k, c) => L.length - k) (0, 0) ⟨by omega, rfl⟩ Wk ?_
  rintro ⟨k, c⟩ hok
  change VCode _ _ _ 0 (sl _) (en _) _
  refine Sq <| Rg <| Vs (Bi rfl) <| Nx <| Sq <| Cd rfl (fun hc1 => ?_) (fun hc1 => ?_)
  · replace hc1 := of_decide_eq_true hc1
    refine Ks <| Tg <| Sq <| Bk <| Sq <| Rg <| Vs (Mv rfl) <| Vs (As rfl) <| Nx <| ?_
    have hx := ok32_getD oL k
    have hp : (2 : Int) ^ ((32 * (k : Int))).toNat = 4294967296 ^ k := by rw [show ((32 * (k : Int))).toNat = 32 * k by omega, pow_two_words]
    have hs := word_shl (k := k) (by omega) hx
    have hc := val_lt (ok32_take oL k)
    have hc0 := val_nonneg (ok32_take oL k)
    rw [List.length_take, Nat.min_eq_left (by omega), ← hok.2] at hc
    rw [← hok.2] at hc0
    rw [← hp] at hs hc
    exact Rg <| Vs (Mv rfl) <| Vs (Mv rfl) <| Vs (Mv rfl) <| Vs (IxN TK52 rfl) <| Vs (Lq TA53 rfl) <| Vs (Cv TU53 TU22 rfl wrW) <| Vs (Mv rfl) <| Vs (Bo rfl muI) <| Vs (Bo (c := .int .u64 (((L).getD (k) 0 * 2 ^ ((32 * (k : Int))).toNat))) rfl (bop_shl_u64 (by omega) (by omega) (by omega))) <| Vs (Bo (c := .int .u64 ((c + ((L).getD (k) 0 * 2 ^ ((32 * (k : Int))).toNat)))) rfl (bop_orR_u64 (q := 2 ^ ((32 * (k : Int))).toNat) ((32 * (k : Int))).toNat rfl ⟨hc0, hc⟩ ⟨_, hx.1, rfl⟩ (by omega))) <| Vs (As rfl) <| VList.nil <| Ig <| Tg <| Rg <| Vs (Bo rfl adI) <| Vs (Mv rfl) <| VList.nil <| Go (k + 1, (c + (L).getD (k) 0 * 2 ^ ((32 * (k : Int))).toNat)) ⟨by omega, by rw [val_take_step, ← hok.2, hp, Int.mul_comm]⟩ Wk
  · replace hc1 := of_decide_eq_false hc1
    exact Ke <| Te <| Oe <| Ih <| Tg <| Sq <| Rg <| Vs (Mv rfl) <| Vs (As rfl) <| Nx <| Re <| Fi (l := [numB .u64 (c)]) (Rc (resVar_tmp rfl rfl) Rn) (by have h := hok.1; rw [hok.2, List.take_of_length_le (by omega)]; rfl)
set_option maxRecDepth 100000 in
set_option maxHeartbeats 2000000 in
theorem f84 (x : Int) (h0 : 0 ≤ x) (h1 : x < 4294967296) : VF Try.prog 123 [numB .u32 (x)] (numB .i64 (blen x.toNat : Nat)) := by
  refine VF_of P_mixed Try.func123 rfl rfl (by kernel_rfl) <| Sq <| Rg <| Vs (As rfl) <| Nx <| Sq <| Sq <| Rg <| Vs (Mv rfl) <| Vs (Bi rfl) <| Nx <| Cd rfl (fun hc1 => ?_) (fun hc1 => ?_)
  · replace hc1 := of_decide_eq_true hc1
    refine Sq <| Rg <| Vs (Mv rfl) <| Vs (Bo rfl (srD 65536)) <| Vs (As rfl) <| Nx <| Rg <| Vs (As rfl) <| Nx <| Sq <| Sq <| Rg <| Vs (Mv rfl) <| Vs (Bi rfl) <| Nx <| Cd rfl (fun hc2 => ?_) (fun hc2 => ?_)
    · replace hc2 := of_decide_eq_true hc2
      exact Sq <| Rg <| Vs (Mv rfl) <| Vs (Bo rfl (srD 256)) <| Vs (As rfl) <| Nx <| Rg <| Vs (Mv rfl) <| Vs (Bo rfl adI) <| Vs (As rfl) <| Nx <| Sq <| Rg <| Vs (Mv rfl) <| Vs (Mv rfl) <| Vs (Cv TU53 TU5 rfl wrB) <| Vs (Ti (z := ((tab8.data.getD (((x / 65536) / 256)).toNat 0).toNat : Int)) TU9 rfl rfl (h1 := (show _ < 256 from by omega))) <| Vs (Cv TU5 TU3 rfl (wrI (h := (by have ht := tab8_le (x / 65536 / 256).toNat; have ht2 := tab8_le (x / 65536).toNat; have ht3 := tab8_le (x / 256).toNat; have ht4 := tab8_le x.toNat; omega)))) <| Vs (Bo rfl (adI (h := (by have ht := tab8_le (x / 65536 / 256).toNat; have ht2 := tab8_le (x / 65536).toNat; have ht3 := tab8_le (x / 256).toNat; have ht4 := tab8_le x.toNat; omega)))) <| Vs (As rfl) <| Nx <| Re <| Fi (l := [numB .i64 (((16 + 8) + ((tab8.data.getD (((x / 65536) / 256)).toNat 0).toNat : Int)))]) (Rc (resVar_tmp rfl rfl) Rn) (by rw [len32_a (y := x / 65536) 16 h0 (by simp) (by omega), len32_a (y := x / 65536 / 256) 8 (by omega) (by simp) (by omega), tab8_get (by omega)]; exact congrArg (numB .i64) (by omega))
    · replace hc2 := of_decide_eq_false hc2
      exact Ks <| Tg <| Sq <| Rg <| Vs (Mv rfl) <| Vs (Mv rfl) <| Vs (Cv TU53 TU5 rfl wrB) <| Vs (Ti (z := ((tab8.data.getD ((x / 65536)).toNat 0).toNat : Int)) TU9 rfl rfl (h1 := (show _ < 256 from by omega))) <| Vs (Cv TU5 TU3 rfl (wrI (h := (by have ht := tab8_le (x / 65536 / 256).toNat; have ht2 := tab8_le (x / 65536).toNat; have ht3 := tab8_le (x / 256).toNat; have ht4 := tab8_le x.toNat; omega)))) <| Vs (Bo rfl (adI (h := (by have ht := tab8_le (x / 65536 / 256).toNat; have ht2 := tab8_le (x / 65536).toNat; have ht3 := tab8_le (x / 256).toNat; have ht4 := tab8_le x.toNat; omega)))) <| Vs (As rfl) <| Nx <| Re <| Fi (l := [numB .i64 ((16 + ((tab8.data.getD ((x / 65536)).toNat 0).toNat : Int)))]) (Rc (resVar_tmp rfl rfl) Rn) (by rw [len32_a (y := x / 65536) 16 h0 (by simp) (by omega), tab8_get (by omega)]; exact congrArg (numB .i64) (by omega))
  · replace hc1 := of_decide_eq_false hc1
    refine Ks <| Tg <| Sq <| Sq <| Rg <| Vs (Mv rfl) <| Vs (Bi rfl) <| Nx <| Cd rfl (fun hc3 => ?_) (fun hc3 => ?_)
    · replace hc3 := of_decide_eq_true hc3
      exact Sq <| Rg <| Vs (Mv rfl) <| Vs (Bo rfl (srD 256)) <| Vs (As rfl) <| Nx <| Rg <| Vs (Mv rfl) <| Vs (Bo rfl adI) <| Vs (As rfl) <| Nx <| Sq <| Rg <| Vs (Mv rfl) <| Vs (Mv rfl) <| Vs (Cv TU53 TU5 rfl wrB) <| Vs (Ti (z := ((tab8.data.getD ((x / 256)).toNat 0).toNat : Int)) TU9 rfl rfl (h1 := (show _ < 256 from by omega))) <| Vs (Cv TU5 TU3 rfl (wrI (h := (by have ht := tab8_le (x / 65536 / 256).toNat; have ht2 := tab8_le (x / 65536).toNat; have ht3 := tab8_le (x / 256).toNat; have ht4 := tab8_le x.toNat; omega)))) <| Vs (Bo rfl (adI (h := (by have ht := tab8_le (x / 65536 / 256).toNat; have ht2 := tab8_le (x / 65536).toNat; have ht3 := tab8_le (x / 256).toNat; have ht4 := tab8_le x.toNat; omega)))) <| Vs (As rfl) <| Nx <| Re <| Fi (l := [numB .i64 (((0 + 8) + ((tab8.data.getD ((x / 256)).toNat 0).toNat : Int)))]) (Rc (resVar_tmp rfl rfl) Rn) (by rw [len32_a (y := x / 256) 8 h0 (by simp) (by omega), tab8_get (by omega)]; exact congrArg (numB .i64) (by omega))
    · replace hc3 := of_decide_eq_false hc3
      exact Ks <| Tg <| Sq <| Rg <| Vs (Mv rfl) <| Vs (Mv rfl) <| Vs (Cv TU53 TU5 rfl wrB) <| Vs (Ti (z := ((tab8.data.getD (x).toNat 0).toNat : Int)) TU9 rfl rfl (h1 := (show _ < 256 from by omega))) <| Vs (Cv TU5 TU3 rfl (wrI (h := (by have ht := tab8_le (x / 65536 / 256).toNat; have ht2 := tab8_le (x / 65536).toNat; have ht3 := tab8_le (x / 256).toNat; have ht4 := tab8_le x.toNat; omega)))) <| Vs (Bo rfl (adI (h := (by have ht := tab8_le (x / 65536 / 256).toNat; have ht2 := tab8_le (x / 65536).toNat; have ht3 := tab8_le (x / 256).toNat; have ht4 := tab8_le x.toNat; omega)))) <| Vs (As rfl) <| Nx <| Re <| Fi (l := [numB .i64 ((0 + ((tab8.data.getD (x).toNat 0).toNat : Int)))]) (Rc (resVar_tmp rfl rfl) Rn) (by rw [tab8_get (by omega)]; exact congrArg (numB .i64) (by omega))
theorem f81 (x : Int) (h0 : 0 ≤ x) (h1 : x < 4294967296) : VF Try.prog 112 [numB .u32 (x)] (numB .i64 ((32 - blen x.toNat : Nat) : Int)) := by
  refine VF_of P_mixed Try.func112 rfl rfl (by kernel_rfl) <| Sq <| Rg <| Vs (As rfl) <| Nx <| Sq <| Rg <| Vs (Mv rfl) <| Vs (Cf rfl rfl (f84 _ (by first | omega | assumption | (simp; done) | (simp; omega)) (by first | omega | assumption | (simp; done) | (simp; omega))) rfl) <| ?_
  have hb := (blen_lt 32 x.toNat).2 (by omega)
  exact Vs (Bo rfl suI) <| Vs (As rfl) <| Nx <| Re <| Fi (l := [numB .i64 ((32 - ((blen (x).toNat : Nat) : Int)))]) (Rc (resVar_tmp rfl rfl) Rn) (by exact congrArg (numB .i64) (by omega))
end Go.VL

/- Walks over the Go functions, printed by a program of this session over the kit's print, and by hand. -/
set_option linter.unusedVariables false
set_option linter.unusedSimpArgs false
namespace Go.VL
open Go.Proofs
theorem f82 (U V : List Int) (j : Nat) (q : Int) (hU : U.length ≤ 900000000) (oU : ok32 U) (oV : ok32 V) (hq : 0 ≤ q ∧ q < 4294967296) (hj : j + V.length < U.length) (hz : ∀ k, j + V.length < k → U.getD k 0 = 0) (hl : (q - 1) * val V ≤ val (U.drop j)) (hr : val (U.drop j) < (q + 1) * val V) (hVp : 0 < val V) : VM Try.prog 114 ((U).map u32B) [numB .i64 ((j : Int)), u32S (V), numB .u64 (q)] (numB .u32 (val (U.drop j) / val V)) ((pad U.length (took U V j)).map u32B) := by
  refine VMr_of P_mixed Try.func114 rfl rfl (by kernel_rfl) (pad_len (took_range oU oV (by omega) hVp).1 (took_range oU oV (by omega) hVp).2).1 rfl <| Sq <| Rg <| Vs (As rfl) <| Nx <| Sq <| Rg <| Vs (As rfl) <| Vs (As rfl) <| Nx <| Sq <| Sq <| Rg <| Vs (Mv rfl) <| Vs (Ls TK52 rfl) <| Vs (Mv rfl) <| Nx <| Bk <| VCode.loop (α := (Nat) × (Int) × (Int) × (List Int)) (fun x_ => match x_ with | (i, c, w, O) => (1, sl [(0, .own 0 ((U).length)), (1, vI .i64 ((j : Int))), (2, vS (V)), (3, vI .u64 (q)), (9, vI .u64 (c)), (10, vI .u64 (w)), (18, vI .i64 (((V).length : Int))), (19, vI .i64 ((i : Int)))], en [(0, rowK .u32 (O))])) (fun x_ => match x_ with | (i, c, w, O) => TakeInv U V O q j i c w) (fun x_ => match x_ with | (i, c, w, O) => V.length - i) (0, 0, 0, U) (TakeInv.start oU) Wk ?_
  rintro ⟨i, c, w, O⟩ hok
  change VCode _ _ _ 1 (sl _) (en _) _
  refine Sq <| Rg <| Vs (Bi rfl) <| Nx <| Sq <| Cd rfl (fun hc1 => ?_) (fun hc1 => ?_)
  · replace hc1 := of_decide_eq_true hc1
    refine Ks <| Tg <| Sq <| Bk <| Sq <| Rg <| Vs (Mv rfl) <| Vs (As rfl) <| Nx <| Sq <| ?_
    have hi : (((j : Int)) + ((i : Int))).toNat = j + i := (by omega)
    have hv := ok32_getD oV i
    have hp := take_prod hq hv ⟨hok.c0, hok.c1⟩
    have hqv := mul_small hq hv
    have h0 := hok.c0
    have h1 := hok.c1
    have hlen := hok.len
    have hO := ok32_getD hok.ok ((((j : Int)) + ((i : Int))).toNat)
    exact Rg <| Vs (Mv rfl) <| Vs (Mv rfl) <| Vs (Mv rfl) <| Vs (IxN TK52 rfl) <| Vs (Lq TA53 rfl) <| Vs (Cv TU53 TU22 rfl wrW) <| Vs (Bo rfl muW) <| Vs (Mv rfl) <| Vs (Bo rfl adW) <| Vs (As rfl) <| Nx <| Sq <| Rg <| Vs (Mv rfl) <| Vs (Bo rfl (srW 4294967296)) <| Vs (As rfl) <| Nx <| Sq <| Rg <| Vs (Mv rfl) <| Vs (Mv rfl) <| Vs (Mv rfl) <| Vs (Bo rfl adI) <| Vs (Ir TK52 rfl) <| Vs (LrK TA53 rfl) <| Vs (Cv TU53 TU22 rfl wrW) <| Vs (Mv rfl) <| Vs (Bo (c := .int .u64 ((((q * (V).getD (i) 0) + c) % 4294967296))) rfl (bop_mask_u64 (q := 4294967296) 32 (by decide) (by decide) (by decide) (by omega))) <| Vs (Bo (c := .int .u64 ((((O).getD ((((j : Int) + (i : Int))).toNat) 0 - (((q * (V).getD (i) 0) + c) % 4294967296)) % 18446744073709551616))) rfl (bopM_sub_u64 _ _)) <| Vs (Mv rfl) <| Vs (Bo (c := .int .u64 ((((((O).getD ((((j : Int) + (i : Int))).toNat) 0 - (((q * (V).getD (i) 0) + c) % 4294967296)) % 18446744073709551616) - w) % 18446744073709551616))) rfl (bopM_sub_u64 _ _)) <| Vs (As rfl) <| Nx <| Sq <| Rg <| Vs (Mv rfl) <| Vs (Mv rfl) <| Vs (Mv rfl) <| Vs (Bo rfl adI) <| Vs (Mv rfl) <| Vs (Cv TU22 TU53 rfl (wrapM_u32 _)) <| Vs (Ir TK52 rfl) <| Vs (SrK TS53 rfl) <| Nx <| Rg <| Vs (Mv rfl) <| Vs (Bo rfl (srW 9223372036854775808)) <| Vs (As rfl) <| VList.nil <| Ig <| Tg <| Rg <| Vs (Bo rfl adI) <| Vs (Mv rfl) <| VList.nil <| Go (i + 1, (q * (V).getD (i) 0 + c) / 4294967296, (((((O).getD ((((j : Int)) + ((i : Int))).toNat) 0 - ((q * (V).getD (i) 0 + c) % 4294967296)) % 18446744073709551616) - w) % 18446744073709551616) / 9223372036854775808, (O).set ((((j : Int)) + ((i : Int))).toNat) ((((((O).getD ((((j : Int)) + ((i : Int))).toNat) 0 - ((q * (V).getD (i) 0 + c) % 4294967296)) % 18446744073709551616) - w) % 18446744073709551616) % 4294967296)) (by show TakeInv U V ((O).set ((((j : Int)) + ((i : Int))).toNat) ((((((O).getD ((((j : Int)) + ((i : Int))).toNat) 0 - ((q * (V).getD (i) 0 + c) % 4294967296)) % 18446744073709551616) - w) % 18446744073709551616) % 4294967296)) q j (i + 1) _ _; rw [hi]; exact hok.step oV hq (by omega) hj rfl rfl) Wk
  · replace hc1 := of_decide_eq_false hc1
    refine Ke <| Te <| Oe <| Ih <| Tg <| Sq <| ?_
    have hn : (((j : Int)) + (((V).length : Int))).toNat = j + V.length := (by omega)
    have hlen := hok.len
    have hle := hok.le
    have h0 := hok.c0
    have h1 := hok.c1
    have hi : i = V.length := (by omega)
    subst hi
    have hO := ok32_getD hok.ok ((((j : Int)) + (((V).length : Int))).toNat)
    refine Rg <| Vs (Mv rfl) <| Vs (Mv rfl) <| Vs (Mv rfl) <| Vs (Ls TK52 rfl) <| Vs (Bo rfl adI) <| Vs (Ir TK52 rfl) <| Vs (LrK TA53 rfl) <| Vs (Cv TU53 TU22 rfl wrW) <| Vs (Mv rfl) <| Vs (Bo (c := .int .u64 ((((O).getD ((((j : Int) + ((V).length : Int))).toNat) 0 - c) % 18446744073709551616))) rfl (bopM_sub_u64 _ _)) <| Vs (Mv rfl) <| Vs (Bo (c := .int .u64 ((((((O).getD ((((j : Int) + ((V).length : Int))).toNat) 0 - c) % 18446744073709551616) - w) % 18446744073709551616))) rfl (bopM_sub_u64 _ _)) <| Vs (As rfl) <| Nx <| Sq <| Rg <| Vs (Mv rfl) <| Vs (Mv rfl) <| Vs (Mv rfl) <| Vs (Ls TK52 rfl) <| Vs (Bo rfl adI) <| Vs (Mv rfl) <| Vs (Cv TU22 TU53 rfl (wrapM_u32 _)) <| Vs (Ir TK52 rfl) <| Vs (SrK TS53 rfl) <| Nx <| Sq <| Sq <| Rg <| Vs (Mv rfl) <| Vs (Bo rfl (srW 9223372036854775808)) <| Vs (Bi rfl) <| Nx <| Cd rfl (fun hc2 => ?_) (fun hc2 => ?_)
    · replace hc2 := eq_of_beq hc2
      refine Sq <| ?_
      rw [hn] at hc2
      obtain ⟨g1, g2⟩ := hok.good rfl hj rfl hc2
      obtain ⟨d1, d2⟩ := take_good oU oV g2 (by simp [hlen]) (by omega) hVp hr g1
      exact Rg <| Vs (Mv rfl) <| Vs (Cv TU22 TU53 rfl (wrapM_u32 _)) <| Vs (As rfl) <| Nx <| Re <| Tr <| ⟨trivial, ⟨_, (Rc (resVar_tmp rfl rfl) Rn), (by rw [d1, show q % 4294967296 = q by omega]; rfl)⟩, (show some (rowK .u32 ((O).set ((((j : Int) + ((V).length : Int))).toNat) ((((((((O).getD ((((j : Int) + ((V).length : Int))).toNat) 0 - c) % 18446744073709551616) - w) % 18446744073709551616)) % 4294967296)))) = some (rowK .u32 (pad U.length (took U V j))) from (by rw [hn, d2]))⟩
    · replace hc2 := ne_of_beq_false hc2
      refine Ks <| Tg <| Sq <| ?_
      rw [hn] at hc2
      obtain ⟨hb1, hb2⟩ := hok.bad rfl hj rfl hc2
      have hWz : ∀ k, j + V.length < k → ((O).set (j + V.length) ((((((O).getD (j + V.length) 0 - c) % 18446744073709551616) - w) % 18446744073709551616) % 4294967296)).getD k 0 = 0 := fun k hk => (by rw [getD_set_ne (by omega), hok.same k (by omega)]; exact hz k hk)
      refine Rg <| Vs (As rfl) <| Nx <| Sq <| Sq <| Rg <| Vs (Mv rfl) <| Vs (Ls TK52 rfl) <| Vs (Mv rfl) <| Nx <| Bk <| VCode.loop (α := (Nat) × (Int) × (List Int)) (fun x_ => match x_ with | (i, c2, O2) => (1, sl [(0, .own 0 ((U).length)), (1, vI .i64 ((j : Int))), (2, vS (V)), (3, vI .u64 (q)), (9, vI .u64 (c2)), (81, vI .i64 (((V).length : Int))), (82, vI .i64 ((i : Int)))], en [(0, rowK .u32 (O2))])) (fun x_ => match x_ with | (i, c2, O2) => BackInv ((O).set (j + V.length) ((((((O).getD ((((j : Int)) + (((V).length : Int))).toNat) 0 - c) % 18446744073709551616) - w) % 18446744073709551616) % 4294967296)) V O2 j i c2) (fun x_ => match x_ with | (i, c2, O2) => V.length - i) (0, 0, (O).set ((((j : Int)) + (((V).length : Int))).toNat) ((((((O).getD ((((j : Int)) + (((V).length : Int))).toNat) 0 - c) % 18446744073709551616) - w) % 18446744073709551616) % 4294967296)) (by rw [hn]; exact BackInv.start hb2) Wk ?_
      rintro ⟨i, c2, O2⟩ hok2
      change VCode _ _ _ 1 (sl _) (en _) _
      refine Sq <| Rg <| Vs (Bi rfl) <| Nx <| Sq <| Cd rfl (fun hc3 => ?_) (fun hc3 => ?_)
      · replace hc3 := of_decide_eq_true hc3
        refine Ks <| Tg <| Sq <| Bk <| Sq <| Rg <| Vs (Mv rfl) <| Vs (As rfl) <| Nx <| Sq <| ?_
        have hi : (((j : Int)) + ((i : Int))).toNat = j + i := (by omega)
        have hv := ok32_getD oV i
        have hlen2 := hok2.len
        have hO2 := ok32_getD hok2.ok ((((j : Int)) + ((i : Int))).toNat)
        have h3 := hok2.c0
        have h4 := hok2.c1
        simp only [List.length_set] at hlen2
        refine Rd (by kernel_rfl) <| Vl (Mv rfl) <| Vl (Mv rfl) <| Vl (Mv rfl) <| Vl (Bo rfl adI) <| Vl (Ir TK52 rfl) <| Vl (LrK TA53 rfl) <| Vl (Cv TU53 TU22 rfl wrW) <| Vl (Mv rfl) <| Vl (Mv rfl) <| Vl (IxN TK52 rfl) <| Vl (Lq TA53 rfl) <| Vl (Cv TU53 TU22 rfl wrW) <| Vl (Bo rfl adW) <| Vl (Mv rfl) <| Vl (Bo rfl adW) <| Vl (As rfl) <| ?_
        refine VLog.nil ⟨by kernel_rfl, ?_⟩
        exact Tg <| Sq <| Rg <| Vs (Mv rfl) <| Vs (Mv rfl) <| Vs (Mv rfl) <| Vs (Bo rfl adI) <| Vs (Mv rfl) <| Vs (Cv TU22 TU53 rfl (wrapM_u32 _)) <| Vs (Ir TK52 rfl) <| Vs (SrK TS53 rfl) <| Nx <| Rg <| Vs (Mv rfl) <| Vs (Bo rfl (srW 4294967296)) <| Vs (As rfl) <| VList.nil <| Ig <| Tg <| Rg <| Vs (Bo rfl adI) <| Vs (Mv rfl) <| VList.nil <| Go (i + 1, (((O2).getD ((((j : Int)) + ((i : Int))).toNat) 0 + (V).getD (i) 0) + c2) / 4294967296, (O2).set ((((j : Int)) + ((i : Int))).toNat) ((((O2).getD ((((j : Int)) + ((i : Int))).toNat) 0 + (V).getD (i) 0) + c2) % 4294967296)) (by rw [hi]; exact hok2.step oV (by omega) (by simp [hlen]; omega) rfl) Wk
      · replace hc3 := of_decide_eq_false hc3
        refine Ke <| Te <| Oe <| Ih <| Tg <| Sq <| ?_
        have hlen2 := hok2.len
        simp only [List.length_set] at hlen2
        have hle2 := hok2.le
        have h3 := hok2.c0
        have h4 := hok2.c1
        have hi2 : i = V.length := (by omega)
        subst hi2
        have hov := take_over oU oV hj hl hz (by simp [hlen]) hb1 hWz hok2
        obtain ⟨f1, f2⟩ := hok2.fin rfl (by simp [hlen]; omega) hov
        obtain ⟨d1, d2, d3⟩ := take_bad oU oV hb2 f2 hj hVp hl (by simp [hlen]) (by simp [hlen2, hlen]) hb1 hWz f1
        exact Rg <| Vs (Mv rfl) <| Vs (Mv rfl) <| Vs (Mv rfl) <| Vs (Ls TK52 rfl) <| Vs (Bo rfl adI) <| Vs (Ir TK52 rfl) <| Vs (LrK TA53 rfl) <| Vs (Mv rfl) <| Vs (Cv TU22 TU53 rfl (wrapM_u32 _)) <| Vs (Bo (c := .int .u32 ((((O2).getD ((((j : Int) + ((V).length : Int))).toNat) 0 + ((c2) % 4294967296)) % 4294967296))) rfl (bopM_add_u32 _ _)) <| Vs (Ir TK52 rfl) <| Vs (SrK TS53 rfl) <| Nx <| Sq <| Rg <| Vs (Mv rfl) <| Vs (Bo (c := .int .u64 (((q - 1) % 18446744073709551616))) rfl (bopM_sub_u64 _ _)) <| Vs (Cv TU22 TU53 rfl (wrapM_u32 _)) <| Vs (As rfl) <| Nx <| Re <| ⟨trivial, ⟨_, (Rc (resVar_tmp rfl rfl) Rn), (by rw [d1, show (q - 1) % 18446744073709551616 % 4294967296 = q - 1 by omega]; rfl)⟩, (show some (rowK .u32 ((O2).set ((((j : Int) + ((V).length : Int))).toNat) ((((O2).getD ((((j : Int) + ((V).length : Int))).toNat) 0 + ((c2) % 4294967296)) % 4294967296)))) = some (rowK .u32 (pad U.length (took U V j))) from (by rw [hn, show c2 % 4294967296 = c2 by omega, d2]))⟩
theorem f83 (U V : List Int) (j : Nat) (p : Int) (hU : U.length ≤ 900000000) (hV : V.length ≤ 900000000) (oU : ok32 U) (oV : ok32 V) (h2 : 2 ≤ V.length) (hj : j + V.length < U.length) (hF : DigFix (val (U.drop j)) (val V) ((V).getD ((((V).length : Int) - 1)).toNat 0) ((V).getD ((((V).length : Int) - 2)).toNat 0) ((U).getD ((((j : Int) + ((V).length : Int)) - 1)).toNat 0) ((U).getD ((((j : Int) + ((V).length : Int)) - 2)).toNat 0) ((((U).getD (((j : Int) + ((V).length : Int))).toNat 0 * 4294967296) + (U).getD ((((j : Int) + ((V).length : Int)) - 1)).toNat 0)) p) : VF Try.prog 115 [u32S (U), numB .i64 ((j : Int)), u32S (V)] (numB .u64 (digF ((V).getD ((((V).length : Int) - 1)).toNat 0) ((V).getD ((((V).length : Int) - 2)).toNat 0) ((U).getD ((((j : Int) + ((V).length : Int)) - 2)).toNat 0) ((((U).getD (((j : Int) + ((V).length : Int))).toNat 0 * 4294967296) + (U).getD ((((j : Int) + ((V).length : Int)) - 1)).toNat 0)))) := by
  refine VF_of P_mixed Try.func115 rfl rfl (by kernel_rfl) <| Sq <| Rg <| Vs (As rfl) <| Nx <| Sq <| Rg <| Vs (Mv rfl) <| Vs (Ls TK52 rfl) <| Vs (As rfl) <| Nx <| Sq <| ?_
  have a1 := ok32_getD oU (((j : Int) + ((V).length : Int))).toNat
  have a2 := ok32_getD oU ((((j : Int) + ((V).length : Int)) - 1)).toNat
  have a3 := ok32_getD oU ((((j : Int) + ((V).length : Int)) - 2)).toNat
  have b1 := ok32_getD oV ((((V).length : Int) - 1)).toNat
  have b2 := ok32_getD oV ((((V).length : Int) - 2)).toNat
  have hv1 := hF.v1l
  refine Rd (by kernel_rfl) <| Vl (Mv rfl) <| Vl (Mv rfl) <| Vl (Mv rfl) <| Vl (Bo rfl adI) <| Vl (Ix TK52 rfl) <| Vl (Lq TA53 rfl) <| Vl (Cv TU53 TU22 rfl wrW) <| Vl (Bo (c := .int .u64 (((U).getD (((j : Int) + ((V).length : Int))).toNat 0 * 4294967296))) rfl (bop_shlL_u64 (q := 4294967296) (by decide) (by decide) (by decide) (by omega))) <| Vl (Mv rfl) <| Vl (Mv rfl) <| Vl (Mv rfl) <| Vl (Bo rfl adI) <| Vl (Bo rfl suI) <| Vl (Ix TK52 rfl) <| Vl (Lq TA53 rfl) <| Vl (Cv TU53 TU22 rfl wrW) <| Vl (Bo (c := .int .u64 ((((U).getD (((j : Int) + ((V).length : Int))).toNat 0 * 4294967296) + (U).getD ((((j : Int) + ((V).length : Int)) - 1)).toNat 0))) rfl (bop_or_u64 (q := 4294967296) 32 (by decide) ⟨_, a1.1, rfl⟩ a2 (by omega))) <| Vl (As rfl) <| ?_
  refine VLog.nil ⟨by kernel_rfl, ?_⟩
  refine Tg <| Sq <| Rg <| Vs (Mv rfl) <| Vs (Mv rfl) <| Vs (Mv rfl) <| Vs (Bo rfl suI) <| Vs (Ix TK52 rfl) <| Vs (Lq TA53 rfl) <| Vs (Cv TU53 TU22 rfl wrW) <| Vs (Bo rfl quW) <| Vs (As rfl) <| Nx <| Sq <| Rg <| Vs (Mv rfl) <| Vs (Mv rfl) <| Vs (Mv rfl) <| Vs (Bo rfl suI) <| Vs (Ix TK52 rfl) <| Vs (Lq TA53 rfl) <| Vs (Cv TU53 TU22 rfl wrW) <| Vs (Bo rfl reW) <| Vs (As rfl) <| Nx <| Sq <| Bk <| VCode.loop (α := (Nat) × (Int) × (Int)) (fun x_ => match x_ with | (f, q, r) => (0, sl [(0, vS (U)), (1, vI .i64 ((j : Int))), (2, vS (V)), (7, vI .i64 (((V).length : Int))), (9, vI .u64 (q)), (10, vI .u64 (r))], en [])) (fun x_ => match x_ with | (f, q, r) => DigInv (val (U.drop j)) (val V) ((V).getD ((((V).length : Int) - 1)).toNat 0) ((V).getD ((((V).length : Int) - 2)).toNat 0) ((U).getD ((((j : Int) + ((V).length : Int)) - 2)).toNat 0) ((((U).getD (((j : Int) + ((V).length : Int))).toNat 0 * 4294967296) + (U).getD ((((j : Int) + ((V).length : Int)) - 1)).toNat 0)) p q r ∧ digL f ((V).getD ((((V).length : Int) - 1)).toNat 0) ((V).getD ((((V).length : Int) - 2)).toNat 0) ((U).getD ((((j : Int) + ((V).length : Int)) - 2)).toNat 0) q r = digF ((V).getD ((((V).length : Int) - 1)).toNat 0) ((V).getD ((((V).length : Int) - 2)).toNat 0) ((U).getD ((((j : Int) + ((V).length : Int)) - 2)).toNat 0) ((((U).getD (((j : Int) + ((V).length : Int))).toNat 0 * 4294967296) + (U).getD ((((j : Int) + ((V).length : Int)) - 1)).toNat 0)) ∧ q < f) (fun x_ => match x_ with | (f, q, r) => f) (((((U).getD (((j : Int) + ((V).length : Int))).toNat 0 * 4294967296) + (U).getD ((((j : Int) + ((V).length : Int)) - 1)).toNat 0) / ((V).getD ((((V).length : Int) - 1)).toNat 0)).toNat + 1, (((U).getD (((j : Int) + ((V).length : Int))).toNat 0 * 4294967296) + (U).getD ((((j : Int) + ((V).length : Int)) - 1)).toNat 0) / ((V).getD ((((V).length : Int) - 1)).toNat 0), (((U).getD (((j : Int) + ((V).length : Int))).toNat 0 * 4294967296) + (U).getD ((((j : Int) + ((V).length : Int)) - 1)).toNat 0) % ((V).getD ((((V).length : Int) - 1)).toNat 0)) ⟨DigInv.start hF rfl rfl, rfl, by have := (DigInv.start hF rfl rfl).q0; omega⟩ Wk ?_
  rintro ⟨f, q, r⟩ hok
  change VCode _ _ _ 0 (sl _) (en _) _
  refine Sq <| Sq <| ?_
  obtain ⟨hD, hQ, hf⟩ := hok
  have r0 := hD.r0
  have r1 := hD.r1
  have q0 := hD.q0
  have qle := hD.qle hF
  refine Rd (by kernel_rfl) <| Vl (Mv rfl) <| Vl (Bi rfl) <| Vl (Mv rfl) <| Sl 48 rfl (fun hc1 => ?_) (fun hc1 => ?_)
  · replace hc1 := of_decide_eq_true hc1
    refine Lk rfl <| Lk rfl <| Lk rfl <| Lk rfl <| Lk rfl <| Lk rfl <| Lk rfl <| Lk rfl <| Lk rfl <| Lk rfl <| Lk rfl <| Lk rfl <| Lk rfl <| Lk rfl <| Lk rfl <| Lk rfl <| Lk rfl <| Lk rfl <| Lk rfl <| Lk rfl <| Vl (Pk rfl) <| ?_
    refine VLog.nil ⟨by kernel_rfl, ?_⟩
    refine Tg <| Cy rfl <| Ks <| Tg <| Bk <| Sq <| ?_
    have ht : 4294967296 ≤ q ∨ r * 4294967296 + (U).getD ((((j : Int) + ((V).length : Int)) - 2)).toNat 0 < q * (V).getD ((((V).length : Int) - 2)).toNat 0 := (by omega)
    have hp0 := hD.pos hF ht
    refine Rg <| Vs (Mv rfl) <| Vs (Bo rfl suW) <| Vs (As rfl) <| Nx <| Sq <| Rg <| Vs (Mv rfl) <| Vs (Mv rfl) <| Vs (Mv rfl) <| Vs (Bo rfl suI) <| Vs (Ix TK52 rfl) <| Vs (Lq TA53 rfl) <| Vs (Cv TU53 TU22 rfl wrW) <| Vs (Bo rfl adW) <| Vs (As rfl) <| Nx <| Sq <| Rg <| Vs (Mv rfl) <| Vs (Bi rfl) <| Nx <| Cd rfl (fun hc2 => ?_) (fun hc2 => ?_)
    · replace hc2 := of_decide_eq_true hc2
      exact Ke <| Io <| Oe <| Ih <| Tg <| Sq <| Rg <| Vs (Mv rfl) <| Vs (As rfl) <| Nx <| Re <| Fi (l := [numB .u64 ((q - 1))]) (Rc (resVar_tmp rfl rfl) Rn) (by rw [← hQ, digL_break (by omega) ht (by omega)]; rfl)
    · replace hc2 := of_decide_eq_false hc2
      exact Ks <| Ig <| Go (f - 1, q - 1, r + (V).getD ((((V).length : Int) - 1)).toNat 0) ⟨(hD.step hF ht (by omega)).1, by rw [← hQ, digL_go (by omega) ht (by omega)], by omega⟩ Wk
  · replace hc1 := of_decide_eq_false hc1
    refine Vl (Mv rfl) <| Vl (Mv rfl) <| Vl (Mv rfl) <| Vl (Bo rfl suI) <| Vl (Ix TK52 rfl) <| Vl (Lq TA53 rfl) <| Vl (Cv TU53 TU22 rfl wrW) <| ?_
    have hm := mul_small (x := q) (y := (V).getD ((((V).length : Int) - 2)).toNat 0) (by omega) b2
    refine Vl (Bo rfl muW) <| Vl (Mv rfl) <| Vl (Bo (c := .int .u64 ((r * 4294967296))) rfl (bop_shlL_u64 (q := 4294967296) (by decide) (by decide) (by decide) (by omega))) <| Vl (Mv rfl) <| Vl (Mv rfl) <| Vl (Mv rfl) <| Vl (Bo rfl adI) <| Vl (Bo rfl suI) <| Vl (Ix TK52 rfl) <| Vl (Lq TA53 rfl) <| Vl (Cv TU53 TU22 rfl wrW) <| Vl (Bo (c := .int .u64 (((r * 4294967296) + (U).getD ((((j : Int) + ((V).length : Int)) - 2)).toNat 0))) rfl (bop_or_u64 (q := 4294967296) 32 (by decide) ⟨_, r0, rfl⟩ a3 (by omega))) <| Vl (Bi rfl) <| Vl (Pk rfl) <| ?_
    refine VLog.nil ⟨by kernel_rfl, ?_⟩
    refine Tg <| Cd rfl (fun hc3 => ?_) (fun hc3 => ?_)
    · replace hc3 := of_decide_eq_true hc3
      refine Ks <| Tg <| Bk <| Sq <| ?_
      have ht : 4294967296 ≤ q ∨ r * 4294967296 + (U).getD ((((j : Int) + ((V).length : Int)) - 2)).toNat 0 < q * (V).getD ((((V).length : Int) - 2)).toNat 0 := (by omega)
      have hp0 := hD.pos hF ht
      refine Rg <| Vs (Mv rfl) <| Vs (Bo rfl suW) <| Vs (As rfl) <| Nx <| Sq <| Rg <| Vs (Mv rfl) <| Vs (Mv rfl) <| Vs (Mv rfl) <| Vs (Bo rfl suI) <| Vs (Ix TK52 rfl) <| Vs (Lq TA53 rfl) <| Vs (Cv TU53 TU22 rfl wrW) <| Vs (Bo rfl adW) <| Vs (As rfl) <| Nx <| Sq <| Rg <| Vs (Mv rfl) <| Vs (Bi rfl) <| Nx <| Cd rfl (fun hc4 => ?_) (fun hc4 => ?_)
      · replace hc4 := of_decide_eq_true hc4
        exact Ke <| Io <| Oe <| Ih <| Tg <| Sq <| Rg <| Vs (Mv rfl) <| Vs (As rfl) <| Nx <| Re <| Fi (l := [numB .u64 ((q - 1))]) (Rc (resVar_tmp rfl rfl) Rn) (by rw [← hQ, digL_break (by omega) ht (by omega)]; rfl)
      · replace hc4 := of_decide_eq_false hc4
        exact Ks <| Ig <| Go (f - 1, q - 1, r + (V).getD ((((V).length : Int) - 1)).toNat 0) ⟨(hD.step hF ht (by omega)).1, by rw [← hQ, digL_go (by omega) ht (by omega)], by omega⟩ Wk
    · replace hc3 := of_decide_eq_false hc3
      exact Ke <| Te <| Oe <| Ih <| Tg <| Sq <| Rg <| Vs (Mv rfl) <| Vs (As rfl) <| Nx <| Re <| Fi (l := [numB .u64 (q)]) (Rc (resVar_tmp rfl rfl) Rn) (by rw [← hQ, digL_stop (by omega) (by omega)]; rfl)
end Go.VL

/- Walks over the Go functions, printed by a program of this session over the kit's print, and by hand. -/
set_option linter.unusedVariables false
set_option linter.unusedSimpArgs false
namespace Go.VL
open Go.Proofs
theorem f51 (A B : List Int) (hA : A.length ≤ 300000000) (hB : B.length ≤ 300000000) (nA : norm A) (nB : norm B) (h0 : 0 < val B) : VF Try.prog 96 [u32S (A), u32S (B)] (.tup [u32S (dg (val A / val B)), u32S (dg (val A % val B))]) := by
  refine VF_of P_mixed Try.func96 rfl rfl (by kernel_rfl) <| Sq <| Rg <| Vs (As rfl) <| Vs (As rfl) <| Nx <| Sq <| Sq <| Rg <| Vs (Mv rfl) <| Vs (Mv rfl) <| Vs (Cf rfl rfl (f74 _ _ (by first | omega | assumption | (simp; done) | (simp; omega)) (by first | omega | assumption | (simp; done) | (simp; omega)) (nA.1) (nB.1) (fun h => cmp_len nA nB h)) rfl) <| Vs (Bi rfl) <| Nx <| Cd rfl (fun hc1 => ?_) (fun hc1 => ?_)
  · replace hc1 := of_decide_eq_true hc1
    refine Sq <| ?_
    have vA := val_nonneg nA.1
    have lt := cmp3_lt.1 hc1
    exact Rg <| Vs (Mv rfl) <| Vs (As rfl) <| Vs (As rfl) <| Nx <| Re <| Tr <| Fi (l := [u32S ([]), u32S (A)]) (Rc (resVar_tmp rfl rfl) (Rc (resVar_tmp rfl rfl) Rn)) (by rw [Int.ediv_eq_zero_of_lt vA lt, Int.emod_eq_of_lt vA lt, dg_zero, dg_val nA]; rfl)
  · replace hc1 := of_decide_eq_false hc1
    refine Ks <| Tg <| Sq <| Sq <| ?_
    have vA := val_nonneg nA.1
    have hge := mt cmp3_lt.2 hc1
    have hBA := norm_le_len nB nA (by omega)
    refine Rg <| Vs (Mv rfl) <| Vs (Ls TK52 rfl) <| Vs (Bi rfl) <| Nx <| Cd rfl (fun hc2 => ?_) (fun hc2 => ?_)
    · replace hc2 := eq_of_beq hc2
      refine Sq <| ?_
      have h1w := one_word (B := B) (by omega)
      have hb0 := ok32_getD nB.1 0
      have hm0 := Int.emod_nonneg (val A) (show B.getD 0 0 ≠ 0 by omega)
      have hm1 := Int.emod_lt_of_pos (val A) (show 0 < B.getD 0 0 by omega)
      exact Rg <| Vs (Mv rfl) <| Vs (Mv rfl) <| Vs (IxN (q := 0) TK52 rfl) <| Vs (Lq TA53 rfl) <| Vs (C0 rfl rfl (f60 _ _ (by first | omega | assumption | (simp; done) | (simp; omega)) (nA.1) (by omega) (by omega))) <| Vs (Mv rfl) <| Vs (Xt rfl) <| Vs (Xt rfl) <| Vs (As rfl) <| Vs (As rfl) <| Nx <| Sq <| Rg <| Vs (Mv rfl) <| Vs (Mv rfl) <| Vs (L1s 21 TK52 rfl) <| Vs (Cc rfl (Rk (Rr rfl) Rz) (f64 _ (by first | omega | assumption | (simp; done) | (simp; omega)) (ok32_cons.2 ⟨by omega, ok32_nil⟩))) <| Vs (As rfl) <| Vs (As rfl) <| Nx <| Re <| Tr <| Fi (l := [u32S (dg (val (A) / ((B).getD 0 0))), u32S (dg (val ([(val (A) % ((B).getD 0 0))])))]) (Rc (resVar_tmp rfl rfl) (Rc (resVar_tmp rfl rfl) Rn)) (by rw [h1w, show val [val A % B.getD 0 0] = val A % B.getD 0 0 by simp [val]]; rfl)
    · replace hc2 := ne_of_beq_false hc2
      refine Ks <| Tg <| Sq <| ?_
      have hx := ok32_getD nB.1 (((B).length : Int) - 1).toNat
      have hne : B.length ≠ 0 := fun e => (by rw [norm_zero nB e] at h0; omega)
      refine Rg <| Vs (Mv rfl) <| Vs (Mv rfl) <| Vs (Ls TK52 rfl) <| Vs (Bo rfl suI) <| Vs (Ix TK52 rfl) <| Vs (Lq TA53 rfl) <| Vs (Cf rfl rfl (f81 _ (hx.1) (hx.2)) rfl) <| Vs (As rfl) <| Nx <| VCode.join (α := (Nat)) (fun s => (0, sl [(0, vS (A)), (1, vS (B)), (8, vI .i64 ((s : Int))), (9, vS (dg (val B * 2 ^ s)))], en [])) (fun s => s + blen (B.getD (B.length - 1) 0).toNat = 32) ?_ ?_
      · skip
        exact Rg <| Vs (Mv rfl) <| Vs (Mv rfl) <| Vs (C0 rfl rfl (f67 _ _ (by first | omega | assumption | (simp; done) | (simp; omega)) (nB.1) (by first | omega | assumption | (simp; done) | (simp; omega)) (by first | omega | assumption | (simp; done) | (simp; omega)))) <| Vs (As rfl) <| VList.nil <| Jg (32 - blen ((B).getD (((B).length : Int) - 1).toNat 0).toNat) (by have := (blen_lt 32 (B.getD (B.length - 1) 0).toNat).2 (by have := ok32_getD nB.1 (B.length - 1); omega); rw [show (((B).length : Int) - 1).toNat = B.length - 1 by omega]; omega) Wk
      · intro s hok
        obtain ⟨w1, w2, w3, w4⟩ := shifted (q := B.length - 1) nB (by omega) hok
        have hp2 := two_pow_pos s
        have oV := ok32_dg (val B * 2 ^ s)
        have hV : 0 < val (dg (val B * 2 ^ s)) := (by rw [w3]; exact Int.mul_pos h0 hp2)
        change VCode _ _ _ 0 (sl _) (en _) _
        refine Sq <| Rg <| Vs (Mv rfl) <| Vs (Ls TK52 rfl) <| Vs (Bo rfl adI) <| Vs (Mk 3 TK52 rfl) <| Vs (As rfl) <| Nx <| Sq <| Rg <| Vs (Mv rfl) <| Vs (Mv rfl) <| Vs (Mv rfl) <| Vs (C0 rfl rfl (f67 _ _ (by first | omega | assumption | (simp; done) | (simp; omega)) (nA.1) (by first | omega | assumption | (simp; done) | (simp; omega)) (by first | omega | assumption | (simp; done) | (simp; omega)))) <| Vs (Cp TK52 rfl rfl) <| Nx <| Sq <| Rg <| Vs (Mv rfl) <| Vs (Ls TK52 rfl) <| Vs (Mv rfl) <| Vs (Ls TK52 rfl) <| Vs (Bo rfl suI) <| Vs (Bo rfl adI) <| Vs (Mk 16 TK52 rfl) <| Vs (As rfl) <| Nx <| Sq <| Sq <| Rg <| Vs (Mv rfl) <| Vs (Lo TU52 rfl) <| Vs (Mv rfl) <| Nx <| Bk <| VCode.loop (α := (Nat) × (List Int) × (List Int)) (fun x_ => match x_ with | (k, O, Q) => (17, sl [(8, vI .i64 ((s : Int))), (9, vS (dg (val B * 2 ^ s))), (10, .own 3 (((((A).length : Int) + 1)).toNat)), (11, .own 16 ((((((A).length : Int) - ((B).length : Int)) + 1)).toNat)), (63, vI .i64 ((((((((A).length : Int) - ((B).length : Int)) + 1)).toNat : Nat) : Int))), (64, vI .i64 ((k : Int)))], en [(3, rowK .u32 (O)), (16, rowK .u32 (Q))])) (fun x_ => match x_ with | (k, O, Q) => k ≤ (A.length - B.length + 1) ∧ DivInv (val A * 2 ^ s) (dg (val B * 2 ^ s)) O Q (A.length - B.length + 1) ((A.length - B.length + 1) - k)) (fun x_ => match x_ with | (k, O, Q) => (A.length - B.length + 1) - k) (0, (dg (val A * 2 ^ s)).take (Nat.min (dg (val A * 2 ^ s)).length (((A).length : Int) + 1).toNat) ++ (List.replicate (((A).length : Int) + 1).toNat 0).drop (Nat.min (dg (val A * 2 ^ s)).length (((A).length : Int) + 1).toNat), List.replicate ((((A).length : Int) - ((B).length : Int)) + 1).toNat 0) ⟨by omega, by rw [Nat.sub_zero]; exact div_start nA nB hne hBA w4 w3 w1 (by omega) rfl (by omega)⟩ Wk ?_
        rintro ⟨k, O, Q⟩ hok3
        change VCode _ _ _ 17 (sl _) (en _) _
        refine Sq <| Rg <| Vs (Bi rfl) <| Nx <| Sq <| Cd rfl (fun hc3 => ?_) (fun hc3 => ?_)
        · replace hc3 := of_decide_eq_true hc3
          refine Ks <| Tg <| Sq <| Bk <| Sq <| Rg <| Vs (Mv rfl) <| Vs (As rfl) <| Nx <| Sq <| ?_
          obtain ⟨j, hj⟩ : ∃ j : Nat, j + 1 + k = (A.length - B.length + 1) := ⟨A.length - B.length - k, by omega⟩
          have hD : DivInv (val A * 2 ^ s) (dg (val B * 2 ^ s)) O Q (A.length - B.length + 1) (j + 1) := (by have h := hok3.2; rwa [show (A.length - B.length + 1) - k = j + 1 by omega] at h)
          have hol := hD.olen
          have hql := hD.qlen
          have hv2 : 2 ≤ ((dg (val B * 2 ^ s))).length := (by rw [w1]; omega)
          have hF : DigFix (val (O.drop j)) (val (dg (val B * 2 ^ s))) (((dg (val B * 2 ^ s))).getD (((((dg (val B * 2 ^ s))).length : Int) - 1)).toNat 0) (((dg (val B * 2 ^ s))).getD (((((dg (val B * 2 ^ s))).length : Int) - 2)).toNat 0) ((O).getD (((((j : Nat) : Int) + (((dg (val B * 2 ^ s))).length : Int)) - 1)).toNat 0) ((O).getD (((((j : Nat) : Int) + (((dg (val B * 2 ^ s))).length : Int)) - 2)).toNat 0) ((((O).getD ((((j : Nat) : Int) + (((dg (val B * 2 ^ s))).length : Int))).toNat 0 * 4294967296) + (O).getD (((((j : Nat) : Int) + (((dg (val B * 2 ^ s))).length : Int)) - 1)).toNat 0)) (4294967296 ^ (((dg (val B * 2 ^ s))).length - 2)) := digFix' hD.ok oV hv2 (by omega) hD.lt (by rw [w1]; exact w2) (by omega) (by omega) (by omega) (by omega) (by omega)
          have hs := digF_spec hF
          exact Rg <| Vs (Mv rfl) <| Vs (Lo TU52 rfl) <| Vs (Bo rfl suI) <| Vs (Mv rfl) <| Vs (Bo (c := .int .i64 ((j : Int))) rfl (by rw [bop_sub_i64 (by omega)]; exact congrArg (fun z => some (Value.int .i64 z)) (by omega))) <| Vs (As rfl) <| Nx <| Rg <| Vs (Mv rfl) <| Vs (Mv rfl) <| Vs (Mv rfl) <| Vs (Mv rfl) <| Vs (Mv rfl) <| Vs (Mv rfl) <| Vs (Mv rfl) <| Vs (Mv rfl) <| Vs (Cf rfl (Rk (Rr rfl) (Rk rfl (Rk rfl Rz))) (f83 _ _ _ _ (by omega) (by omega) (hD.ok) (oV) (hv2) (by omega) (hF)) rfl) <| Vs (Cm rfl rfl (f82 _ _ _ _ (by omega) (hD.ok) (oV) (⟨hs.1, hs.2.1⟩) (by omega) (fun k hk => hD.high oV hk) (hs.2.2.1) (hs.2.2.2) (hV))) <| Vs (IrN TK52 rfl) <| Vs (SrK TS53 rfl) <| VList.nil <| Ig <| Tg <| Rg <| Vs (Bo rfl adI) <| Vs (Mv rfl) <| VList.nil <| Go (k + 1, pad (O).length (took (O) (dg (val B * 2 ^ s)) (j)), (Q).set (j) (val ((O).drop (j)) / val (dg (val B * 2 ^ s)))) ⟨by omega, by rw [show A.length - B.length + 1 - (k + 1) = j by omega]; exact hD.step oV hV⟩ Wk
        · replace hc3 := of_decide_eq_false hc3
          refine Ke <| Te <| Oe <| Ih <| Tg <| Sq <| ?_
          have hle := hok3.1
          have hD : DivInv (val A * 2 ^ s) (dg (val B * 2 ^ s)) O Q (A.length - B.length + 1) 0 := (by have h := hok3.2; rwa [show (A.length - B.length + 1) - k = 0 by omega] at h)
          obtain ⟨f1, f2, f3⟩ := hD.fin h0 w3 vA
          have vO := val_nonneg hD.ok
          have hol := hD.olen
          have hql := hD.qlen
          exact Rg <| Vs (Mv rfl) <| Vs (Cc rfl (Rk (Rr rfl) Rz) (f64 _ (by omega) (hD.ok))) <| Vs (Mv rfl) <| Vs (C0 rfl rfl (f68 _ _ (Nat.le_trans ((len_dg vO O.length).2 (val_lt hD.ok)) (by omega)) (norm_dg _) (by first | omega | assumption | (simp; done) | (simp; omega)) (by first | omega | assumption | (simp; done) | (simp; omega)))) <| Vs (Mv rfl) <| Vs (Xt rfl) <| Vs (Xt rfl) <| Vs (As rfl) <| Vs (As rfl) <| Nx <| Sq <| Rg <| Vs (Mv rfl) <| Vs (Cc rfl (Rk (Rr rfl) Rz) (f64 _ (by first | omega | assumption | (simp; done) | (simp; omega)) (f1))) <| Vs (Mv rfl) <| Vs (As rfl) <| Vs (As rfl) <| Nx <| Re <| Fi (l := [u32S (dg (val (Q))), u32S (dg (val (dg (val (O))) / 2 ^ ((s : Int)).toNat))]) (Rc (resVar_tmp rfl rfl) (Rc (resVar_tmp rfl rfl) Rn)) (by rw [val_dg vO, Int.toNat_natCast, f3, f2]; rfl)
end Go.VL

/- Walks over the Go functions, printed by a program of this session over the kit's print, and by hand. -/
set_option linter.unusedVariables false
set_option linter.unusedSimpArgs false
namespace Go.VL
open Go.Proofs
theorem f31 (n : Bool) (A : List Int) (m : Bool) (B : List Int) (hA : A.length ≤ 9223372036854775807) (hB : B.length ≤ 9223372036854775807) (oA : ok32 A) (oB : ok32 B) : VF Try.prog 77 [.agg [boolB (n), u32S (A)], .agg [boolB (m), u32S (B)]] (gR (validB n A && validB m B) ((Int.gcd (zOf n A) (zOf m B) : Nat) : Int)) := by
  refine VF_of P_mixed Try.func77 rfl rfl (by kernel_rfl) <| Sq <| Rg <| Vs (Bx 0 rfl) <| Vs (Bx 1 rfl) <| Vs (Al 2 TZ55 rfl) <| Vs (As rfl) <| Nx <| Sq <| Sq <| Rg <| Vs (LdS TA55 TS55 rfl) <| Vs (LdS TA55 TS55 rfl) <| Vs (Cf rfl rfl (f50 _ _ _ _ (by first | omega | assumption | (simp; done) | (simp; omega)) (by first | omega | assumption | (simp; done) | (simp; omega))) rfl) <| Vs (Un rfl) <| Nx <| Cd rfl (fun hc1 => ?_) (fun hc1 => ?_)
  · replace hc1 := (bnot_t hc1)
    exact Sq <| Rg <| Vs (Bd TQ55 rfl) <| Vs (StS TS55 rfl) <| Vs (As rfl) <| Nx <| Re <| Tr <| Fi (l := [.agg [boolB (false), u32S ([])], numB .i64 (1)]) (Rc (resVar_cell rfl rfl TA55 TS55 (Nat.le_of_ble_eq_true rfl) rfl) (Rc (resVar_tmp rfl rfl) Rn)) (by rw [gR_false hc1]; rfl)
  · replace hc1 := (bnot_f hc1)
    refine Ks <| Tg <| Sq <| ?_
    obtain ⟨v1, v2⟩ := Bool.and_eq_true_iff.1 hc1
    obtain ⟨nA, lA, sA⟩ := valid_norm oA v1
    obtain ⟨nB, lB, sB⟩ := valid_norm oB v2
    refine Rd (by kernel_rfl) <| Vl (Fa TF55_1 rfl) <| Vl (Ld TA52 rfl) <| Vl (Fa TF55_1 rfl) <| Vl (Ld TA52 rfl) <| Vl (As rfl) <| Vl (As rfl) <| ?_
    refine VLog.nil ⟨by kernel_rfl, ?_⟩
    refine Tg <| VCode.join (α := (List Int) × (List Int)) (fun x_ => match x_ with | (X, Y) => (3, sl [(4, .ptr 2 (0)), (6, vS (X)), (7, vS (Y))], en [(2, ⟨2, [vB (false), vS ([])], true⟩)])) (fun x_ => match x_ with | (X, Y) => (norm X ∧ norm Y) ∧ (X.length ≤ 128 ∧ Y.length ≤ 2) ∧ Int.gcd (val X) (val Y) = Int.gcd (val A) (val B) ∧ (X.length > 2 → Y.length = 0)) ?_ ?_
    · skip
      refine Bk <| VCode.loop (α := (List Int) × (List Int)) (fun x_ => match x_ with | (X, Y) => (3, sl [(4, .ptr 2 (0)), (6, vS (X)), (7, vS (Y))], en [(2, ⟨2, [vB (false), vS ([])], true⟩)])) (fun x_ => match x_ with | (X, Y) => (norm X ∧ norm Y) ∧ (X.length ≤ 128 ∧ Y.length ≤ 128) ∧ Int.gcd (val X) (val Y) = Int.gcd (val A) (val B)) (fun x_ => match x_ with | (X, Y) => (val Y).toNat) (A, B) ⟨⟨nA, nB⟩, ⟨lA, lB⟩, rfl⟩ Wk ?_
      rintro ⟨X, Y⟩ hok
      obtain ⟨⟨nX, nY⟩, ⟨lX, lY⟩, hg⟩ := hok
      change VCode _ _ _ 3 (sl _) (en _) _
      refine Sq <| Sq <| Rg <| Vs (Mv rfl) <| Vs (Ls TK52 rfl) <| Vs (Bi rfl) <| Vs (Mv rfl) <| Sp 24 rfl (fun hc2 => ?_) (fun hc2 => ?_)
      · replace hc2 := of_decide_eq_true hc2
        refine Vs (Mv rfl) <| Vs (Ls TK52 rfl) <| Vs (Bi rfl) <| Vs (Mv rfl) <| Sp 28 rfl (fun hc3 => ?_) (fun hc3 => ?_)
        · replace hc3 := of_decide_eq_true hc3
          refine Sk rfl <| Sk rfl <| Sk rfl <| Vs (Pk rfl) <| Vs (Pk rfl) <| Nx <| Cy rfl <| Ks <| Tg <| Bk <| Sq <| ?_
          have yP := norm_pos nY (fun e => by rw [e] at hc2; simp at hc2)
          have m0 := Int.emod_nonneg (val X) (show val Y ≠ 0 by omega)
          have m1 := Int.emod_lt_of_pos (val X) yP
          have hR : (dg (val X % val Y)).length ≤ 128 := Nat.le_trans (len_le nY.1 m0 (Int.le_of_lt m1)) lY
          exact Rg <| Vs (Mv rfl) <| Vs (Mv rfl) <| Vs (C0 rfl rfl (f51 _ _ (by first | omega | assumption | (simp; done) | (simp; omega)) (by first | omega | assumption | (simp; done) | (simp; omega)) (nX) (nY) (yP))) <| Vs (Mv rfl) <| Vs (Xt rfl) <| Vs (Xt rfl) <| Vs (As rfl) <| Vs (As rfl) <| Nx <| Rg <| Vs (Mv rfl) <| Vs (Mv rfl) <| Vs (As rfl) <| Vs (As rfl) <| VList.nil <| Ig <| Go (Y, dg (val X % val Y)) ⟨⟨nY, norm_dg _⟩, ⟨lY, hR⟩, by rw [val_dg m0, gcd_swap (val_nonneg nX.1) (Int.le_of_lt yP), hg]⟩ Wk (by show (val (dg (val X % val Y))).toNat < (val Y).toNat; rw [val_dg m0]; omega)
        · replace hc3 := of_decide_eq_false hc3
          refine Vs (Mv rfl) <| Vs (Ls TK52 rfl) <| Vs (Bi rfl) <| Vs (Pk rfl) <| Vs (Pk rfl) <| Nx <| Cd rfl (fun hc4 => ?_) (fun hc4 => ?_)
          · replace hc4 := of_decide_eq_true hc4
            refine Ks <| Tg <| Bk <| Sq <| ?_
            have yP := norm_pos nY (fun e => by rw [e] at hc2; simp at hc2)
            have m0 := Int.emod_nonneg (val X) (show val Y ≠ 0 by omega)
            have m1 := Int.emod_lt_of_pos (val X) yP
            have hR : (dg (val X % val Y)).length ≤ 128 := Nat.le_trans (len_le nY.1 m0 (Int.le_of_lt m1)) lY
            exact Rg <| Vs (Mv rfl) <| Vs (Mv rfl) <| Vs (C0 rfl rfl (f51 _ _ (by first | omega | assumption | (simp; done) | (simp; omega)) (by first | omega | assumption | (simp; done) | (simp; omega)) (nX) (nY) (yP))) <| Vs (Mv rfl) <| Vs (Xt rfl) <| Vs (Xt rfl) <| Vs (As rfl) <| Vs (As rfl) <| Nx <| Rg <| Vs (Mv rfl) <| Vs (Mv rfl) <| Vs (As rfl) <| Vs (As rfl) <| VList.nil <| Ig <| Go (Y, dg (val X % val Y)) ⟨⟨nY, norm_dg _⟩, ⟨lY, hR⟩, by rw [val_dg m0, gcd_swap (val_nonneg nX.1) (Int.le_of_lt yP), hg]⟩ Wk (by show (val (dg (val X % val Y))).toNat < (val Y).toNat; rw [val_dg m0]; omega)
          · replace hc4 := of_decide_eq_false hc4
            exact Ke <| Te <| Oe <| Ih <| Jg (X, Y) ⟨⟨nX, nY⟩, ⟨lX, by omega⟩, hg, by omega⟩ Wk
      · replace hc2 := of_decide_eq_false hc2
        exact Sk rfl <| Sk rfl <| Sk rfl <| Sk rfl <| Sk rfl <| Sk rfl <| Sk rfl <| Sk rfl <| Vs (Pk rfl) <| Nx <| Cz rfl <| Ke <| Te <| Oe <| Ih <| Jg (X, Y) ⟨⟨nX, nY⟩, ⟨lX, by omega⟩, hg, by omega⟩ Wk
    · rintro ⟨X, Y⟩ hok
      obtain ⟨⟨nX, nY⟩, ⟨lX, lY⟩, hg, hXY⟩ := hok
      change VCode _ _ _ 3 (sl _) (en _) _
      refine Sq <| Sq <| Rg <| Vs (Mv rfl) <| Vs (Ls TK52 rfl) <| Vs (Bi rfl) <| Nx <| Cd rfl (fun hc5 => ?_) (fun hc5 => ?_)
      · replace hc5 := of_decide_eq_true hc5
        exact Sq <| Rg <| Vs (Mv rfl) <| Vs (C0 rfl rfl (f54 _ _ (by first | omega | assumption | (simp; done) | (simp; omega)) (nX.1))) <| Vs (Xt rfl) <| Vs (Xt rfl) <| Vs (StS TS55 rfl) <| Vs (As rfl) <| Nx <| Re <| Tr <| Fi (l := [.agg [boolB (zN (sg (false) (val (X)))), u32S (zL (sg (false) (val (X))))], numB .i64 (zE (sg (false) (val (X))))]) (Rc (resVar_cell rfl rfl TA55 TS55 (Nat.le_of_ble_eq_true rfl) rfl) (Rc (resVar_tmp rfl rfl) Rn)) (by rw [gR_true hc1, gcd_sg, ← hg, norm_zero nY (hXY (by omega)), gcd_val_zero (val_nonneg nX.1)]; rfl)
      · replace hc5 := of_decide_eq_false hc5
        refine Ks <| Tg <| Sq <| ?_
        have wX := word_lt nX.1 (by omega)
        have wY := word_lt nY.1 (by omega)
        refine Rg <| Vs (Mv rfl) <| Vs (Cf rfl rfl (f69 _ (by first | omega | assumption | (simp; done) | (simp; omega)) (nX.1)) rfl) <| Vs (Mv rfl) <| Vs (Cf rfl rfl (f69 _ (by first | omega | assumption | (simp; done) | (simp; omega)) (nY.1)) rfl) <| Vs (As rfl) <| Vs (As rfl) <| Nx <| Sq <| Bk <| VCode.loop (α := (Int) × (Int)) (fun x_ => match x_ with | (x, y) => (3, sl [(4, .ptr 2 (0)), (10, vI .u64 (x)), (11, vI .u64 (y))], en [(2, ⟨2, [vB (false), vS ([])], true⟩)])) (fun x_ => match x_ with | (x, y) => (0 ≤ x ∧ x < 18446744073709551616) ∧ (0 ≤ y ∧ y < 18446744073709551616) ∧ Int.gcd x y = Int.gcd (val A) (val B)) (fun x_ => match x_ with | (x, y) => y.toNat) (val X, val Y) ⟨wX, wY, hg⟩ Wk ?_
        rintro ⟨x, y⟩ hok2
        obtain ⟨hx, hy, hg2⟩ := hok2
        change VCode _ _ _ 3 (sl _) (en _) _
        refine Sq <| Sq <| Rg <| Vs (Mv rfl) <| Vs (Bi rfl) <| Nx <| Cd rfl (fun hc6 => ?_) (fun hc6 => ?_)
        · replace hc6 := of_decide_eq_true hc6
          refine Ks <| Tg <| Bk <| Rd (by kernel_rfl) <| Vl (Mv rfl) <| Vl (Mv rfl) <| Vl (Mv rfl) <| Vl (Bo rfl reW) <| Vl (As rfl) <| Vl (As rfl) <| ?_
          refine VLog.nil ⟨by kernel_rfl, ?_⟩
          exact Ig <| Go (y, x % y) (by have e1 := Int.emod_nonneg x (show y ≠ 0 by omega); have e2 := Int.emod_lt_of_pos x (show 0 < y by omega); exact ⟨hy, by omega, by rw [gcd_swap hx.1 hy.1, hg2]⟩) Wk (by have e1 := Int.emod_nonneg x (show y ≠ 0 by omega); have e2 := Int.emod_lt_of_pos x (show 0 < y by omega); show (x % y).toNat < y.toNat; omega)
        · replace hc6 := of_decide_eq_false hc6
          exact Ke <| Te <| Oe <| Ih <| Tg <| Sq <| Rg <| Vs (Mv rfl) <| Vs (Cv TU22 TU53 rfl (wrapM_u32 _)) <| Vs (Mv rfl) <| Vs (Bo rfl (srW 4294967296)) <| Vs (Cv TU22 TU53 rfl (wrapM_u32 _)) <| Vs (L2s 10 TK52 rfl) <| Vs (Cc rfl (Rk rfl (Rk (Rr rfl) Rz)) (f54 _ _ (by simp) (ok32_two (by omega) (by omega)))) <| Vs (Xt rfl) <| Vs (Xt rfl) <| Vs (StS TS55 rfl) <| Vs (As rfl) <| Nx <| Re <| Fi (l := [.agg [boolB (zN (sg (false) (val ([((x) % 4294967296), (((x / 4294967296)) % 4294967296)])))), u32S (zL (sg (false) (val ([((x) % 4294967296), (((x / 4294967296)) % 4294967296)]))))], numB .i64 (zE (sg (false) (val ([((x) % 4294967296), (((x / 4294967296)) % 4294967296)]))))]) (Rc (resVar_cell rfl rfl TA55 TS55 (Nat.le_of_ble_eq_true rfl) rfl) (Rc (resVar_tmp rfl rfl) Rn)) (by rw [gR_true hc1, gcd_sg, gcd_words x hx.1 hx.2, ← hg2, show y = 0 by omega, gcd_val_zero hx.1]; rfl)
end Go.VL

/- Walks over the Go functions, printed by a program of this session over the kit's print, and by hand. -/
set_option linter.unusedVariables false
set_option linter.unusedSimpArgs false
namespace Go.VL
open Go.Proofs
end Go.VL

/- Walks over the Go functions, printed by a program of this session over the kit's print, and by hand. -/
set_option linter.unusedVariables false
set_option linter.unusedSimpArgs false
namespace Go.VL
open Go.Proofs
end Go.VL

/- Walks over the Go functions, printed by a program of this session over the kit's print, and by hand. -/
set_option linter.unusedVariables false
set_option linter.unusedSimpArgs false
namespace Go.VL
open Go.Proofs
end Go.VL

/- Plain laws of equal integers and of numbers given back. No program here. -/
set_option linter.unusedVariables false
set_option linter.unusedSimpArgs false
namespace Go.VL

def sameB (n : Bool) (A : List Int) (m : Bool) (B : List Int) : Bool := decide (n = m ∧ A = B)
theorem sameB_sign {n m : Bool} {A B : List Int} (h : ¬ n = m) : sameB n A m B = false := by unfold sameB; simp [h]
theorem sameB_len {n m : Bool} {A B : List Int} (h : A.length ≠ B.length) : sameB n A m B = false := by
  unfold sameB; rw [decide_eq_false_iff_not]; intro hc; exact h (by rw [hc.2])
theorem sameB_at {n m : Bool} {A B : List Int} {i : Nat} (h : A.getD i 0 ≠ B.getD i 0) : sameB n A m B = false := by
  unfold sameB; rw [decide_eq_false_iff_not]; intro hc; exact h (by rw [hc.2])
theorem sameB_yes {n m : Bool} {A B : List Int} (h : n = m) (hl : A.length = B.length) (hg : ∀ i, i < A.length → A.getD i 0 = B.getD i 0) : sameB n A m B = true := by
  unfold sameB; rw [decide_eq_true_iff]; exact ⟨h, list_ext_getD hl hg⟩
theorem sameB_refl (n : Bool) (A : List Int) : sameB n A n A = true := by unfold sameB; simp
theorem sameB_iff {n m : Bool} {A B : List Int} : sameB n A m B = true ↔ n = m ∧ A = B := by unfold sameB; rw [decide_eq_true_iff]
/-- What a number gives back is valid and stands for it. -/
theorem z_big {z : Int} (h : inB z = false) : zN z = false ∧ zL z = [] := by simp [zN, zL, h]
theorem z_in {z : Int} (h : inB z = true) : zN z = decide (z < 0) ∧ zL z = dg z.natAbs := by simp [zN, zL, h]
theorem zOf_z {z : Int} (h : inB z = true) : zOf (zN z) (zL z) = z := by
  obtain ⟨h1, h2⟩ := z_in h
  rw [zOf, h1, h2, val_dg (by omega)]
  unfold sg
  by_cases h0 : z < 0
  · rw [if_pos (by simpa using h0)]; omega
  · rw [if_neg (by simpa using h0)]; omega
theorem ok32_zL (z : Int) : ok32 (zL z) := by
  unfold zL; split
  · exact ok32_dg _
  · exact ok32_nil
theorem len_zL (z : Int) : (zL z).length ≤ 128 := by
  by_cases h : inB z = true
  · rw [(z_in h).2]
    refine (len_limit (by omega)).2 ?_
    simpa [inB] using h
  · rw [(z_big (by simpa using h)).2]; simp
theorem valid_zz (z : Int) : validB (zN z) (zL z) = true := by
  by_cases h : inB z = true
  · obtain ⟨h1, h2⟩ := z_in h
    by_cases hl : (zL z).length = 0
    · rw [validB_nil hl, h1]
      rw [h2] at hl
      have := (dg_nil (show 0 ≤ (z.natAbs : Int) by omega)).1 hl
      have h3 : ¬ z < 0 := by omega
      simp [h3]
    · rw [validB_some hl (len_zL z) rfl]
      have := (norm_dg (z.natAbs : Int)).2
      rw [← h2] at this
      rw [bne_iff_ne]
      exact this.resolve_left hl
  · obtain ⟨h1, h2⟩ := z_big (show inB z = false by simpa using h)
    rw [h1, h2]; rfl
theorem zOf_big {z : Int} (h : inB z = false) : zOf (zN z) (zL z) = 0 := by
  obtain ⟨h1, h2⟩ := z_big h
  rw [h1, h2]; rfl
/-- A valid integer is what its number gives back. -/
theorem in_of_valid {n : Bool} {A : List Int} (oA : ok32 A) (h : validB n A = true) : inB (zOf n A) = true := by
  obtain ⟨nA, lA, sA⟩ := valid_norm oA h
  rw [zOf, inB_sg (val_nonneg oA), decide_eq_true_iff]
  exact val_limit oA lA
theorem z_of {n : Bool} {A : List Int} (oA : ok32 A) (h : validB n A = true) : zN (zOf n A) = n ∧ zL (zOf n A) = A := by
  obtain ⟨nA, lA, sA⟩ := valid_norm oA h
  obtain ⟨h1, h2⟩ := z_in (in_of_valid oA h)
  have vA := val_nonneg oA
  refine ⟨?_, ?_⟩
  · rw [h1, sg_neg vA]
    cases n
    · rfl
    · have := neg_pos nA sA rfl
      simp [this]
  · rw [h2, sg_abs vA, dg_val nA]
/-- Two numbers in the range are the same integer if they are equal. -/
theorem same_zz {y z : Int} (hy : inB y = true) (hz : inB z = true) : sameB (zN y) (zL y) (zN z) (zL z) = decide (y = z) := by
  rw [Bool.eq_iff_iff, sameB_iff, decide_eq_true_iff]
  refine ⟨fun h => ?_, fun h => by subst h; exact ⟨rfl, rfl⟩⟩
  rw [← zOf_z hy, ← zOf_z hz, h.1, h.2]
theorem small_in {z : Int} (h1 : -9223372036854775808 ≤ z) (h2 : z ≤ 9223372036854775807) : inB z = true := by
  unfold inB limit
  rw [decide_eq_true_iff]
  have h3 := pow_mono (show 2 ≤ 128 by omega)
  have h4 : (4294967296 : Int) ^ 2 = 18446744073709551616 := rfl
  rw [h4] at h3
  omega
theorem zR_in {z : Int} (h : inB z = true) : zR z = .tup [intB (zN z) (zL z), numB .i64 0] := by rw [zR, zE_in.2 h]
theorem gR_in {ok : Bool} {z : Int} (ho : ok = true) (h : inB z = true) : gR ok z = .tup [intB (zN z) (zL z), numB .i64 0] := by rw [gR_true ho, zR_in h]
theorem okS_m0 : okS ⟨#[45, 48]⟩ = false := by decide +kernel
theorem txB_m12 : txB (-12) = ⟨#[45, 49, 50]⟩ := by
  have h : txD (((-12 : Int).natAbs : Nat) : Int) = [50, 49] := by
    have e : (((-12 : Int).natAbs : Nat) : Int) = 12 := rfl
    rw [e]
    unfold txD
    rw [if_neg (by decide)]
    have e2 : (12 : Int).toNat = 12 := rfl
    rw [e2, dd_pos (by decide), dd_pos (by decide), show 12 / 10 / 10 = 0 from rfl, dd_zero]
    rfl
  unfold txB txL
  rw [h]
  rfl
end Go.VL

/- Walks over the Go functions, printed by a program of this session over the kit's print, and by hand. -/
set_option linter.unusedVariables false
set_option linter.unusedSimpArgs false
namespace Go.VL
open Go.Proofs
theorem f26 (neg : Bool) (L : List Int) (hL : L.length ≤ 9223372036854775807) : VF Try.prog 57 [.agg [boolB (neg), u32S (L)]] (boolB (validB neg L)) := by
  refine VF_of P_mixed Try.func57 rfl rfl (by kernel_rfl) <| Sq <| Rg <| Vs (Bx 0 rfl) <| Vs (As rfl) <| Nx <| Sq <| Sq <| Rg <| Vs (Fa TF55_1 rfl) <| Vs (Ld TA52 rfl) <| Vs (Ls TK52 rfl) <| Vs (Bi rfl) <| Nx <| Cd rfl (fun hc1 => ?_) (fun hc1 => ?_)
  · replace hc1 := of_decide_eq_true hc1
    exact Sq <| Rg <| Vs (As rfl) <| Nx <| Re <| Tr <| Fi (l := [boolB (false)]) (Rc (resVar_tmp rfl rfl) Rn) (by rw [validB_long (by omega)]; rfl)
  · replace hc1 := of_decide_eq_false hc1
    refine Ks <| Tg <| Sq <| Sq <| Rg <| Vs (Fa TF55_1 rfl) <| Vs (Ld TA52 rfl) <| Vs (Ls TK52 rfl) <| Vs (Bi rfl) <| Nx <| Cd rfl (fun hc2 => ?_) (fun hc2 => ?_)
    · replace hc2 := eq_of_beq hc2
      exact Sq <| Rg <| Vs (Fa TF55_0 rfl) <| Vs (Ld TA4 rfl) <| Vs (Un rfl) <| Vs (As rfl) <| Nx <| Re <| Tr <| Fi (l := [boolB ((!neg))]) (Rc (resVar_tmp rfl rfl) Rn) (by rw [validB_nil (by omega)]; rfl)
    · replace hc2 := ne_of_beq_false hc2
      exact Ks <| Tg <| Sq <| Rg <| Vs (Fa TF55_1 rfl) <| Vs (Ld TA52 rfl) <| Vs (Fa TF55_1 rfl) <| Vs (Ld TA52 rfl) <| Vs (Ls TK52 rfl) <| Vs (Bo rfl suI) <| Vs (Ix TK52 rfl) <| Vs (Lq TA53 rfl) <| Vs (Bi rfl) <| Vs (As rfl) <| Nx <| Re <| Fi (l := [boolB (((L).getD ((((L).length : Int) - 1)).toNat 0 != 0))]) (Rc (resVar_tmp rfl rfl) Rn) (by rw [validB_some (q := ((((L).length : Int) - 1)).toNat) (by omega) (by omega) (by omega)]; rfl)
end Go.VL

/- Walks over the Go functions, printed by a program of this session over the kit's print, and by hand. -/
set_option linter.unusedVariables false
set_option linter.unusedSimpArgs false
namespace Go.VL
open Go.Proofs
theorem f18 (n : Bool) (A : List Int) (m : Bool) (B : List Int) (hA : A.length ≤ 9223372036854775807) (hB : B.length ≤ 9223372036854775807) (oA : ok32 A) (oB : ok32 B) : VF Try.prog 79 [.agg [boolB (n), u32S (A)], .agg [boolB (m), u32S (B)]] (dmR (validB n A && validB m B) (zOf n A) (zOf m B)) := by
  refine VF_of P_mixed Try.func79 rfl rfl (by kernel_rfl) <| Sq <| Rg <| Vs (Bx 0 rfl) <| Vs (Bx 1 rfl) <| Vs (Al 2 TZ55 rfl) <| Vs (Al 3 TZ55 rfl) <| Vs (As rfl) <| Nx <| Sq <| Sq <| Rg <| Vs (LdS TA55 TS55 rfl) <| Vs (LdS TA55 TS55 rfl) <| Vs (Cf rfl rfl (f50 _ _ _ _ (by first | omega | assumption | (simp; done) | (simp; omega)) (by first | omega | assumption | (simp; done) | (simp; omega))) rfl) <| Vs (Un rfl) <| Nx <| Cd rfl (fun hc1 => ?_) (fun hc1 => ?_)
  · replace hc1 := (bnot_t hc1)
    exact Sq <| Rg <| Vs (Bd TQ55 rfl) <| Vs (Bd TQ55 rfl) <| Vs (StS TS55 rfl) <| Vs (StS TS55 rfl) <| Vs (As rfl) <| Nx <| Re <| Tr <| Fi (l := [.agg [boolB (false), u32S ([])], .agg [boolB (false), u32S ([])], numB .i64 (1)]) (Rc (resVar_cell rfl rfl TA55 TS55 (Nat.le_of_ble_eq_true rfl) rfl) (Rc (resVar_cell rfl rfl TA55 TS55 (Nat.le_of_ble_eq_true rfl) rfl) (Rc (resVar_tmp rfl rfl) Rn))) (by rw [dmR_bad hc1]; rfl)
  · replace hc1 := (bnot_f hc1)
    refine Ks <| Tg <| Sq <| Sq <| ?_
    obtain ⟨v1, v2⟩ := Bool.and_eq_true_iff.1 hc1
    obtain ⟨nA, lA, sA⟩ := valid_norm oA v1
    obtain ⟨nB, lB, sB⟩ := valid_norm oB v2
    refine Rg <| Vs (Fa TF55_1 rfl) <| Vs (Ld TA52 rfl) <| Vs (Ls TK52 rfl) <| Vs (Bi rfl) <| Nx <| Cd rfl (fun hc2 => ?_) (fun hc2 => ?_)
    · replace hc2 := eq_of_beq hc2
      exact Sq <| Rg <| Vs (Bd TQ55 rfl) <| Vs (Bd TQ55 rfl) <| Vs (StS TS55 rfl) <| Vs (StS TS55 rfl) <| Vs (As rfl) <| Nx <| Re <| Tr <| Fi (l := [.agg [boolB (false), u32S ([])], .agg [boolB (false), u32S ([])], numB .i64 (4)]) (Rc (resVar_cell rfl rfl TA55 TS55 (Nat.le_of_ble_eq_true rfl) rfl) (Rc (resVar_cell rfl rfl TA55 TS55 (Nat.le_of_ble_eq_true rfl) rfl) (Rc (resVar_tmp rfl rfl) Rn))) (by rw [dmR_zero hc1 (by rw [zOf, norm_zero nB (by omega), sg_zero])]; rfl)
    · replace hc2 := ne_of_beq_false hc2
      refine Ks <| Tg <| Sq <| ?_
      have vA := val_nonneg oA
      have bP := norm_pos nB (fun e => hc2 (by rw [e]; rfl))
      have q0 := Int.ediv_nonneg vA (Int.le_of_lt bP)
      have m0 := Int.emod_nonneg (val A) (show val B ≠ 0 by omega)
      have m1 := Int.emod_lt_of_pos (val A) bP
      have hq1 : (dg (val A / val B)).length ≤ 128 := Nat.le_trans (len_le oA q0 (Int.ediv_le_self _ vA)) lA
      have hr1 : (dg (val A % val B)).length ≤ B.length := len_le oB m0 (Int.le_of_lt m1)
      have hy : zOf m B ≠ 0 := fun e => (by have := sg_zero.1 e; omega)
      refine Rg <| Vs (Fa TF55_1 rfl) <| Vs (Ld TA52 rfl) <| Vs (Fa TF55_1 rfl) <| Vs (Ld TA52 rfl) <| Vs (C0 rfl rfl (f51 _ _ (by first | omega | assumption | (simp; done) | (simp; omega)) (by first | omega | assumption | (simp; done) | (simp; omega)) (nA) (nB) (by first | omega | assumption | (simp; done) | (simp; omega)))) <| Vs (Mv rfl) <| Vs (Xt rfl) <| Vs (Xt rfl) <| Vs (As rfl) <| Vs (As rfl) <| Nx <| VCode.join (α := (List Int) × (List Int)) (fun x_ => match x_ with | (Q, R) => (4, sl [(2, .ptr 0 (0)), (3, .ptr 1 (0)), (4, .ptr 2 (0)), (5, .ptr 3 (0)), (7, vS (Q)), (8, vS (R))], en [(0, ⟨2, [vB (n), vS (A)], true⟩), (1, ⟨2, [vB (m), vS (B)], true⟩), (2, ⟨2, [vB (false), vS ([])], true⟩), (3, ⟨2, [vB (false), vS ([])], true⟩)])) (fun x_ => match x_ with | (Q, R) => (norm Q ∧ norm R) ∧ (sg (!(n == m)) (val Q) = (zOf n A).fdiv (zOf m B) ∧ sg m (val R) = (zOf n A).fmod (zOf m B)) ∧ Q.length ≤ 1000000000 ∧ R.length ≤ 1000000000) ?_ ?_
      · skip
        refine Sq <| Rg <| Vs (Fa TF55_0 rfl) <| Vs (Ld TA4 rfl) <| Vs (Fa TF55_0 rfl) <| Vs (Ld TA4 rfl) <| Vs (Bb TU4 rfl) <| Vs (Mv rfl) <| Sp 38 rfl (fun hc3 => ?_) (fun hc3 => ?_)
        · replace hc3 := ne_of_beq_false (bnot_t hc3)
          refine Vs (Mv rfl) <| Vs (Ls TK52 rfl) <| Vs (Bi rfl) <| Vs (Pk rfl) <| Nx <| Cd rfl (fun hc4 => ?_) (fun hc4 => ?_)
          · replace hc4 := of_decide_eq_true hc4
            exact Sq <| Rg <| Vs (Mv rfl) <| Vs (L1s 34 TK52 rfl) <| Vs (Cc rfl (Rk rfl (Rk (Rr rfl) Rz)) (f52 _ _ (by first | omega | assumption | (simp; done) | (simp; omega)) (by first | omega | assumption | (simp; done) | (simp; omega)) (ok32_dg _) (ok32_cons.2 ⟨by omega, ok32_nil⟩))) <| Vs (As rfl) <| Nx <| Rg <| Vs (Fa TF55_1 rfl) <| Vs (Ld TA52 rfl) <| Vs (Mv rfl) <| Vs (C0 rfl rfl (f53 _ _ (by first | omega | assumption | (simp; done) | (simp; omega)) (by first | omega | assumption | (simp; done) | (simp; omega)) (oB) (ok32_dg _) (by first | omega | assumption | (simp; done) | (simp; omega)) ((by rw [val_dg m0]; omega)))) <| Vs (As rfl) <| VList.nil <| Jg (dg (val (dg (val A / val B)) + val ([1])), dg (val B - val (dg (val A % val B)))) (by obtain ⟨e1, e2⟩ := fdiv_odd (a := val A) hc3 vA bP (by have := dg_nil m0; omega); refine ⟨⟨norm_dg _, norm_dg _⟩, ⟨?_, ?_⟩, add_len (ok32_dg _) (B := [1]) (ok32_cons.2 ⟨by omega, ok32_nil⟩) hq1 (by simp), sub_len oB (ok32_dg _) lB⟩; rw [zOf, zOf, e1, val_dg q0, val_dg (by simp [val]; omega)]; simp [sg, hc3, val]; rw [zOf, zOf, e2, val_dg m0, val_dg (by omega)]) Wk
          · replace hc4 := of_decide_eq_false hc4
            exact Ks <| Jg (dg (val A / val B), dg (val A % val B)) (by obtain ⟨e1, e2⟩ := fdiv_even (a := val A) hc3 vA bP (by have := dg_nil m0; omega); refine ⟨⟨norm_dg _, norm_dg _⟩, ⟨?_, ?_⟩, by omega, by omega⟩; rw [zOf, zOf, e1, val_dg q0]; simp [sg, hc3]; rw [zOf, zOf, e2, val_dg m0]) Wk
        · replace hc3 := eq_of_beq (bnot_f hc3)
          exact Sk rfl <| Sk rfl <| Sk rfl <| Vs (Pk rfl) <| Nx <| Cz rfl <| Ks <| Jg (dg (val A / val B), dg (val A % val B)) (by subst hc3; obtain ⟨e1, e2⟩ := fdiv_same (n := n) vA bP; refine ⟨⟨norm_dg _, norm_dg _⟩, ⟨?_, ?_⟩, by omega, by omega⟩; rw [zOf, zOf, e1, val_dg q0]; simp [sg]; rw [zOf, zOf, e2, val_dg m0]) Wk
      · rintro ⟨Q, R⟩ hok
        obtain ⟨⟨nQ, nR⟩, ⟨j3, j4⟩, j5, j6⟩ := hok
        change VCode _ _ _ 4 (sl _) (en _) _
        refine Sq <| Rg <| Vs (Fa TF55_0 rfl) <| Vs (Ld TA4 rfl) <| Vs (Fa TF55_0 rfl) <| Vs (Ld TA4 rfl) <| Vs (Bb TU4 rfl) <| Vs (Mv rfl) <| Vs (C0 rfl rfl (f54 _ _ (by first | omega | assumption | (simp; done) | (simp; omega)) (nQ.1))) <| Vs (Mv rfl) <| Vs (Xt rfl) <| Vs (Xt rfl) <| Vs (Al 14 TZ55 rfl) <| Vs (StS TS55 rfl) <| Vs (As rfl) <| Nx <| Sq <| Sq <| Rg <| Vs (Mv rfl) <| Vs (Bi rfl) <| Nx <| Cd rfl (fun hc5 => ?_) (fun hc5 => ?_)
        · replace hc5 := bne_iff_ne.1 hc5
          exact Sq <| Rg <| Vs (Bd TQ55 rfl) <| Vs (Bd TQ55 rfl) <| Vs (Mv rfl) <| Vs (StS TS55 rfl) <| Vs (StS TS55 rfl) <| Vs (As rfl) <| Nx <| Re <| Tr <| Fi (l := [.agg [boolB (false), u32S ([])], .agg [boolB (false), u32S ([])], numB .i64 (zE (sg ((!(n == m))) (val (Q))))]) (Rc (resVar_cell rfl rfl TA55 TS55 (Nat.le_of_ble_eq_true rfl) rfl) (Rc (resVar_cell rfl rfl TA55 TS55 (Nat.le_of_ble_eq_true rfl) rfl) (Rc (resVar_tmp rfl rfl) Rn))) (by rw [dmR_big hc1 hy (by rw [← j3]; exact hc5), ← j3]; rfl)
        · replace hc5 := bne_eq_false_iff_eq.1 hc5
          refine Ks <| Tg <| Sq <| Rg <| Vs (Fa TF55_0 rfl) <| Vs (Ld TA4 rfl) <| Vs (Mv rfl) <| Vs (C0 rfl rfl (f54 _ _ (by first | omega | assumption | (simp; done) | (simp; omega)) (nR.1))) <| Vs (Mv rfl) <| Vs (Xt rfl) <| Vs (Xt rfl) <| Vs (Al 26 TZ55 rfl) <| Vs (StS TS55 rfl) <| Vs (As rfl) <| Nx <| Sq <| Rd (by kernel_rfl) <| Vl (LdS TA55 TS55 rfl) <| Vl (LdS TA55 TS55 rfl) <| Vl (StS TS55 rfl) <| Vl (StS TS55 rfl) <| Vl (As rfl) <| ?_
          refine VLog.nil ⟨by kernel_rfl, ?_⟩
          exact Tg <| Re <| Fi (l := [.agg [boolB (zN (sg ((!(n == m))) (val (Q)))), u32S (zL (sg ((!(n == m))) (val (Q))))], .agg [boolB (zN (sg (m) (val (R)))), u32S (zL (sg (m) (val (R))))], numB .i64 (0)]) (Rc (resVar_cell rfl rfl TA55 TS55 (Nat.le_of_ble_eq_true rfl) rfl) (Rc (resVar_cell rfl rfl TA55 TS55 (Nat.le_of_ble_eq_true rfl) rfl) (Rc (resVar_tmp rfl rfl) Rn))) (by rw [dmR_ok hc1 hy (by rw [← j3]; exact hc5), ← j3, ← j4]; rfl)
end Go.VL

/- Walks over the Go functions, printed by a program of this session over the kit's print, and by hand. -/
set_option linter.unusedVariables false
set_option linter.unusedSimpArgs false
namespace Go.VL
open Go.Proofs
theorem bop_str_refl (s : ByteArray) : bop .eql (.string s) (.string s) = some (.bool true) := by simp [bop]
theorem len63 {L : List Int} (h : L.length ≤ 128) : L.length ≤ 9223372036854775807 := by omega
theorem w18 : VF Try.prog 79 [intB (zN 7) (zL 7), intB (zN (-2)) (zL (-2))] (.tup [intB (zN (-4)) (zL (-4)), intB (zN (-1)) (zL (-1)), numB .i64 0]) := by
  have h := f18 (zN 7) (zL 7) (zN (-2)) (zL (-2)) (len63 (len_zL _)) (len63 (len_zL _)) (ok32_zL _) (ok32_zL _)
  rw [zOf_z (small_in (by decide) (by decide)), zOf_z (small_in (by decide) (by decide)), valid_zz, valid_zz] at h
  have e1 : (7 : Int).fdiv (-2) = -4 := by decide
  have e2 : (7 : Int).fmod (-2) = -1 := by decide
  rw [dmR_ok (ok := true && true) rfl (by decide) (zE_in.2 (by rw [e1]; exact small_in (by decide) (by decide))), e1, e2] at h
  exact h
theorem w31 : VF Try.prog 77 [intB (zN (-12)) (zL (-12)), intB (zN 18) (zL 18)] (.tup [intB (zN 6) (zL 6), numB .i64 0]) := by
  have h := f31 (zN (-12)) (zL (-12)) (zN 18) (zL 18) (len63 (len_zL _)) (len63 (len_zL _)) (ok32_zL _) (ok32_zL _)
  rw [zOf_z (small_in (by decide) (by decide)), zOf_z (small_in (by decide) (by decide)), valid_zz, valid_zz] at h
  have e1 : ((Int.gcd (-12) 18 : Nat) : Int) = 6 := by decide
  rw [e1, gR_in (ok := true && true) rfl (small_in (by decide) (by decide))] at h
  exact h
end Go.VL

/- Plain laws: a text is read as the integer it was made of, and no other text is. No program here. -/
set_option linter.unusedVariables false
set_option linter.unusedSimpArgs false
namespace Go.VL

theorem bytesOf_size (L : List Int) : (bytesOf L).size = L.length := by
  show (L.map byteOf).toArray.size = _
  simp
theorem ok8_getD {L : List Int} (h : ok8 L) (i : Nat) : 0 ≤ L.getD i 0 ∧ L.getD i 0 < 256 := by
  by_cases hi : i < L.length
  · have := h (L.getD i 0) (List.mem_of_getElem? (getD_get hi)); exact this
  · rw [getD_out (by omega)]; omega
theorem at8_of {L : List Int} (h : ok8 L) {i : Nat} (hi : i < L.length) : at8 (bytesOf L) i = L.getD i 0 := by
  have e : (bytesOf L).data.getD i 0 = byteOf (L.getD i 0) := by
    show ((L.map byteOf).toArray).getD i 0 = _
    simp [Array.getD, hi, List.getD_eq_getElem?_getD]
  unfold at8
  rw [e, byteOf_toNat (ok8_getD h i)]
theorem bl_of {L : List Int} (h : ok8 L) : bl (bytesOf L) = L := by
  refine list_ext_getD (by rw [bl_len, bytesOf_size]) (fun j hj => ?_)
  rw [bl_len, bytesOf_size] at hj
  have := bl_get (d := bytesOf L) (i := j) (by rw [bytesOf_size]; exact hj)
  rw [List.getD_eq_getElem?_getD, this, at8_of h hj]
  rfl
theorem byteOf_cast (b : UInt8) : byteOf (b.toNat : Int) = b := by
  unfold byteOf
  rw [Int.toNat_natCast]
  exact UInt8.ofNat_toNat
theorem of_bl (d : ByteArray) : bytesOf (bl d) = d := by
  refine ByteArray.ext (Array.ext' ?_)
  show ((bl d).map byteOf).toArray.toList = _
  unfold bl
  rw [List.map_map]
  have : (byteOf ∘ fun b : UInt8 => (b.toNat : Int)) = id := funext byteOf_cast
  rw [this]; simp
theorem bl_ok8 (d : ByteArray) : ok8 (bl d) := fun x hx => by
  unfold bl at hx
  obtain ⟨b, _, rfl⟩ := List.mem_map.1 hx
  have := UInt8.toNat_lt b
  omega
theorem extract_of (x : Int) (L : List Int) : (bytesOf (x :: L)).extract 1 (bytesOf (x :: L)).size = bytesOf L := by
  refine ByteArray.ext (Array.ext' ?_)
  rw [ByteArray.data_extract]
  show (((x :: L).map byteOf).toArray.extract 1 _).toList = ((L.map byteOf).toArray).toList
  rw [bytesOf_size]
  simp
  exact List.take_of_length_le (by simp)
/-- The value of written digits. -/
theorem pv_dd (n : Nat) : pv (dd n).reverse = n := by
  induction n using Nat.strongRecOn with
  | _ n ih =>
    by_cases h : n = 0
    · subst h; rw [dd_zero]; rfl
    · rw [dd_pos h, List.reverse_cons, pv_snoc, ih (n / 10) (by omega)]; omega
theorem pv_txD {v : Int} (h : 0 ≤ v) : pv (txD v).reverse = v := by
  unfold txD; split
  · rename_i h0; subst h0; rfl
  · rw [pv_dd]; omega
theorem dd_last {n : Nat} (h : n ≠ 0) : (dd n).reverse.getD 0 0 ≠ 48 := by
  induction n using Nat.strongRecOn with
  | _ n ih =>
    rw [dd_pos h, List.reverse_cons]
    by_cases h0 : n / 10 = 0
    · rw [h0, dd_zero]; simp; omega
    · have := ih (n / 10) (by omega) h0
      have hl : 0 < (dd (n / 10)).reverse.length := by rw [dd_pos h0]; simp
      rw [List.getD_eq_getElem?_getD, List.getElem?_append_left hl, ← List.getD_eq_getElem?_getD]
      exact this
theorem txD_ne {v : Int} (hv : 0 ≤ v) : 0 < (txD v).length := by
  unfold txD; split
  · simp
  · rw [dd_pos (by omega)]; simp
theorem txD_ok8 (v : Int) : ok8 (txD v).reverse := fun x hx => by
  have := txD_range v x (by simpa using hx); omega
theorem tx_ok8' (z : Int) : ok8 (txL z) := by
  have h := tx_ok8 (n := decide (z < 0)) (v := (z.natAbs : Int))
  unfold txL
  by_cases h0 : z < 0
  · simpa [h0] using h
  · simpa [h0] using h
theorem txL_neg {z : Int} (h : z < 0) : txL z = 45 :: (txD (z.natAbs : Int)).reverse := by unfold txL; simp [h]
theorem txL_pos {z : Int} (h : ¬ z < 0) : txL z = (txD (z.natAbs : Int)).reverse := by unfold txL; simp [h]
theorem negS_tx (z : Int) : negS (txB z) = decide (z < 0) := by
  unfold negS txB
  have hd := txD_ne (v := (z.natAbs : Int)) (by omega)
  by_cases h : z < 0
  · rw [at8_of (tx_ok8' z) (by rw [txL_neg h]; simp), bytesOf_size, txL_neg h]; simp [h]
  · rw [at8_of (tx_ok8' z) (by rw [txL_pos h]; simpa using hd), bytesOf_size, txL_pos h]
    have hm : (txD (z.natAbs : Int)).reverse.getD 0 0 ∈ txD (z.natAbs : Int) := by
      have := List.mem_of_getElem? (getD_get (L := (txD (z.natAbs : Int)).reverse) (i := 0) (by simpa using hd))
      simpa using this
    have := txD_range _ _ hm
    rw [decide_eq_false h, decide_eq_false_iff_not]
    rintro ⟨_, hc⟩
    omega
theorem digS_tx (z : Int) : digS (txB z) = bytesOf (txD (z.natAbs : Int)).reverse := by
  unfold digS
  rw [negS_tx]
  by_cases h : z < 0
  · rw [if_pos (by simpa using h)]; unfold txB; rw [txL_neg h]; exact extract_of _ _
  · rw [if_neg (by simpa using h)]; unfold txB; rw [txL_pos h]
theorem okS_tx (z : Int) : okS (txB z) = true := by
  have hd := txD_ne (v := (z.natAbs : Int)) (by omega)
  refine ok_good ?_ (fun i hi => ?_)
  · unfold preS
    rw [decide_eq_true_iff, digS_tx]
    refine ⟨fun e => ?_, fun ⟨h1, h2⟩ => ?_⟩
    · have := congrArg ByteArray.size e
      rw [bytesOf_size] at this
      have e0 : (⟨#[]⟩ : ByteArray).size = 0 := rfl
      rw [e0] at this
      simp at this
      rw [this] at hd; simp at hd
    · rw [at8_of (txD_ok8 _) (by simpa using hd)] at h1
      by_cases h0 : z = 0
      · subst h0; exact h2 rfl
      · refine dd_last (n := z.natAbs) (by omega) ?_
        have e : txD (z.natAbs : Int) = dd z.natAbs := by unfold txD; rw [if_neg (by omega), Int.toNat_natCast]
        rw [e] at h1; exact h1
  · rw [digS_tx] at hi ⊢
    rw [bytesOf_size] at hi
    rw [at8_of (txD_ok8 _) hi]
    have := List.mem_of_getElem? (getD_get hi)
    exact txD_range _ _ (by simpa using this)
theorem pZ_tx (z : Int) : pZ (txB z) = z := by
  unfold pZ
  rw [negS_tx, digS_tx, bl_of (txD_ok8 _), pv_txD (by omega)]
  unfold sg
  by_cases h : z < 0
  · rw [if_pos (by simpa using h)]; omega
  · rw [if_neg (by simpa using h)]; omega
/-- Only that text. -/
theorem dd_pv : ∀ (R : List Int), (∀ x ∈ R, 48 ≤ x ∧ x ≤ 57) → R ≠ [] → R.reverse.getD 0 0 ≠ 48 → 0 < pv R.reverse ∧ dd (pv R.reverse).toNat = R
  | [], _, h, _ => absurd rfl h
  | x :: R, hx, _, hl => by
    rw [List.reverse_cons, pv_snoc]
    have h1 := hx x (by simp)
    by_cases h0 : R = []
    · subst h0
      simp at hl ⊢
      have e : pv [] = 0 := rfl
      rw [e]
      refine ⟨by omega, ?_⟩
      rw [dd_pos (by omega), show (0 * 10 + (x - 48)).toNat / 10 = 0 by omega, dd_zero]
      congr 1; omega
    · have hlen : 0 < R.reverse.length := by simpa [List.length_pos_iff] using h0
      rw [List.reverse_cons, List.getD_eq_getElem?_getD, List.getElem?_append_left hlen, ← List.getD_eq_getElem?_getD] at hl
      obtain ⟨i1, i2⟩ := dd_pv R (fun y hy => hx y (by simp [hy])) h0 hl
      refine ⟨by omega, ?_⟩
      rw [dd_pos (by omega)]
      congr 1
      · omega
      · rw [show (pv R.reverse * 10 + (x - 48)).toNat / 10 = (pv R.reverse).toNat by omega]; exact i2
theorem bl_cons {s : ByteArray} (h : negS s = true) : bl s = 45 :: bl (s.extract 1 s.size) := by
  have h0 := neg_size h
  have h1 : at8 s 0 = 45 := by unfold negS at h; rw [decide_eq_true_iff] at h; exact h.2
  have hb : bl s = (bl s).getD 0 0 :: (bl s).drop 1 := by
    have hl : 0 < (bl s).length := by rw [bl_len]; exact h0
    cases hh : bl s with
    | nil => rw [hh] at hl; simp at hl
    | cons x r => rfl
  have h2 : (bl s).getD 0 0 = 45 := by rw [List.getD_eq_getElem?_getD, bl_get h0, h1]; rfl
  rw [hb, h2]
  congr 1
  unfold bl
  rw [ByteArray.data_extract]
  have e : s.data.toList.length = s.size := by rw [Array.length_toList]; rfl
  rw [← List.map_drop, Array.toList_extract, List.extract_eq_take_drop]
  congr 1
  rw [List.take_of_length_le]
  simp [e]
theorem tx_pZ {s : ByteArray} (h : okS s = true) : txB (pZ s) = s := by
  have hn : ∀ i, i < (digS s).size → 48 ≤ at8 (digS s) i ∧ at8 (digS s) i ≤ 57 := fun i hi => by
    have := dS_num (s := s) (i := i) (by rw [dS_ok h]; exact hi)
    rwa [dS_ok h] at this
  have hr : ∀ x ∈ (bl (digS s)).reverse, 48 ≤ x ∧ x ≤ 57 := fun x hx => by
    rw [List.mem_reverse] at hx
    obtain ⟨i, hi⟩ := List.mem_iff_getElem?.1 hx
    have hlt := (List.getElem?_eq_some_iff.1 hi).1
    rw [bl_len] at hlt
    rw [bl_get hlt] at hi
    injection hi with hi
    subst hi
    exact hn i hlt
  have hp : preS s = true := by simp only [okS, Bool.and_eq_true] at h; exact h.1
  simp only [preS, decide_eq_true_iff] at hp
  have hs0 := size_pos hp.1
  have hne : (bl (digS s)).reverse ≠ [] := fun e => by
    have := congrArg List.length e
    rw [List.length_reverse, bl_len] at this
    have e0 : ([] : List Int).length = 0 := rfl
    omega
  have hat : (bl (digS s)).getD 0 0 = at8 (digS s) 0 := by rw [List.getD_eq_getElem?_getD, bl_get hs0]; rfl
  have key : 0 ≤ pv (bl (digS s)) ∧ (txD (pv (bl (digS s)))).reverse = bl (digS s) ∧ (negS s = true → 0 < pv (bl (digS s))) := by
    by_cases h48 : at8 (digS s) 0 = 48
    · have hs : s = ⟨#[48]⟩ := Classical.byContradiction fun hc => hp.2 ⟨h48, hc⟩
      subst hs
      have e1 : negS ⟨#[48]⟩ = false := by decide +kernel
      have e2 : digS ⟨#[48]⟩ = ⟨#[48]⟩ := by unfold digS; rw [e1]; rfl
      rw [e2, e1]
      have e3 : bl ⟨#[48]⟩ = [48] := rfl
      rw [e3]
      have e4 : pv [48] = 0 := rfl
      rw [e4]
      exact ⟨by omega, by unfold txD; rw [if_pos rfl]; rfl, fun h => by cases h⟩
    · obtain ⟨k1, k2⟩ := dd_pv _ hr hne (by rw [List.reverse_reverse, hat]; exact h48)
      rw [List.reverse_reverse] at k1 k2
      refine ⟨by omega, ?_, fun _ => k1⟩
      unfold txD
      rw [if_neg (by omega), k2, List.reverse_reverse]
  obtain ⟨k0, k1, k2⟩ := key
  unfold txB pZ
  rw [txL_sg k0 k2]
  by_cases hneg : negS s = true
  · rw [if_pos hneg, List.reverse_append, k1]
    show bytesOf (45 :: bl (digS s)) = s
    rw [← dig_yes hneg, ← bl_cons hneg, of_bl]
  · rw [if_neg hneg, List.append_nil, k1, of_bl, ← dig_no (by simpa using hneg)]
theorem tx_size (z : Int) (h : inB z = true) : (txB z).size ≤ 1281 := by
  unfold txB
  rw [bytesOf_size]
  unfold txL
  rw [List.length_reverse, List.length_append]
  have h1 : (txD (z.natAbs : Int)).length ≤ 1280 := by
    refine txD_len (A := dg (z.natAbs : Int)) (ok32_dg _) ((len_limit (by omega)).2 (by simpa [inB] using h)) (val_dg (by omega)).symm
  have h2 : (if z < 0 then [(45 : Int)] else []).length ≤ 1 := by split <;> simp
  omega
end Go.VL

/- Plain laws that the statements about integers need. No program here. -/
set_option linter.unusedVariables false
set_option linter.unusedSimpArgs false
namespace Go.VL

theorem prE_zero {ok : Bool} {z : Int} (h : prE ok z = 0) : ok = true ∧ inB z = true := by
  unfold prE at h
  split at h
  · rename_i ho; exact ⟨ho, zE_in.1 h⟩
  · omega
theorem prE_true {ok : Bool} {z : Int} (h : ok = true) : prE ok z = zE z := by rw [prE, if_pos h]
theorem gE_zero {ok : Bool} {z : Int} : gE ok z = 0 ↔ ok = true ∧ inB z = true := by
  unfold gE
  split
  · rename_i ho; rw [zE_in]; exact ⟨fun h => ⟨ho, h⟩, fun h => h.2⟩
  · rename_i ho; exact ⟨fun h => by omega, fun h => absurd h.1 ho⟩
theorem gg_no {ok : Bool} {z : Int} (h : ok = false) : gN ok z = false ∧ gL ok z = [] := by subst h; simp [gN, gL]
theorem gg_yes {ok : Bool} {z : Int} (h : ok = true) : gN ok z = zN z ∧ gL ok z = zL z := by subst h; simp [gN, gL]
theorem ok32_gL (ok : Bool) (z : Int) : ok32 (gL ok z) := by
  cases ok
  · rw [(gg_no rfl).2]; exact ok32_nil
  · rw [(gg_yes rfl).2]; exact ok32_zL z
theorem len_gL (ok : Bool) (z : Int) : (gL ok z).length ≤ 128 := by
  cases ok
  · rw [(gg_no rfl).2]; simp
  · rw [(gg_yes rfl).2]; exact len_zL z
theorem len_gL' (ok : Bool) (z : Int) : (gL ok z).length ≤ 9223372036854775807 := Nat.le_trans (len_gL ok z) (by omega)
theorem len_zL' (z : Int) : (zL z).length ≤ 9223372036854775807 := Nat.le_trans (len_zL z) (by omega)
theorem valid_gg (ok : Bool) (z : Int) : validB (gN ok z) (gL ok z) = true := by
  cases ok
  · rw [(gg_no rfl).1, (gg_no rfl).2]; rfl
  · rw [(gg_yes rfl).1, (gg_yes rfl).2]; exact valid_zz z
theorem zOf_gg {ok : Bool} {z : Int} (h : ok = true) (hz : inB z = true) : zOf (gN ok z) (gL ok z) = z := by
  rw [(gg_yes h).1, (gg_yes h).2]; exact zOf_z hz
theorem tS_small {ok : Bool} {z : Int} (h : ok = true → inB z = true) : (tS ok z).size ≤ 9223372036854775807 := by
  unfold tS; split
  · rename_i ho; have := tx_size z (h ho); omega
  · exact Nat.zero_le _
theorem rd1 {n : Bool} {A : List Int} (oA : ok32 A) (h : validB n A = true) : prE (okS (tS (validB n A) (zOf n A))) (pZ (tS (validB n A) (zOf n A))) = 0 := by
  rw [tS_true h, okS_tx, pZ_tx, prE_true rfl]
  exact zE_in.2 (in_of_valid oA h)
theorem rd2 {n : Bool} {A : List Int} (oA : ok32 A) (h : validB n A = true) : sameB (gN (okS (tS (validB n A) (zOf n A))) (pZ (tS (validB n A) (zOf n A)))) (gL (okS (tS (validB n A) (zOf n A))) (pZ (tS (validB n A) (zOf n A)))) n A = true := by
  rw [tS_true h, okS_tx, pZ_tx, (gg_yes rfl).1, (gg_yes rfl).2, (z_of oA h).1, (z_of oA h).2]
  exact sameB_refl n A
theorem rd3 {s : ByteArray} (h : prE (okS s) (pZ s) = 0) : tS (validB (gN (okS s) (pZ s)) (gL (okS s) (pZ s))) (zOf (gN (okS s) (pZ s)) (gL (okS s) (pZ s))) = s := by
  obtain ⟨h1, h2⟩ := prE_zero h
  rw [valid_gg, zOf_gg h1 h2, tS_true rfl, tx_pZ h1]
theorem tE_true {ok : Bool} (h : ok = true) : tE ok = 0 := by rw [tE, if_pos h]
theorem str_refl {s t : ByteArray} (h : s = t) : (s.toList == t.toList) = true := by subst h; simp
theorem beq_yes {x y : Int} (h : x = y) : (x == y) = true := by simp [h]
theorem beq_no {x y : Int} (h : x ≠ y) : (x == y) = false := by simp [h]
theorem bne_yes {x y : Int} (h : x ≠ y) : (x != y) = true := by simp [h]
theorem bne_no {x y : Int} (h : x = y) : (x != y) = false := by simp [h]
end Go.VL

/- Plain laws that the statements about rings and orders of integers need. No program here. -/
set_option linter.unusedVariables false
set_option linter.unusedSimpArgs false
namespace Go.VL

theorem same_gg {ok ok' : Bool} {z z' : Int} (h : ok = true) (h' : ok' = true) (e : z = z') : sameB (gN ok z) (gL ok z) (gN ok' z') (gL ok' z') = true := by
  subst e; rw [h, h']; exact sameB_refl _ _
theorem gz {ok : Bool} {z : Int} (h : gE ok z = 0) : zOf (gN ok z) (gL ok z) = z := zOf_gg (gE_zero.1 h).1 (gE_zero.1 h).2
theorem go {ok : Bool} {z : Int} (h : gE ok z = 0) : ok = true := (gE_zero.1 h).1
theorem ring_add {o1 o2 o3 o4 : Bool} {a b c : Int} (e : gE o1 (a + b) = 0) (f : gE o2 (zOf (gN o1 (a + b)) (gL o1 (a + b)) + c) = 0) (g : gE o3 (b + c) = 0) (h : gE o4 (a + zOf (gN o3 (b + c)) (gL o3 (b + c))) = 0) :
    sameB (gN o2 (zOf (gN o1 (a + b)) (gL o1 (a + b)) + c)) (gL o2 (zOf (gN o1 (a + b)) (gL o1 (a + b)) + c)) (gN o4 (a + zOf (gN o3 (b + c)) (gL o3 (b + c)))) (gL o4 (a + zOf (gN o3 (b + c)) (gL o3 (b + c)))) = true :=
  same_gg (go f) (go h) (by rw [gz e, gz g]; omega)
theorem ring_mul {o1 o2 o3 o4 : Bool} {a b c : Int} (e : gE o1 (a * b) = 0) (f : gE o2 (zOf (gN o1 (a * b)) (gL o1 (a * b)) * c) = 0) (g : gE o3 (b * c) = 0) (h : gE o4 (a * zOf (gN o3 (b * c)) (gL o3 (b * c))) = 0) :
    sameB (gN o2 (zOf (gN o1 (a * b)) (gL o1 (a * b)) * c)) (gL o2 (zOf (gN o1 (a * b)) (gL o1 (a * b)) * c)) (gN o4 (a * zOf (gN o3 (b * c)) (gL o3 (b * c)))) (gL o4 (a * zOf (gN o3 (b * c)) (gL o3 (b * c)))) = true :=
  same_gg (go f) (go h) (by rw [gz e, gz g, Int.mul_assoc])
theorem ring_dist {o1 o2 o3 o4 o5 : Bool} {a b c : Int} (e : gE o1 (a * b) = 0) (f : gE o2 (a * c) = 0) (g : gE o3 (b + c) = 0) (h : gE o4 (a * zOf (gN o3 (b + c)) (gL o3 (b + c))) = 0)
    (i : gE o5 (zOf (gN o1 (a * b)) (gL o1 (a * b)) + zOf (gN o2 (a * c)) (gL o2 (a * c))) = 0) :
    sameB (gN o4 (a * zOf (gN o3 (b + c)) (gL o3 (b + c)))) (gL o4 (a * zOf (gN o3 (b + c)) (gL o3 (b + c)))) (gN o5 (zOf (gN o1 (a * b)) (gL o1 (a * b)) + zOf (gN o2 (a * c)) (gL o2 (a * c)))) (gL o5 (zOf (gN o1 (a * b)) (gL o1 (a * b)) + zOf (gN o2 (a * c)) (gL o2 (a * c)))) = true :=
  same_gg (go h) (go i) (by rw [gz e, gz f, gz g, Int.mul_add])
theorem ring_dist' {o1 o2 o3 o4 o5 : Bool} {a b c : Int} (e : gE o1 (a * b) = 0) (f : gE o2 (a * c) = 0) (g : gE o3 (b - c) = 0) (h : gE o4 (a * zOf (gN o3 (b - c)) (gL o3 (b - c))) = 0)
    (i : gE o5 (zOf (gN o1 (a * b)) (gL o1 (a * b)) - zOf (gN o2 (a * c)) (gL o2 (a * c))) = 0) :
    sameB (gN o4 (a * zOf (gN o3 (b - c)) (gL o3 (b - c)))) (gL o4 (a * zOf (gN o3 (b - c)) (gL o3 (b - c)))) (gN o5 (zOf (gN o1 (a * b)) (gL o1 (a * b)) - zOf (gN o2 (a * c)) (gL o2 (a * c)))) (gL o5 (zOf (gN o1 (a * b)) (gL o1 (a * b)) - zOf (gN o2 (a * c)) (gL o2 (a * c)))) = true :=
  same_gg (go h) (go i) (by rw [gz e, gz f, gz g, Int.mul_sub])
theorem comm_E {u v : Bool} {x y : Int} (h : x = y) : gE (u && v) x = gE (v && u) y := by rw [Bool.and_comm, h]
theorem comm_same {u v : Bool} {x y : Int} (h : x = y) : sameB (gN (u && v) x) (gL (u && v) x) (gN (v && u) y) (gL (v && u) y) = true := by rw [Bool.and_comm, h]; exact sameB_refl _ _
theorem cmp3_anti (a b : Int) : cmp3 a b = -cmp3 b a := by
  unfold cmp3
  rcases Int.lt_trichotomy a b with h | h | h
  · rw [if_pos h, if_neg (by omega), if_neg (by omega)]
  · subst h; simp
  · rw [if_neg (by omega), if_neg (by omega), if_pos h]; rfl
theorem cmp3_le {a b : Int} : cmp3 a b ≤ 0 ↔ a ≤ b := by unfold cmp3; split <;> (try split) <;> omega
theorem cmp3_gt {a b : Int} : cmp3 a b > 0 ↔ b < a := by unfold cmp3; split <;> (try split) <;> omega
theorem cmp3_le' {a b : Int} : cmp3 a b ≥ 0 ↔ b ≤ a := by unfold cmp3; split <;> (try split) <;> omega
theorem cmp_same {n m : Bool} {A B : List Int} (oA : ok32 A) (oB : ok32 B) (va : validB n A = true) (vb : validB m B = true) : (cmp3 (zOf n A) (zOf m B) == 0) = sameB n A m B := by
  rw [Bool.eq_iff_iff, beq_iff_eq, cmp3_zero, sameB_iff]
  refine ⟨fun h => ?_, fun h => by rw [h.1, h.2]⟩
  have e1 := z_of oA va
  have e2 := z_of oB vb
  rw [h] at e1
  exact ⟨e1.1.symm.trans e2.1, e1.2.symm.trans e2.2⟩
theorem cmp3_shift {a b : Int} (c : Int) : cmp3 (a + c) (b + c) = cmp3 a b := by
  unfold cmp3
  rcases Int.lt_trichotomy a b with h | h | h
  · rw [if_pos h, if_pos (by omega)]
  · subst h; simp
  · rw [if_neg (by omega), if_neg (by omega), if_neg (by omega), if_neg (by omega)]
theorem in_zero : inB 0 = true := small_in (by decide) (by decide)
theorem ord_diff {o : Bool} {a b : Int} (h : gE o (a - b) = 0) : cC (validB (gN o (a - b)) (gL o (a - b)) && validB (zN 0) (zL 0)) (zOf (gN o (a - b)) (gL o (a - b))) (zOf (zN 0) (zL 0)) = cmp3 a b := by
  rw [valid_gg, valid_zz, cC_true (ok := true && true) rfl, gz h, zOf_z in_zero]
  have := cmp3_shift (a := a - b) (b := 0) b
  rw [show a - b + b = a by omega, show 0 + b = b by omega] at this
  exact this.symm
theorem ord_add {o1 o2 : Bool} {a b c : Int} (h1 : gE o1 (a + c) = 0) (h2 : gE o2 (b + c) = 0) :
    cC (validB (gN o1 (a + c)) (gL o1 (a + c)) && validB (gN o2 (b + c)) (gL o2 (b + c))) (zOf (gN o1 (a + c)) (gL o1 (a + c))) (zOf (gN o2 (b + c)) (gL o2 (b + c))) = cmp3 a b := by
  rw [valid_gg, valid_gg, cC_true (ok := true && true) rfl, gz h1, gz h2]
  exact cmp3_shift c
theorem beq_bool {x y : Bool} (h : x = y) : (x == y) = true := by subst h; simp
theorem vv {u v : Bool} (h1 : u = true) (h2 : v = true) : (u && v) = true := by rw [h1, h2]; rfl
end Go.VL

/- Plain laws that the statements about squares and division of integers need. No program here. -/
set_option linter.unusedVariables false
set_option linter.unusedSimpArgs false
namespace Go.VL

theorem in_le {x y : Int} (h : inB y = true) (h0 : 0 ≤ x) (h1 : x ≤ y) : inB x = true := by
  unfold inB at *; rw [decide_eq_true_iff] at *; omega
theorem in_abs {x : Int} (h0 : 0 ≤ x) (h1 : x < limit) : inB x = true := by unfold inB; rw [decide_eq_true_iff]; omega
theorem in_lt {x : Int} (h : inB x = true) : x < limit := by unfold inB at h; rw [decide_eq_true_iff] at h; omega
theorem four_limit : 16 < limit := by
  unfold limit
  have h3 := pow_mono (show 1 ≤ 128 by omega)
  have h4 : (4294967296 : Int) ^ 1 = 4294967296 := rfl
  rw [h4] at h3; omega
section sq
variable {n : Bool} {A : List Int}
theorem sq_z (va : validB n A = true) (oA : ok32 A) (hn : n = false) : 0 ≤ zOf n A ∧ inB (zOf n A) = true ∧ sqOk (validB n A) (zOf n A) = true := by
  have h := val_nonneg oA
  have e : zOf n A = val A := by rw [hn]; rfl
  refine ⟨by omega, in_of_valid oA va, ?_⟩
  unfold sqOk; rw [va]; simp; omega
theorem sq_in {z : Int} (h0 : 0 ≤ z) (hz : inB z = true) : inB (isq z) = true ∧ inB (isq z * isq z) = true ∧ inB (isq z + 1) = true := by
  obtain ⟨s0, s1, s2⟩ := isq_spec h0
  have h1 := isq_le h0
  refine ⟨in_le hz s0 h1, in_le hz (Int.mul_nonneg s0 s0) s1, ?_⟩
  by_cases h : isq z ≤ 2
  · have := four_limit; exact in_abs (by omega) (by omega)
  · have h2 := Int.mul_le_mul_of_nonneg_left (show 2 ≤ isq z by omega) s0
    exact in_le hz (by omega) (by omega)
theorem sq_x (va : validB n A = true) (oA : ok32 A) (hn : n = false) : zOf (gN (sqOk (validB n A) (zOf n A)) (isq (zOf n A))) (gL (sqOk (validB n A) (zOf n A)) (isq (zOf n A))) = isq (zOf n A) := by
  obtain ⟨h1, h2, h3⟩ := sq_z va oA hn
  exact zOf_gg h3 (sq_in h1 h2).1
theorem sqE_zero (va : validB n A = true) (oA : ok32 A) (hn : n = false) : sqE (validB n A) (zOf n A) = 0 := by
  obtain ⟨h1, h2, h3⟩ := sq_z va oA hn
  unfold sqE; rw [if_pos va, if_neg (by omega)]
end sq
theorem gE_in {ok : Bool} {z : Int} (h : ok = true) (hz : inB z = true) : gE ok z = 0 := gE_zero.2 ⟨h, hz⟩
theorem in_one : inB 1 = true := small_in (by decide) (by decide)
theorem isq_sq {z : Int} (h : 0 ≤ z) : isq (z * z) = z := isq_uniq h (Int.le_refl _) (by rw [Int.add_mul, Int.mul_add]; omega)
theorem gE_two {ok : Bool} {z : Int} (h : ok = true) (h2 : gE ok z ≠ 2) : gE ok z = 0 := by
  unfold gE at *; rw [if_pos h] at *; unfold zE at *; split <;> simp_all
/-- The quotient of two integers in the range is in the range. -/
theorem fdiv_in {x y : Int} (hx : inB x = true) (hy : y ≠ 0) : inB (x.fdiv y) = true := by
  obtain ⟨n, a, ha, rfl⟩ : ∃ (n : Bool) (a : Int), 0 ≤ a ∧ x = sg n a := by
    by_cases h : x < 0
    · exact ⟨true, -x, by omega, by simp [sg]⟩
    · exact ⟨false, x, by omega, by simp [sg]⟩
  obtain ⟨m, b, hb, rfl⟩ : ∃ (m : Bool) (b : Int), 0 < b ∧ y = sg m b := by
    by_cases h : y < 0
    · exact ⟨true, -y, by omega, by simp [sg]⟩
    · exact ⟨false, y, by omega, by simp [sg]⟩
  rw [inB_sg ha, decide_eq_true_iff] at hx
  have q0 := Int.ediv_nonneg ha (Int.le_of_lt hb)
  have q1 := Int.ediv_le_self b ha
  by_cases h : n = m
  · subst h
    rw [(fdiv_same ha hb).1]; exact in_abs q0 (by omega)
  · by_cases hr : a % b = 0
    · rw [(fdiv_even h ha hb hr).1]
      unfold inB; rw [decide_eq_true_iff]; omega
    · rw [(fdiv_odd h ha hb hr).1]
      have hb1 : b ≠ 1 := fun e => hr (by rw [e]; exact Int.emod_one _)
      have h2 : a / b * 2 ≤ a := by
        have h3 := Int.mul_ediv_self_le (x := a) (k := b) (by omega)
        have h4 := Int.mul_le_mul_of_nonneg_right (show 2 ≤ b by omega) q0
        rw [Int.mul_comm (a / b) 2]; omega
      have h5 : a ≠ 0 := fun e => hr (by rw [e]; exact Int.zero_emod _)
      unfold inB; rw [decide_eq_true_iff]; omega
theorem fmod_in {x y : Int} (hy : y ≠ 0) (hyb : inB y = true) : inB (x.fmod y) = true ∧ ((x.fmod y).natAbs < y.natAbs) ∧ (x.fmod y = 0 ∨ (x.fmod y < 0 ↔ y < 0)) := by
  have h : (x.fmod y).natAbs < y.natAbs ∧ (x.fmod y = 0 ∨ (x.fmod y < 0 ↔ y < 0)) := by
    obtain ⟨n, a, ha, rfl⟩ : ∃ (n : Bool) (a : Int), 0 ≤ a ∧ x = sg n a := by
      by_cases h : x < 0
      · exact ⟨true, -x, by omega, by simp [sg]⟩
      · exact ⟨false, x, by omega, by simp [sg]⟩
    obtain ⟨m, b, hb, rfl⟩ : ∃ (m : Bool) (b : Int), 0 < b ∧ y = sg m b := by
      by_cases h : y < 0
      · exact ⟨true, -y, by omega, by simp [sg]⟩
      · exact ⟨false, y, by omega, by simp [sg]⟩
    have m0 := Int.emod_nonneg a (show b ≠ 0 by omega)
    have m1 := Int.emod_lt_of_pos a hb
    by_cases h : n = m
    · subst h
      rw [(fdiv_same ha hb).2]
      cases n <;> simp [sg] <;> omega
    · by_cases hr : a % b = 0
      · rw [(fdiv_even h ha hb hr).2, hr]
        cases m <;> simp [sg] <;> omega
      · rw [(fdiv_odd h ha hb hr).2]
        cases m <;> simp [sg] <;> omega
  refine ⟨?_, h⟩
  unfold inB at *; rw [decide_eq_true_iff] at *; omega
theorem sq_c {ok v : Bool} {x q w : Int} (hx : x = q) (ho : ok = true) (hq : inB (q * q) = true) (hv : v = true) : cC (validB (gN ok (x * x)) (gL ok (x * x)) && v) (zOf (gN ok (x * x)) (gL ok (x * x))) w = cmp3 (q * q) w := by
  subst hx; rw [valid_gg, hv, cC_true (ok := true && true) rfl, zOf_gg ho hq]
theorem sq_d {ok v : Bool} {x q w : Int} (hx : x = q) (ho : ok = true) (h2 : gE ok (x * x) ≠ 2) (hv : v = true) : cC (validB (gN ok (x * x)) (gL ok (x * x)) && v) (zOf (gN ok (x * x)) (gL ok (x * x))) w = cmp3 (q * q) w := by
  have h := gE_two ho h2
  subst hx; rw [valid_gg, hv, cC_true (ok := true && true) rfl, gz h]
theorem cmp3_one {a w : Int} (h : w < a) : cmp3 a w = 1 := by unfold cmp3; rw [if_neg (by omega), if_neg (by omega)]
theorem sq_is {v : Bool} {z : Int} (h : sqOk v z = true) : sqB v z = (cmp3 (isq z * isq z) z == 0) := by
  rw [sqB, h, Bool.true_and, Bool.eq_iff_iff, beq_iff_eq, cmp3_zero, decide_eq_true_iff]
theorem sqE_pos {v : Bool} {z : Int} (h : v = true) (hz : 0 ≤ z) : sqE v z = 0 := by unfold sqE; rw [if_pos h, if_neg (by omega)]
theorem sqB_sq {v : Bool} {z' z : Int} (h : v = true) (e : z' = z * z) (hz : 0 ≤ z) : sqB v z' = true := by
  subst e
  have h1 := Int.mul_nonneg hz hz
  unfold sqB sqOk
  rw [h, isq_sq hz]; simp; exact h1
theorem sq_back {v n : Bool} {z' : Int} {A : List Int} (h : v = true) (e : z' = zOf n A * zOf n A) (hz : 0 ≤ zOf n A) (oA : ok32 A) (va : validB n A = true) : sameB (gN (sqOk v z') (isq z')) (gL (sqOk v z') (isq z')) n A = true := by
  subst e
  have h1 := Int.mul_nonneg hz hz
  have h2 : sqOk v (zOf n A * zOf n A) = true := by unfold sqOk; rw [h]; simp; exact h1
  rw [h2, isq_sq hz, (gg_yes rfl).1, (gg_yes rfl).2, (z_of oA va).1, (z_of oA va).2]
  exact sameB_refl _ _
/-- Division. -/
theorem dmE_bad {ok : Bool} {x y : Int} (h : ok = false) : dmE ok x y = 1 := by unfold dmE; rw [h]; rfl
theorem dmE_nil {ok : Bool} {x y : Int} (h : ok = true) (hy : y = 0) : dmE ok x y = 4 := by unfold dmE; rw [if_pos h, if_pos hy]
theorem dmE_yes {ok : Bool} {x y : Int} (h : ok = true) (hx : inB x = true) (hy : y ≠ 0) : dmE ok x y = 0 := by unfold dmE; rw [if_pos h, if_neg hy]; exact zE_in.2 (fdiv_in hx hy)
theorem okQ_yes {ok : Bool} {x y : Int} (h : ok = true) (hx : inB x = true) (hy : y ≠ 0) : okQ ok x y = true := by unfold okQ; rw [h, fdiv_in hx hy]; simp [hy]
theorem zOf_len {n : Bool} {A : List Int} (h : (A.length : Int) = 0) : zOf n A = 0 := by
  have : A = [] := List.length_eq_zero_iff.1 (by omega)
  subst this; cases n <;> rfl
theorem zOf_ne {n : Bool} {A : List Int} (oA : ok32 A) (v : validB n A = true) (h : (A.length : Int) ≠ 0) : zOf n A ≠ 0 := by
  obtain ⟨nA, lA, sA⟩ := valid_norm oA v
  have := norm_pos nA (fun e => h (by rw [e]; rfl))
  intro hc
  have := sg_zero.1 hc
  omega
theorem zOf_mag {n : Bool} {A : List Int} : zOf false A = val A := rfl
theorem val_abs {n : Bool} {A : List Int} (oA : ok32 A) : val A = ((zOf n A).natAbs : Int) := (sg_abs (val_nonneg oA)).symm
/-- A magnitude is a valid integer. -/
theorem valid_mag {n : Bool} {A : List Int} (v : validB n A = true) : validB false A = true := by
  by_cases h : A.length = 0
  · rw [validB_nil h]; rfl
  · unfold validB at *; rw [if_neg h] at *; exact v
theorem cE_yes {ok : Bool} (h : ok = true) : cE ok = 0 := cE_true h
theorem div_less {okr m : Bool} {r y : Int} {B : List Int} (oB : ok32 B) (vB' : validB m B = true) (ho : okr = true) (hr : inB r = true) (hy : y = zOf m B) (h : r.natAbs < y.natAbs) : cC (validB false (gL okr r) && validB false B) (zOf false (gL okr r)) (zOf false B) = -1 := by
  rw [valid_mag (n := gN okr r) (valid_gg okr r), valid_mag vB', cC_true (ok := true && true) rfl, zOf_mag (n := false), zOf_mag (n := false), val_abs (n := gN okr r) (ok32_gL _ _), val_abs (n := m) oB, zOf_gg ho hr]
  subst hy
  unfold cmp3; rw [if_pos (by omega)]
theorem div_sign {okr m : Bool} {r : Int} {B : List Int} (vB' : validB m B = true) (ho : okr = true) (hr : inB r = true) (h : r = 0 ∨ (r < 0 ↔ zOf m B < 0)) (hy : zOf m B ≠ 0)
    (hc : cC (validB (gN okr r) (gL okr r) && validB (zN 0) (zL 0)) (zOf (gN okr r) (gL okr r)) (zOf (zN 0) (zL 0)) ≠ 0) :
    cC (validB (gN okr r) (gL okr r) && validB (zN 0) (zL 0)) (zOf (gN okr r) (gL okr r)) (zOf (zN 0) (zL 0)) = cC (validB m B && validB (zN 0) (zL 0)) (zOf m B) (zOf (zN 0) (zL 0)) := by
  rw [valid_gg, valid_zz, cC_true (ok := true && true) rfl, zOf_gg ho hr, zOf_z in_zero] at *
  rw [vB', cC_true (ok := true && true) rfl]
  rw [Ne, cmp3_zero] at hc
  have h' := h.resolve_left hc
  unfold cmp3
  by_cases h0 : r < 0
  · rw [if_pos h0, if_pos (h'.1 h0)]
  · rw [if_neg h0, if_neg hc, if_neg (fun hh => h0 (h'.2 hh)), if_neg hy]
theorem div_back {g n o1 o2 : Bool} {x y : Int} {A : List Int} (oA : ok32 A) (va : validB n A = true) (hx : x = zOf n A) (hg : g = true) (hq : inB (x.fdiv y) = true) (hr : inB (x.fmod y) = true)
    (h1 : gE o1 (zOf (gN g (x.fdiv y)) (gL g (x.fdiv y)) * y) = 0)
    (h2 : gE o2 (zOf (gN o1 (zOf (gN g (x.fdiv y)) (gL g (x.fdiv y)) * y)) (gL o1 (zOf (gN g (x.fdiv y)) (gL g (x.fdiv y)) * y)) + zOf (gN g (x.fmod y)) (gL g (x.fmod y))) = 0) :
    sameB (gN o2 (zOf (gN o1 (zOf (gN g (x.fdiv y)) (gL g (x.fdiv y)) * y)) (gL o1 (zOf (gN g (x.fdiv y)) (gL g (x.fdiv y)) * y)) + zOf (gN g (x.fmod y)) (gL g (x.fmod y))))
      (gL o2 (zOf (gN o1 (zOf (gN g (x.fdiv y)) (gL g (x.fdiv y)) * y)) (gL o1 (zOf (gN g (x.fdiv y)) (gL g (x.fdiv y)) * y)) + zOf (gN g (x.fmod y)) (gL g (x.fmod y)))) n A = true := by
  have e : zOf (gN o1 (zOf (gN g (x.fdiv y)) (gL g (x.fdiv y)) * y)) (gL o1 (zOf (gN g (x.fdiv y)) (gL g (x.fdiv y)) * y)) + zOf (gN g (x.fmod y)) (gL g (x.fmod y)) = zOf n A := by
    rw [gz h1, zOf_gg hg hq, zOf_gg hg hr, ← hx]
    rw [Int.fmod_def x y, Int.mul_comm y]; omega
  rw [e, go h2, (gg_yes rfl).1, (gg_yes rfl).2, (z_of oA va).1, (z_of oA va).2]
  exact sameB_refl _ _
end Go.VL

/- Plain laws that the statements about divisors and shifts of integers need. No program here. -/
set_option linter.unusedVariables false
set_option linter.unusedSimpArgs false
namespace Go.VL

theorem gcd_in {x y : Int} (hx : inB x = true) (hy : inB y = true) : inB ((Int.gcd x y : Nat) : Int) = true := by
  unfold inB at *
  rw [decide_eq_true_iff] at *
  by_cases h : y = 0
  · subst h; rw [Int.gcd_zero_right]; omega
  · have h1 : Int.gcd x y ≤ y.natAbs := Nat.le_of_dvd (by omega) (Nat.gcd_dvd_right _ _)
    omega
theorem gcd_pos {x y : Int} (h : y ≠ 0) : ((Int.gcd x y : Nat) : Int) ≠ 0 := by
  have : 0 < Int.gcd x y := Nat.gcd_pos_of_pos_right _ (by omega)
  omega
theorem fmod_split (x y : Int) : x = x.fmod y + y * x.fdiv y := by rw [Int.fmod_def]; omega
theorem gcd_fmod (x y : Int) : Int.gcd y (x.fmod y) = Int.gcd x y := by
  have a1 := Int.gcd_dvd_left y (x.fmod y)
  have a2 := Int.gcd_dvd_right y (x.fmod y)
  have b1 := Int.gcd_dvd_left x y
  have b2 := Int.gcd_dvd_right x y
  have h1 : ((Int.gcd y (x.fmod y) : Nat) : Int) ∣ x := by
    have h : ((Int.gcd y (x.fmod y) : Nat) : Int) ∣ x.fmod y + y * x.fdiv y := Int.dvd_add a2 (Int.dvd_mul_of_dvd_left a1)
    rwa [← fmod_split] at h
  have h2 : ((Int.gcd x y : Nat) : Int) ∣ x.fmod y := by
    rw [Int.fmod_def]; exact Int.dvd_sub b1 (Int.dvd_mul_of_dvd_left b2)
  have k1 := Int.dvd_coe_gcd h1 a1
  have k2 := Int.dvd_coe_gcd b2 h2
  exact Nat.dvd_antisymm (Int.natCast_dvd_natCast.1 k1) (Int.natCast_dvd_natCast.1 k2)
theorem fmod_dvd {x g : Int} (h : g ∣ x) (hg : 0 ≤ g) : x.fmod g = 0 := by
  rw [Int.fmod_eq_emod_of_nonneg x hg]; exact Int.emod_eq_zero_of_dvd h
theorem gL_zero (ok : Bool) : gL ok 0 = [] := by
  cases ok <;> simp [gL, zL, in_zero, dg_zero]
theorem gcd_abs (x y z : Int) : ((Int.gcd (x * z) (y * z) : Nat) : Int) = ((Int.gcd x y : Nat) : Int) * (z.natAbs : Int) := by
  rw [Int.gcd_mul_right, Int.natCast_mul]
section eu
variable {n m k : Bool} {A B C : List Int} {x y : Int}
theorem eu_x {o : Bool} {w G : Int} (hG : G = ((Int.gcd x y : Nat) : Int)) (h : w = x ∨ w = y) : ((gL o (w.fmod G)).length : Int) = 0 := by
  have hd : G ∣ w := by
    subst hG
    rcases h with h | h
    · rw [h]; exact Int.gcd_dvd_left x y
    · rw [h]; exact Int.gcd_dvd_right x y
  rw [fmod_dvd hd (by omega), gL_zero]; rfl
theorem eu_mul {o1 o2 o3 o4 : Bool} {z g c : Int} (h1 : o1 = true) (h2 : o2 = true) (hp : gE o3 (x * z) = 0) (hq : gE o4 (y * z) = 0) (hg : g = ((Int.gcd x y : Nat) : Int)) (hc : c = (z.natAbs : Int)) :
    gE o1 ((Int.gcd (zOf (gN o3 (x * z)) (gL o3 (x * z))) (zOf (gN o4 (y * z)) (gL o4 (y * z))) : Nat) : Int) = 0 ∧ gE o2 (g * c) = 0 ∧
      sameB (gN o1 ((Int.gcd (zOf (gN o3 (x * z)) (gL o3 (x * z))) (zOf (gN o4 (y * z)) (gL o4 (y * z))) : Nat) : Int)) (gL o1 ((Int.gcd (zOf (gN o3 (x * z)) (gL o3 (x * z))) (zOf (gN o4 (y * z)) (gL o4 (y * z))) : Nat) : Int)) (gN o2 (g * c)) (gL o2 (g * c)) = true := by
  subst hg; subst hc
  rw [gz hp, gz hq]
  have hi := gcd_in (gE_zero.1 hp).2 (gE_zero.1 hq).2
  refine ⟨gE_in h1 hi, ?_, same_gg h1 h2 (gcd_abs x y z)⟩
  rw [← gcd_abs]; exact gE_in h2 hi
end eu
/-- Shifts. -/
theorem shZ_up {z k : Int} (h : 0 ≤ k) : shZ z k = z * 2 ^ k.toNat := by unfold shZ; rw [if_pos h]
theorem shZ_down {z k : Int} (h : 0 ≤ k) : shZ z (-k) = z.fdiv (2 ^ k.toNat) := by
  unfold shZ
  by_cases h0 : k = 0
  · subst h0; rw [if_pos (by omega)]; simp
  · rw [if_neg (by omega), Int.neg_neg]
theorem shZ_back {z k : Int} (h : 0 ≤ k) : shZ (shZ z k) (-k) = z := by
  rw [shZ_up h, shZ_down h]
  have hp := two_pow_pos k.toNat
  exact Int.mul_fdiv_cancel z (by omega)
theorem two_in {k : Int} (h0 : 0 ≤ k) (h : k ≤ 4095) : inB (2 ^ k.toNat) = true := by
  have h1 := two_mono (show k.toNat + 1 ≤ 4096 by omega)
  rw [← limit_two, Int.pow_succ] at h1
  have h2 := two_pow_pos k.toNat
  exact in_abs (by omega) (by omega)
theorem one_shZ {k : Int} (h0 : 0 ≤ k) : shZ (zOf (zN 1) (zL 1)) k = 2 ^ k.toNat := by
  rw [zOf_z in_one, shZ_up h0, Int.one_mul]
section ha
variable {n : Bool} {A : List Int} {k : Int}
theorem ha_back {o1 o2 : Bool} (h0 : 0 ≤ k) (oA : ok32 A) (va : validB n A = true) (he : gE o1 (shZ (zOf n A) k) = 0) (ho : o2 = true) :
    gE o2 (shZ (zOf (gN o1 (shZ (zOf n A) k)) (gL o1 (shZ (zOf n A) k))) (-k)) = 0 ∧
      sameB (gN o2 (shZ (zOf (gN o1 (shZ (zOf n A) k)) (gL o1 (shZ (zOf n A) k))) (-k))) (gL o2 (shZ (zOf (gN o1 (shZ (zOf n A) k)) (gL o1 (shZ (zOf n A) k))) (-k))) n A = true := by
  rw [gz he, shZ_back h0]
  refine ⟨gE_in ho (in_of_valid oA va), ?_⟩
  rw [ho, (gg_yes rfl).1, (gg_yes rfl).2, (z_of oA va).1, (z_of oA va).2]
  exact sameB_refl _ _
theorem ha_p {o : Bool} (h0 : 0 ≤ k) (h1 : k ≤ 4095) (ho : o = true) : gE o (shZ (zOf (zN 1) (zL 1)) k) = 0 ∧ zOf (gN o (shZ (zOf (zN 1) (zL 1)) k)) (gL o (shZ (zOf (zN 1) (zL 1)) k)) = 2 ^ k.toNat := by
  rw [one_shZ h0]
  exact ⟨gE_in ho (two_in h0 h1), zOf_gg ho (two_in h0 h1)⟩
end ha
theorem ha_q {z p k : Int} {o v : Bool} (h0 : 0 ≤ k) (hz : inB z = true) (hp : p = 2 ^ k.toNat) (ho : o = true) (hv : v = true) :
    dmE o z p = 0 ∧ gE v (shZ z (-k)) = 0 ∧ sameB (gN (okQ o z p) (z.fdiv p)) (gL (okQ o z p) (z.fdiv p)) (gN v (shZ z (-k))) (gL v (shZ z (-k))) = true := by
  subst hp
  have h2 := two_pow_pos k.toNat
  rw [shZ_down h0]
  exact ⟨dmE_yes ho hz (by omega), gE_in hv (fdiv_in hz (by omega)), same_gg (okQ_yes ho hz (by omega)) hv rfl⟩
theorem bop_and_4095 {x : Int} (h0 : -9223372036854775808 ≤ x) (h1 : x ≤ 9223372036854775807) : bop .and (.int .i64 x) (.int .i64 4095) = some (.int .i64 (x % 4096)) := by
  have hb : ((BitVec.ofInt 64 x &&& BitVec.ofInt 64 4095).toNat : Int) = x % 4096 := by
    rw [BitVec.toNat_and]
    have e : (BitVec.ofInt 64 4095).toNat = 2 ^ 12 - 1 := by decide
    rw [e, Nat.and_two_pow_sub_one_eq_mod]
    have e2 : ((BitVec.ofInt 64 x).toNat : Int) = x % 18446744073709551616 := by
      rw [BitVec.toNat_ofInt]; omega
    omega
  have hw : IntKind.i64.wrap (x % 4096) = x % 4096 := wrap_i64 (by omega)
  simp only [bop]
  show some (Value.int .i64 (IntKind.i64.wrap ((BitVec.ofInt 64 x &&& BitVec.ofInt 64 4095).toNat : Int))) = _
  rw [hb, hw]
end Go.VL

/- The contracts of the integer's functions at numbers. -/
set_option linter.unusedVariables false
set_option linter.unusedSimpArgs false
namespace Go.VL
open Go.Proofs
abbrev iB (z : Int) : B := intB (zN z) (zL z)
section
variable {x y : Int}
theorem c33 (hx : inB x = true) (hy : inB y = true) : VF Try.prog 80 [iB x, iB y] (.tup [numB .i64 (cmp3 x y), numB .i64 0]) := by
  have h := f33 (zN x) (zL x) (zN y) (zL y) (len_zL' _) (len_zL' _) (ok32_zL _) (ok32_zL _)
  rw [zOf_z hx, zOf_z hy, valid_zz, valid_zz] at h
  exact h
theorem c18 (hx : inB x = true) (hy : inB y = true) (h0 : y ≠ 0) : VF Try.prog 79 [iB x, iB y] (.tup [iB (x.fdiv y), iB (x.fmod y), numB .i64 0]) := by
  have h := f18 (zN x) (zL x) (zN y) (zL y) (len_zL' _) (len_zL' _) (ok32_zL _) (ok32_zL _)
  rw [zOf_z hx, zOf_z hy, valid_zz, valid_zz, Bool.and_self, dmR_ok rfl h0 (zE_in.2 (fdiv_in hx h0))] at h
  exact h
theorem c31 (hx : inB x = true) (hy : inB y = true) : VF Try.prog 77 [iB x, iB y] (.tup [iB ((Int.gcd x y : Nat) : Int), numB .i64 0]) := by
  have h := f31 (zN x) (zL x) (zN y) (zL y) (len_zL' _) (len_zL' _) (ok32_zL _) (ok32_zL _)
  rw [zOf_z hx, zOf_z hy, valid_zz, valid_zz, Bool.and_self, gR_in rfl (gcd_in hx hy)] at h
  exact h
theorem c31n (hx : inB (-x) = true) (hy : inB (-y) = true) : VF Try.prog 77 [iB (-x), iB (-y)] (.tup [iB ((Int.gcd x y : Nat) : Int), numB .i64 0]) := by
  have h := c31 hx hy
  rw [Int.gcd_neg, Int.neg_gcd] at h
  exact h
theorem c36 (x : Int) : VF Try.prog 49 [iB x] (boolB true) := by
  have h := f36 (zN x) (zL x) (len_zL' _)
  rw [valid_zz] at h
  exact h
end
/-- An integer that is valid, by its number. -/
theorem as_z {n : Bool} {A : List Int} (oA : ok32 A) (h : validB n A = true) : ∃ z : Int, n = zN z ∧ A = zL z ∧ inB z = true :=
  ⟨zOf n A, (z_of oA h).1.symm, (z_of oA h).2.symm, in_of_valid oA h⟩
theorem zL_nil {z : Int} (h : inB z = true) : (zL z).length = 0 ↔ z = 0 := by
  constructor
  · intro h0
    apply Classical.byContradiction
    intro hz
    have := zOf_z h
    rw [show zL z = [] from List.eq_nil_of_length_eq_zero h0] at this
    simp [zOf, sg, val] at this
    exact hz this.symm
  · rintro rfl
    have : zL 0 = [] := by simp [zL, in_zero, dg, dgN_zero]
    rw [this]; rfl
end Go.VL

/- Plain laws of rationals: numerators and denominators in lowest terms. No program. -/
set_option linter.unusedVariables false
set_option linter.unusedSimpArgs false
namespace Go.VL
abbrev qB (p q : Int) : B := .agg [boolB (zN p), u32S (zL p), boolB (zN q), u32S (zL q)]
abbrev ratB (n : Bool) (A : List Int) (m : Bool) (D : List Int) : B := .agg [boolB n, u32S A, boolB m, u32S D]
theorem retQ {p q p' q' : Int} (hp : p' = p) (hq : q' = q) : qB p' q' = oneB [qB p q] := by subst hp; subst hq; rfl
theorem retZ {p p' : Int} (hp : p' = p) : iB p' = oneB [iB p] := by subst hp; rfl
theorem zB_zero : iB 0 = intB false [] := by
  have h1 : zN 0 = false := by simp [zN]
  have h2 : zL 0 = [] := by simp [zL, in_zero, dg, dgN_zero]
  simp only [iB, h1, h2]
theorem in_neg (z : Int) : inB (-z) = inB z := by unfold inB; rw [Int.natAbs_neg]
theorem zL_neg (z : Int) : zL (-z) = zL z := by unfold zL; rw [in_neg, Int.natAbs_neg]
theorem zN_neg {z : Int} (h : (zL z).length ≠ 0) : zN (-z) = !zN z := by
  have hz : inB z = true := by
    cases h' : inB z with
    | true => rfl
    | false => rw [(z_big h').2] at h; exact absurd rfl h
  have h0 : z ≠ 0 := fun e => h ((zL_nil hz).2 e)
  unfold zN
  rw [in_neg, hz]
  simp only [Bool.true_and]
  by_cases h1 : z < 0
  · rw [decide_eq_true h1, decide_eq_false (by omega)]; rfl
  · rw [decide_eq_false h1, decide_eq_true (by omega)]; rfl
theorem iB_nil {z : Int} (h : ((zL z).length : Int) = 0) : iB (-z) = intB false [] := by
  have h0 : (zL z).length = 0 := by omega
  cases h' : inB z with
  | true => rw [(zL_nil h').1 h0, Int.neg_zero]; exact zB_zero
  | false =>
    have := z_big (show inB (-z) = false by rw [in_neg]; exact h')
    simp only [iB, this.1, this.2]
theorem negR {z : Int} (h : ((zL z).length : Int) ≠ 0) : iB (-z) = oneB [.agg [boolB (!zN z), u32S (zL z)]] := by
  have h0 : (zL z).length ≠ 0 := by omega
  simp only [iB, zL_neg, zN_neg h0]; rfl
/-- Is it one? -/
def oneZ (n : Bool) (A : List Int) : Bool := !n && ((A.length : Int) == 1) && (A.getD 0 0 == 1)
theorem one_z {z : Int} (h : inB z = true) : oneZ (zN z) (zL z) = decide (z = 1) := by
  have e1 : zN 1 = false ∧ zL 1 = [1] := by
    refine ⟨by simp [zN], ?_⟩
    simp only [zL, in_one, if_true]
    decide +kernel
  by_cases h1 : z = 1
  · subst h1
    rw [e1.1, e1.2]; rfl
  · rw [decide_eq_false h1]
    cases hq : oneZ (zN z) (zL z) with
    | false => rfl
    | true =>
      exfalso
      unfold oneZ at hq
      simp only [Bool.and_eq_true, Bool.not_eq_true', beq_iff_eq] at hq
      obtain ⟨⟨h2, h3⟩, h4⟩ := hq
      have h5 := zOf_z h
      have h6 : zL z = [1] := by
        match hl : zL z with
        | [] => rw [hl] at h3; simp at h3
        | [a] => rw [hl] at h4; simp at h4; rw [h4]
        | a :: b :: r => rw [hl] at h3; simp at h3; omega
      rw [h2, h6] at h5
      simp [zOf, sg, val] at h5
      exact h1 h5.symm
theorem nil_z {z : Int} (h : inB z = true) : (((zL z).length : Int) == 0) = decide (z = 0) := by
  have := zL_nil h
  by_cases h0 : z = 0
  · rw [decide_eq_true h0, beq_yes]; have := this.2 h0; omega
  · rw [decide_eq_false h0, beq_no]; intro e; exact h0 (this.1 (by omega))

/-- In lowest terms. -/
def rdG (x y : Int) : Int := ((Int.gcd x y : Nat) : Int)
def rdW (x y : Int) : Int := if y < 0 then -x else x
def rdN (x y : Int) : Int := (rdW x y).fdiv (rdG x y)
def rdD (x y : Int) : Int := (rdW y y).fdiv (rdG x y)
theorem gcd_neg2 (x y : Int) : ((Int.gcd (-x) (-y) : Nat) : Int) = rdG x y := by unfold rdG; rw [Int.gcd_neg, Int.neg_gcd]
theorem rd_one {x y : Int} (hg : rdG x y = 1) : rdN x y = rdW x y ∧ rdD x y = rdW y y := by
  unfold rdN rdD
  rw [hg]
  simp
/-- A valid number. -/
def okR (p q : Int) : Prop := 0 < q ∧ Int.gcd p q = 1 ∧ inB p = true ∧ inB q = true
def vR (n : Bool) (A : List Int) (m : Bool) (D : List Int) : Bool := validB n A && validB m D && decide (0 < zOf m D ∧ Int.gcd (zOf n A) (zOf m D) = 1)
theorem vR_z {x y : Int} (hx : inB x = true) (hy : inB y = true) : vR (zN x) (zL x) (zN y) (zL y) = decide (0 < y ∧ Int.gcd x y = 1) := by
  unfold vR
  rw [valid_zz, valid_zz, zOf_z hx, zOf_z hy]; rfl
theorem vR_ok {p q : Int} (h : okR p q) : vR (zN p) (zL p) (zN q) (zL q) = true := by
  rw [vR_z h.2.2.1 h.2.2.2]; exact decide_eq_true ⟨h.1, h.2.1⟩
theorem as_q {n : Bool} {A : List Int} {m : Bool} {D : List Int} (oA : ok32 A) (oD : ok32 D) (h : vR n A m D = true) : ∃ p q : Int, n = zN p ∧ A = zL p ∧ m = zN q ∧ D = zL q ∧ okR p q := by
  unfold vR at h
  rw [Bool.and_eq_true, Bool.and_eq_true] at h
  obtain ⟨⟨h1, h2⟩, h34⟩ := h
  have h5 := of_decide_eq_true h34
  obtain ⟨p, e1, e2, hp⟩ := as_z oA h1
  obtain ⟨q, e3, e4, hq⟩ := as_z oD h2
  rw [e1, e2, e3, e4, zOf_z hp, zOf_z hq] at h5
  exact ⟨p, q, e1, e2, e3, e4, h5.1, h5.2, hp, hq⟩
theorem zN_lt {z : Int} (h : zN z = true) : z < 0 := by
  unfold zN at h
  rw [Bool.and_eq_true] at h
  exact of_decide_eq_true h.2
theorem zN_ge {z : Int} (hz : inB z = true) (h : zN z = false) : ¬ z < 0 := fun hc => by
  unfold zN at h
  rw [hz, decide_eq_true hc] at h
  cases h
theorem zN_no {z : Int} (h : ¬ z < 0) : zN z = false := by unfold zN; rw [decide_eq_false h, Bool.and_false]
theorem zN_yes {z : Int} (hz : inB z = true) (h : z < 0) : zN z = true := by unfold zN; rw [hz, decide_eq_true h]; rfl
theorem rdG_in {x y : Int} (hx : inB x = true) (hy : inB y = true) : inB (rdG x y) = true := gcd_in hx hy
theorem rdG_ne (x : Int) {y : Int} (h : y ≠ 0) : rdG x y ≠ 0 := gcd_pos h
theorem qB_zero : qB 0 0 = ratB false [] false [] := by
  have h1 : zN 0 = false := by simp [zN]
  have h2 : zL 0 = [] := by simp [zL, in_zero, dg, dgN_zero]
  simp only [qB, h1, h2]
section
variable {x y : Int}
theorem rdR1 (h : y < 0) : qB (rdN x y) (rdD x y) = oneB [qB ((-x).fdiv (rdG x y)) ((-y).fdiv (rdG x y))] := retQ (by simp only [rdN, rdW, if_pos h]) (by simp only [rdD, rdW, if_pos h])
theorem rdR2 (h : y < 0) (hg : rdG x y = 1) : qB (rdN x y) (rdD x y) = oneB [qB (-x) (-y)] := retQ (by rw [(rd_one hg).1, rdW, if_pos h]) (by rw [(rd_one hg).2, rdW, if_pos h])
theorem rdR3 (h : ¬ y < 0) : qB (rdN x y) (rdD x y) = oneB [qB (x.fdiv (rdG x y)) (y.fdiv (rdG x y))] := retQ (by simp only [rdN, rdW, if_neg h]) (by simp only [rdD, rdW, if_neg h])
theorem rdR4 (h : ¬ y < 0) (hg : rdG x y = 1) : qB (rdN x y) (rdD x y) = oneB [qB x y] := retQ (by rw [(rd_one hg).1, rdW, if_neg h]) (by rw [(rd_one hg).2, rdW, if_neg h])
theorem rvF (h : ¬ 0 < y) : boolB (decide (0 < y ∧ Int.gcd x y = 1)) = oneB [boolB false] := by rw [decide_eq_false (fun hc => h hc.1)]; rfl
theorem rv1 (h : y = 1) : boolB (decide (0 < y ∧ Int.gcd x y = 1)) = oneB [boolB true] := by
  rw [decide_eq_true]; rfl
  subst h
  exact ⟨by omega, by simp⟩
theorem rvG (h : 0 < y) : boolB (decide (0 < y ∧ Int.gcd x y = 1)) = oneB [boolB (decide (rdG x y = 1))] := by
  show _ = boolB (decide (rdG x y = 1))
  congr 3
  apply propext
  unfold rdG
  constructor
  · rintro ⟨_, h2⟩; omega
  · intro h2; exact ⟨h, by omega⟩
end
def mkN (x y : Int) : Int := if y = 0 then 0 else rdN x y
def mkD (x y : Int) : Int := if y = 0 then 0 else rdD x y
def mkE (y : Int) : Int := if y = 0 then 4 else 0
abbrev rR (p q e : Int) : B := .tup [qB p q, numB .i64 e]
theorem mkR0 {x y : Int} (h : y = 0) : rR (mkN x y) (mkD x y) (mkE y) = oneB [ratB false [] false [], numB .i64 4] := by
  simp only [mkN, mkD, mkE, if_pos h, rR, qB_zero]; rfl
theorem mkR1 {x y : Int} (h : y ≠ 0) : rR (mkN x y) (mkD x y) (mkE y) = oneB [qB (rdN x y) (rdD x y), numB .i64 0] := by
  simp only [mkN, mkD, mkE, if_neg h, rR]; rfl
end Go.VL

/- Plain laws of rationals: what a chain of calls that keeps the first error yields. No program. -/
set_option linter.unusedVariables false
set_option linter.unusedSimpArgs false
namespace Go.VL
open Go.Proofs
def clip (z : Int) : Int := if inB z = true then z else 0
/-- A value, and the first error. -/
def mv (e z : Int) : Int := if e = 0 then clip z else 0
def me (e z : Int) : Int := if e = 0 then zE z else e
section
variable {e z x y : Int}
theorem iB_clip (z : Int) : iB (clip z) = iB z := by
  unfold clip
  split
  · rfl
  · rename_i h
    have h1 : zL z = [] := by unfold zL; rw [if_neg h]
    have h2 : zN z = false := by unfold zN; simp [Bool.eq_false_iff.2 h]
    rw [zB_zero, iB, h1, h2]
theorem in_clip (z : Int) : inB (clip z) = true := by
  unfold clip; split
  · assumption
  · exact in_zero
theorem clip_in (h : inB z = true) : clip z = z := by unfold clip; rw [if_pos h]
theorem in_mv (e z : Int) : inB (mv e z) = true := by
  unfold mv; split
  · exact in_clip z
  · exact in_zero
theorem mv_ne (h : e ≠ 0) (z : Int) : intB false [] = iB (mv e z) := by rw [mv, if_neg h, zB_zero]
theorem mv_eq (h : e = 0) (z : Int) : iB z = iB (mv e z) := by rw [mv, if_pos h, iB_clip]
theorem me_ne (h : e ≠ 0) (z : Int) : e = me e z := by rw [me, if_neg h]
theorem me_eq (h : e = 0) (z : Int) : zE z = me e z := by rw [me, if_pos h]
theorem zE_no (h : inB z = false) : zE z = 2 := by unfold zE; simp [h]
theorem me_in (h : inB z = true) : me 0 z = 0 := by rw [me, if_pos rfl]; exact zE_in.2 h
theorem me_no (h : inB z = false) : me 0 z = 2 := by rw [me, if_pos rfl]; exact zE_no h
theorem me_two (z : Int) : me 2 z = 2 := by rw [me, if_neg (by decide)]
theorem mv_in (h : inB z = true) : mv 0 z = z := by rw [mv, if_pos rfl, clip_in h]
end
/-- It is in range, as far as that is seen at once. -/
theorem inT {z : Int} (h : inB z = true := by first | with_reducible assumption | with_reducible exact in_mv _ _ | with_reducible exact (in_neg _).trans (in_mv _ _) | with_reducible exact in_zero | with_reducible exact in_one | with_reducible exact (in_neg _).trans (by with_reducible assumption) | with_reducible exact rdG_in (by with_reducible assumption) (by with_reducible assumption) | (first | decide | omega)) : inB z = true := h
def qF (ok : Bool) : Int := if ok then 0 else 2
def qN (ok : Bool) (n d : Int) : Int := if ok then rdN n d else 0
def qD (ok : Bool) (n d : Int) : Int := if ok then rdD n d else 0
/-- A result out of a numerator and a denominator that came with an error. -/
def opN (e n d : Int) : Int := if e = 0 then rdN n d else 0
def opD (e n d : Int) : Int := if e = 0 then rdD n d else 0
def addOk (p q r s : Int) : Bool := inB (p * s) && inB (r * q) && inB (p * s + r * q) && inB (q * s)
def subOk (p q r s : Int) : Bool := inB (p * s) && inB (r * q) && inB (p * s - r * q) && inB (q * s)
def mulOk (p q r s : Int) : Bool := inB (p * r) && inB (q * s)
def divOk (p q r s : Int) : Bool := inB (p * s) && inB (q * r)
def aX (p s : Int) : Int := mv 0 (p * s)
def aE1 (p s : Int) : Int := me 0 (p * s)
def aY (p q r s : Int) : Int := mv (aE1 p s) (r * q)
def aE2 (p q r s : Int) : Int := me (aE1 p s) (r * q)
def aN (p q r s : Int) : Int := mv (aE2 p q r s) (aX p s + aY p q r s)
def aE3 (p q r s : Int) : Int := me (aE2 p q r s) (aX p s + aY p q r s)
def aD (p q r s : Int) : Int := mv (aE3 p q r s) (q * s)
def aE (p q r s : Int) : Int := me (aE3 p q r s) (q * s)
def sN (p q r s : Int) : Int := mv (aE2 p q r s) (aX p s + -aY p q r s)
def sE3 (p q r s : Int) : Int := me (aE2 p q r s) (aX p s + -aY p q r s)
def sD (p q r s : Int) : Int := mv (sE3 p q r s) (q * s)
def sE (p q r s : Int) : Int := me (sE3 p q r s) (q * s)
def mN (p r : Int) : Int := mv 0 (p * r)
def mE1 (p r : Int) : Int := me 0 (p * r)
def mD (p q r s : Int) : Int := mv (mE1 p r) (q * s)
def mE (p q r s : Int) : Int := me (mE1 p r) (q * s)
section
variable {p q r s : Int}
theorem add_spec (p q r s : Int) : aE p q r s = qF (addOk p q r s) ∧ (addOk p q r s = true → aN p q r s = p * s + r * q ∧ aD p q r s = q * s) := by
  cases h1 : inB (p * s) with
  | false => simp [aE, aE3, aE2, aE1, addOk, h1, qF, me_no, me_two]
  | true =>
    cases h2 : inB (r * q) with
    | false => simp [aE, aE3, aE2, aE1, addOk, h1, h2, qF, me_in, me_no, me_two]
    | true =>
      cases h3 : inB (p * s + r * q) with
      | false => simp [aE, aE3, aE2, aE1, aX, aY, addOk, h1, h2, h3, qF, me_in, me_no, me_two, mv_in]
      | true =>
        cases h4 : inB (q * s) with
        | false => simp [aE, aE3, aE2, aE1, aX, aY, addOk, h1, h2, h3, h4, qF, me_in, me_no, me_two, mv_in]
        | true => simp [aE, aE3, aE2, aE1, aX, aY, aN, aD, addOk, h1, h2, h3, h4, qF, me_in, mv_in]
theorem sub_spec (p q r s : Int) : sE p q r s = qF (subOk p q r s) ∧ (subOk p q r s = true → sN p q r s = p * s - r * q ∧ sD p q r s = q * s) := by
  have e : p * s + -(r * q) = p * s - r * q := rfl
  cases h1 : inB (p * s) with
  | false => simp [sE, sE3, aE2, aE1, subOk, h1, qF, me_no, me_two]
  | true =>
    cases h2 : inB (r * q) with
    | false => simp [sE, sE3, aE2, aE1, subOk, h1, h2, qF, me_in, me_no, me_two]
    | true =>
      cases h3 : inB (p * s - r * q) with
      | false => simp [sE, sE3, aE2, aE1, aX, aY, subOk, h1, h2, h3, e, qF, me_in, me_no, me_two, mv_in]
      | true =>
        cases h4 : inB (q * s) with
        | false => simp [sE, sE3, aE2, aE1, aX, aY, subOk, h1, h2, h3, h4, e, qF, me_in, me_no, me_two, mv_in]
        | true => simp [sE, sE3, aE2, aE1, aX, aY, sN, sD, subOk, h1, h2, h3, h4, e, qF, me_in, mv_in]
theorem mul_spec (p q r s : Int) : mE p q r s = qF (mulOk p q r s) ∧ (mulOk p q r s = true → mN p r = p * r ∧ mD p q r s = q * s) := by
  cases h1 : inB (p * r) with
  | false => simp [mE, mE1, mulOk, h1, qF, me_no, me_two]
  | true =>
    cases h2 : inB (q * s) with
    | false => simp [mE, mE1, mulOk, h1, h2, qF, me_in, me_no, me_two]
    | true => simp [mE, mE1, mN, mD, mulOk, h1, h2, qF, me_in, mv_in]
/-- From the chain to the closed form. -/
theorem op_close {e n d n' d' : Int} {ok : Bool} (h : e = qF ok ∧ (ok = true → n = n' ∧ d = d')) : rR (opN e n d) (opD e n d) e = rR (qN ok n' d') (qD ok n' d') (qF ok) := by
  cases ok with
  | false => simp only [h.1, opN, opD, qN, qD, qF]; rfl
  | true =>
    obtain ⟨h1, h2⟩ := h.2 rfl
    simp only [h.1, opN, opD, qN, qD, qF, h1, h2]; rfl
end
theorem qF_zero {ok : Bool} (h : qF ok = 0) : ok = true := by cases ok <;> simp_all [qF]
theorem add_den {p q r s : Int} (ha : okR p q) (hb : okR r s) (h : aE p q r s = 0) : aD p q r s ≠ 0 := by
  have hs := add_spec p q r s
  rw [(hs.2 (qF_zero (hs.1 ▸ h))).2]
  exact Int.mul_ne_zero (by have := ha.1; omega) (by have := hb.1; omega)
theorem sub_den {p q r s : Int} (ha : okR p q) (hb : okR r s) (h : sE p q r s = 0) : sD p q r s ≠ 0 := by
  have hs := sub_spec p q r s
  rw [(hs.2 (qF_zero (hs.1 ▸ h))).2]
  exact Int.mul_ne_zero (by have := ha.1; omega) (by have := hb.1; omega)
theorem mul_den {p q r s : Int} (hq : q ≠ 0) (hs : s ≠ 0) (h : mE p q r s = 0) : mD p q r s ≠ 0 := by
  have h1 := mul_spec p q r s
  rw [(h1.2 (qF_zero (h1.1 ▸ h))).2]
  exact Int.mul_ne_zero hq hs
end Go.VL

/- Further rules of the logic: rows that may be nil, rows whose room is known, arrays; and their short forms. -/
set_option linter.unusedVariables false
set_option linter.unusedSimpArgs false
namespace Go.VL
open Go.RowKit

section
variable {P : Program} {w0 W W1 : World} {P0 F : Nat → Prop} {E0 E E1 : Env} {pl0 pl pl1 : Plan} {N : Frm} {id : Nat} {s : Slots} {a : Act} {o : Oper} {K : Act → World → Prop} {Qx : Exit → Act → World → Prop}

/-- An entry without cells and without memory. -/
theorem Sim.ghost (S : Sim w0 P0 E0 pl0 N E pl s a W) (hf : pl id = none) {sz : Nat} (h0 : 0 < sz) {t : Tag} : Sim w0 P0 E0 pl0 N (setAt E id (some ⟨sz, [], t⟩)) (setAt pl id (some (0, 0))) s a W := by
  have hpl : ∀ i p, pl i = some p → setAt pl id (some (0, 0)) i = some p := fun i p h => by
    rw [setAt_ne _ _ (fun e => by rw [e, hf] at h; cases h)]; exact h
  have hh : ∀ k, Hot (setAt E id (some ⟨sz, [], t⟩)) (setAt pl id (some (0, 0))) k → Hot E pl k ∨ W.heap.size ≤ k := fun k ⟨i, e, c, h1, h2, h3⟩ => by
    by_cases hi : i = id
    · subst hi
      rw [setAt_self] at h3
      injection h3 with h3
      injection h3 with _ h3
      cases h3
    · rw [setAt_ne _ _ hi] at h1 h3
      exact .inl ⟨i, e, c, h1, h2, h3⟩
  refine S.step (fun _ => False) rfl rfl rfl (Nat.le_refl _) (fun k _ _ => rfl) (fun k h => h.elim) hpl hh ⟨fun i e he => ?_, fun i j e1 e2 g c1 c2 hi hj pi pj => ?_⟩
  · by_cases h : i = id
    · subst h
      rw [setAt_self] at he
      injection he with he
      subst he
      exact ⟨0, 0, #[], t.T.getD 0, setAt_self _ _ _, (fun h => absurd h (Nat.lt_irrefl 0)), (fun h => absurd h (Nat.lt_irrefl 0)), by simp, by simp, Nat.zero_le _, ⟨h0, fun T' h => by rw [h]; rfl⟩, fun j x hj => by simp at hj⟩
    · rw [setAt_ne _ _ h] at he
      exact (S.eok.ent i e he).move (fun _ => False) (fun k _ _ => rfl) (fun k h => h.elim) hpl hh (fun _ _ _ h => h)
  · have ne : ∀ {k c}, setAt pl id (some (0, 0)) k = some (g, c + 1) → k ≠ id := fun {k c} h e => by
      subst e
      rw [setAt_self] at h
      injection h with h
      injection h with _ h
      cases h
    have h1 := ne pi
    have h2 := ne pj
    rw [setAt_ne _ _ h1] at hi pi
    rw [setAt_ne _ _ h2] at hj pj
    exact S.eok.inj i j e1 e2 g c1 c2 hi hj pi pj
theorem ghost_hot (hf : pl id = none) {sz k : Nat} {t : Tag} (h : Hot (setAt E id (some ⟨sz, [], t⟩)) (setAt pl id (some (0, 0))) k) : Hot E pl k := by
  obtain ⟨i, e, c, h1, h2, h3⟩ := h
  by_cases hi : i = id
  · subst hi
    rw [setAt_self] at h3
    injection h3 with h3
    injection h3 with _ h3
    cases h3
  · rw [setAt_ne _ _ hi] at h1 h3
    exact ⟨i, e, c, h1, h2, h3⟩
/-- A value, and beside it an entry without memory. -/
theorem wp_valG {u : Value} {v : V} (S : Sim w0 P0 E0 pl0 N E pl s a W) (hf : pl id = none) (hrun : (execOp a.eval o).run P W = .ok (.value u) W) (hr : Rep W (Qf (FF w0 P0) E pl) pl v u) {sz : Nat} (h0 : 0 < sz) {t : Tag}
    (hK : Next w0 P0 E0 pl0 pl N id s a o K (setAt E id (some ⟨sz, [], t⟩)) v) : Oper.wp P o a W K Qx := by
  unfold Oper.wp
  rw [hrun]
  exact hK u _ W (S.ghost hf h0) (fun k hk h => by rw [setAt_ne _ _ hk]; exact h) (hr.move (fun _ _ _ => rfl) (fun k hk _ => ⟨hk.1, fun hh => hk.2 (ghost_hot hf hh)⟩) (fun i p h => by rw [setAt_ne _ _ (fun e => by rw [e, hf] at h; cases h)]; exact h))
theorem Eff.moveG {x : Operand} {v : V} {sz : Nat} (h : ev s x = some v) (h0 : 0 < sz) : Eff P id s E (.move x) (some v) [(id, some ⟨sz, [], true⟩)] :=
  .sem _ _ _ fun s' E' h1 h2 w0 W P0 E0 pl0 pl N a o K Qx ho S hf hK => wp_valG (u := a.eval x) S hf (by simp [execOp, ho]) (S.ev (by rw [← h1 x (by simp [Op.operands])]; exact h)) h0 hK
theorem Eff.nilRow {sz : Nat} (h0 : 0 < sz) : Eff P id s E (.assign (.const (.slice none 0 0))) (some (.row id 0 none)) [(id, some ⟨sz, [], true⟩)] :=
  .sem _ _ _ fun s' E' h1 h2 w0 W P0 E0 pl0 pl N a o K Qx ho S hf hK => wp_valG (u := .slice none 0 0) (v := .row id 0 none) S hf (by simp [execOp, ho, Act.eval]) (show RowRep pl id 0 none (.slice none 0 0) from .inl ⟨rfl, rfl, rfl⟩) h0 hK

/-- The source of what is appended: a row by its own cells. -/
theorem own_src (S : Sim w0 P0 E0 pl0 N E pl s a W) {j m : Nat} {e : Ent} {y : Operand} {v : V} (hy : ev s y = some v) (hv : v = .own j m ∨ ∃ c, v = .row j m c) (he : E j = some e) (hm : m * e.sz ≤ e.cells.length) :
    ∃ (sp : Option Addr) (sCap : Nat) (us : List Value), a.eval y = .slice sp m sCap ∧ us.length = m * e.sz ∧ (0 < m → ∃ A, sp = some A ∧ ∀ (q : Nat) (u : Value), us[q]? = some u → W.cell? (A.add q) = some u) ∧ (∀ u ∈ us, u.oneCell' = true) ∧
      ∀ (q : Nat) (x : V), (e.cells.take (m * e.sz))[q]? = some x → ∃ u : Value, us[q]? = some u ∧ RepL W (Qf (FF w0 P0) E pl) pl x u := by
  have key : ∀ g c, pl j = some (g, c) → m ≤ c → a.eval y = .slice (some ⟨g, 0, none⟩) m c → ∃ (sp : Option Addr) (sCap : Nat) (us : List Value), a.eval y = .slice sp m sCap ∧ us.length = m * e.sz ∧ (0 < m → ∃ A, sp = some A ∧ ∀ (q : Nat) (u : Value), us[q]? = some u → W.cell? (A.add q) = some u) ∧ (∀ u ∈ us, u.oneCell' = true) ∧
      ∀ (q : Nat) (x : V), (e.cells.take (m * e.sz))[q]? = some x → ∃ u : Value, us[q]? = some u ∧ RepL W (Qf (FF w0 P0) E pl) pl x u := fun g c h1 h2 h3 => by
    obtain ⟨g', c', us, hyv, hul, hcell, hus⟩ := own_cellsV S h1 h2 h3 he hm
    exact ⟨_, _, us, hyv, hul, fun _ => ⟨_, rfl, hcell⟩, own_one S (by rw [hul, List.length_take]; omega) hus, fun q x hq => let ⟨u, e1, _, e2⟩ := hus q x hq; ⟨u, e1, e2⟩⟩
  rcases hv with rfl | ⟨c, rfl⟩
  · obtain ⟨g, c, h1, h2, h3⟩ := S.ev hy
    exact key g c h1 h2 h3
  · rcases (show RowRep pl j m c (a.eval y) from S.ev hy) with ⟨_, h0, h⟩ | ⟨g, c', h1, h2, h3, _⟩
    · subst h0
      exact ⟨none, 0, [], h, by simp, fun h => absurd h (Nat.lt_irrefl 0), fun u hu => by simp at hu, fun q x hq => by simp at hq⟩
    · exact key g c' h1 h2 h3
/-- The same by value, of elements of any kind. -/
theorem val_src (S : Sim w0 P0 E0 pl0 N E pl s a W) {y : Operand} {sz : Nat} {l : List B} {m : Nat} (hy : ev s y = some (.b (.sl sz l))) (hl : l.length = m * sz) (h0 : 0 < sz) :
    ∃ (sp : Option Addr) (sCap : Nat) (us : List Value), a.eval y = .slice sp m sCap ∧ us.length = m * sz ∧ (0 < m → ∃ A, sp = some A ∧ ∀ (q : Nat) (u : Value), us[q]? = some u → W.cell? (A.add q) = some u) ∧ (∀ u ∈ us, u.oneCell' = true) ∧
      ∀ (q : Nat) (x : V), (l.map V.b)[q]? = some x → ∃ u : Value, us[q]? = some u ∧ RepL W (Qf (FF w0 P0) E pl) pl x u := by
  have hrep : RepB W (Qf (FF w0 P0) E pl) (.sl sz l) (a.eval y) := S.ev hy
  generalize a.eval y = q at hrep
  cases hrep with
  | nilsl _ hs0 =>
    have hm : m = 0 := by
      rcases Nat.mul_eq_zero.1 (show m * sz = 0 from hl.symm) with h | h
      · exact h
      · omega
    subst hm
    exact ⟨none, 0, [], rfl, by simp, fun h => absurd h (Nat.lt_irrefl 0), fun u hu => by simp at hu, fun q x hq => by simp at hq⟩
  | sl A n c _ _ f hl2 hc hm hs0 hqq hcell hone hrr =>
    have hnm : n = m := Nat.eq_of_mul_eq_mul_right hs0 (by omega)
    subst hnm
    have hlen : ((List.range l.length).map f).length = l.length := by simp
    refine ⟨some A, c, (List.range l.length).map f, rfl, by rw [hlen, hl], fun _ => ⟨A, rfl, fun q u hq => ?_⟩, fun u hu => ?_, fun q x hq => ?_⟩
    · have hjl := (List.getElem?_eq_some_iff.1 hq).1
      rw [hlen] at hjl
      simp [hjl] at hq
      rw [hcell q hjl, hq]
    · obtain ⟨q, hq⟩ := List.mem_iff_getElem?.1 hu
      have hjl := (List.getElem?_eq_some_iff.1 hq).1
      rw [hlen] at hjl
      simp [hjl] at hq
      rw [← hq]; exact hone q hjl
    · simp only [List.getElem?_map, Option.map_eq_some_iff] at hq
      obtain ⟨y, hy, rfl⟩ := hq
      have hjl := (List.getElem?_eq_some_iff.1 hy).1
      exact ⟨f q, by simp [hjl], hrr q y hy⟩

/-- A row that may be nil grows. -/
theorem eff_appendRow {x y : Operand} {T el : TypeId} {i n m sCap : Nat} {e : Ent} {sp : Option Addr} {us : List Value} {new : List V} {bytes : Nat} {t : Tag} (hx : ev s x = some (.row i n none)) (he : E i = some e) (hh : e.hot = true) (hn : e.cells.length = n * e.sz)
    (hyv : a.eval y = .slice sp m sCap) (hul : us.length = m * e.sz) (hcell : 0 < m → ∃ A, sp = some A ∧ ∀ (q : Nat) (u : Value), us[q]? = some u → W.cell? (A.add q) = some u) (hone : ∀ u ∈ us, u.oneCell' = true)
    (hnl : new.length = us.length) (hnew : ∀ (q : Nat) (x : V), new[q]? = some x → ∃ u, us[q]? = some u ∧ RepL W (Qf (FF w0 P0) E pl) pl x u)
    (hu : P.underlying T = some (.slice el)) (hs : szOf P el = some e.sz) (hb : (P.info? el).map (·.bytes) = some bytes) (hz : (zeroOf P el).map List.length = some e.sz) (hm : (n + m) * bytes ≤ 140737488355328) (hm' : n + m ≤ maxLen)
    (ho : o.op = .call { callee := .builtin .append, args := #[x, y], argTypes := #[T, T] }) (S : Sim w0 P0 E0 pl0 N E pl s a W) (hf : pl id = none)
    (hK : Next w0 P0 E0 pl0 pl N id s a o K (setAt (setAt E i none) id (some ⟨e.sz, e.cells ++ new, t⟩)) (.row id (n + m) none)) (htg : ∀ T', t.T = some T' → e.tg.T = some T' ∧ T' = el := by exact Tag.un) : Oper.wp P o a W K Qx := by
  rcases (show RowRep pl i n none (a.eval x) from S.ev hx) with ⟨_, h0, hxv⟩ | ⟨g, c, hp, hnc, hxv, _⟩
  · subst h0
    have hc : e.cells = [] := List.length_eq_zero_iff.1 (by rw [hn, Nat.zero_mul])
    have S1 := S.lose i
    obtain ⟨_, _, _, _, _, _, _, _, _, _, hpos, _⟩ := S.eok.ent i e he
    by_cases hm0 : m = 0
    · have hus : us = [] := List.length_eq_zero_iff.1 (by rw [hul, hm0, Nat.zero_mul])
      have hnw : new = [] := List.length_eq_zero_iff.1 (by rw [hnl, hus]; rfl)
      subst hm0
      obtain ⟨ti, hti, hsz⟩ := info_of_sz hs
      have hfc : (Builtin.firstCells ti.size 0 (.slice sp 0 sCap)).run P W = .ok #[] W := by
        cases sp with
        | none => simp [run_firstCells_none]
        | some A => exact run_firstCells_some (P := P) W ti.size 0 A 0 sCap [] (by simp) (fun j u hj => by simp at hj)
      rw [hc, hnw] at hK
      refine wp_valG (E := setAt E i none) (u := .slice none 0 0) (v := .row id 0 none) S1 hf ?_ (.inl ⟨rfl, rfl, rfl⟩) hpos.1 hK
      simp only [execOp, ho, resolve, invoke, builtin, Sem.run_bind]
      simp [Builtin.append_, run_underlying hu, sizeOf, typeInfo, hti, Builtin.lenOf, hxv, hyv, hfc]
    · refine eff_appendNilX (new := new) (E := setAt E i none) hxv hpos.1 hyv hul hcell hone (by omega) hnl (fun q x hq => ?_) hu hs hb hz (by rw [Nat.zero_add] at hm; exact hm) (by omega) ho S1 hf
        (fun g' c' pl1 W1 S2 h2 h3 h4 => hK _ pl1 W1 (by rw [hc, List.nil_append]; exact S2) h2 (by rw [Nat.zero_add]; exact .inr ⟨g', c', h3, h4, rfl, fun q h => by cases h⟩)) (fun T' h => (htg T' h).2.symm)
      obtain ⟨u, h1, h2⟩ := hnew q x hq
      refine ⟨u, h1, h2.move (fun _ _ _ => rfl) (fun k hk _ => ⟨hk.1, fun ⟨j, e', c', k1, k2, k3⟩ => hk.2 ?_⟩) (fun _ _ h => h)⟩
      by_cases hj : j = i
      · subst hj; simp at k1
      · rw [setAt_ne _ _ hj] at k1; exact ⟨j, e', c', k1, k2, k3⟩
  · exact eff_appendX hp hnc hxv he hh hn hyv hul hcell hone hnl hnew hu hs hb hz hm hm' ho S hf (fun g' c' pl1 W1 S1 h2 h3 h4 h5 => hK _ pl1 W1 S1 h2 (.inr ⟨g', c', h3, h4, rfl, fun q h => by cases h⟩)) htg
theorem mem_app1 {x y : Operand} {T T' : TypeId} {b : Builtin} : x ∈ (Op.call { callee := .builtin b, args := #[x, y], argTypes := #[T, T'] }).operands := by simp [Op.operands, Call.operands]
theorem mem_app2 {x y : Operand} {T T' : TypeId} {b : Builtin} : y ∈ (Op.call { callee := .builtin b, args := #[x, y], argTypes := #[T, T'] }).operands := by simp [Op.operands, Call.operands]
theorem Eff.appendRowL {x y : Operand} {T el : TypeId} {i n : Nat} {e : Ent} {v : V} {l : List B} {bytes : Nat} (hx : ev s x = some (.row i n none)) (he : E i = some e) (hh : e.hot = true) (h1 : e.sz = 1) (hn : e.cells.length = n) (hy : ev s y = some v) (hr : res E v = some (.sl 1 l))
    (hu : P.underlying T = some (.slice el)) (hs : szOf P el = some 1) (hb : (P.info? el).map (·.bytes) = some bytes) (hz : (zeroOf P el).map List.length = some 1) (hm : (n + l.length) * bytes ≤ 140737488355328) (hm' : n + l.length ≤ maxLen) (hlit : l.all B.isLit = true) :
    Eff P id s E (.call { callee := .builtin .append, args := #[x, y], argTypes := #[T, T] }) (some (.row id (n + l.length) none)) [(i, none), (id, some ⟨1, e.cells ++ l.map .b, true⟩)] :=
  .sem _ _ _ fun s' E' k1 k2 w0 W P0 E0 pl0 pl N a o K Qx ho S hf hK => by
    have hx' : ev s' x = some (.row i n none) := by rw [← k1 x mem_app1]; exact hx
    have he' : E' i = some e := by rw [← k2 i (looks_arg ⟨x, by simp, mem_idsOf hx (by simp [V.ids, V.names])⟩)]; exact he
    have hy' : ev s' y = some v := by rw [← k1 y mem_app2]; exact hy
    have hr' : res E' v = some (.sl 1 l) := by rw [← res_congr (fun i hi => k2 i (looks_arg ⟨y, by simp, mem_idsOf hy (ids_names hi)⟩))]; exact hr
    obtain ⟨sp, sCap, us, hyv, hul, hcell, hone, hnew⟩ := src_lits S hy' hr' hlit
    rw [← h1] at hul hs hz
    refine eff_appendRow (new := l.map V.b) hx' he' hh (by rw [hn, h1, Nat.mul_one]) hyv hul hcell hone (by rw [hul, h1]; simp) (fun q x hq => let ⟨u, e1, e2⟩ := hnew q x hq; ⟨u, e1, e2 _ _ _⟩) hu hs hb hz hm hm' ho S hf ?_
    rw [h1]; exact hK
theorem Eff.appendRowO {x y : Operand} {T el : TypeId} {i n : Nat} {e : Ent} {v : V} {j m : Nat} {e2 : Ent} {bytes : Nat} (hx : ev s x = some (.row i n none)) (he : E i = some e) (hh : e.hot = true) (hn : e.cells.length = n * e.sz) (hy : ev s y = some v) (hv : v = .own j m ∨ ∃ c, v = .row j m c) (he2 : E j = some e2) (hsz : e2.sz = e.sz)
    (hm2 : m * e.sz ≤ e2.cells.length) (hu : P.underlying T = some (.slice el)) (hs : szOf P el = some e.sz) (hb : (P.info? el).map (·.bytes) = some bytes) (hz : (zeroOf P el).map List.length = some e.sz) (hm : (n + m) * bytes ≤ 140737488355328) (hm' : n + m ≤ maxLen) :
    Eff P id s E (.call { callee := .builtin .append, args := #[x, y], argTypes := #[T, T] }) (some (.row id (n + m) none)) [(i, none), (id, some ⟨e.sz, e.cells ++ e2.cells.take (m * e.sz), true⟩)] :=
  .sem _ _ _ fun s' E' k1 k2 w0 W P0 E0 pl0 pl N a o K Qx ho S hf hK => by
    have hx' : ev s' x = some (.row i n none) := by rw [← k1 x mem_app1]; exact hx
    have he' : E' i = some e := by rw [← k2 i (looks_arg ⟨x, by simp, mem_idsOf hx (by simp [V.ids, V.names])⟩)]; exact he
    have hy' : ev s' y = some v := by rw [← k1 y mem_app2]; exact hy
    have he2' : E' j = some e2 := by rw [← k2 j (looks_arg ⟨y, by simp, mem_idsOf hy (by rcases hv with rfl | ⟨c, rfl⟩ <;> simp [V.ids, V.names])⟩)]; exact he2
    obtain ⟨sp, sCap, us, hyv, hul, hcell, hone, hnew⟩ := own_src S hy' hv he2' (by rw [hsz]; exact hm2)
    rw [hsz] at hul hnew
    exact eff_appendRow (new := e2.cells.take (m * e.sz)) hx' he' hh hn hyv hul hcell hone (by rw [hul, List.length_take]; omega) hnew hu hs hb hz hm hm' ho S hf hK
theorem Eff.appendRowV {x y : Operand} {T el : TypeId} {i n m : Nat} {e : Ent} {l : List B} {bytes : Nat} (hx : ev s x = some (.row i n none)) (he : E i = some e) (hh : e.hot = true) (hn : e.cells.length = n * e.sz) (hy : ev s y = some (.b (.sl e.sz l))) (hl : l.length = m * e.sz) (h0 : 0 < e.sz)
    (hu : P.underlying T = some (.slice el)) (hs : szOf P el = some e.sz) (hb : (P.info? el).map (·.bytes) = some bytes) (hz : (zeroOf P el).map List.length = some e.sz) (hm : (n + m) * bytes ≤ 140737488355328) (hm' : n + m ≤ maxLen) :
    Eff P id s E (.call { callee := .builtin .append, args := #[x, y], argTypes := #[T, T] }) (some (.row id (n + m) none)) [(i, none), (id, some ⟨e.sz, e.cells ++ l.map .b, true⟩)] :=
  .sem _ _ _ fun s' E' k1 k2 w0 W P0 E0 pl0 pl N a o K Qx ho S hf hK => by
    have hx' : ev s' x = some (.row i n none) := by rw [← k1 x mem_app1]; exact hx
    have he' : E' i = some e := by rw [← k2 i (looks_arg ⟨x, by simp, mem_idsOf hx (by simp [V.ids, V.names])⟩)]; exact he
    have hy' : ev s' y = some (.b (.sl e.sz l)) := by rw [← k1 y mem_app2]; exact hy
    obtain ⟨sp, sCap, us, hyv, hul, hcell, hone, hnew⟩ := val_src S hy' hl h0
    exact eff_appendRow (new := l.map V.b) hx' he' hh hn hyv hul hcell hone (by rw [hul, List.length_map, hl]) hnew hu hs hb hz hm hm' ho S hf hK

/-- A row with room of which it is known how much. -/
theorem Eff.makeCap {T el : TypeId} {x y : Operand} {c : Int} {z : List B} {bytes : Nat} {k k' : IntKind} (h : ev s x = some (.b (.lit (.int k 0)))) (h' : ev s y = some (.b (.lit (.int k' c)))) (hu : P.underlying T = some (.slice el)) (hz : zeroOf P el = some z) (hs : szOf P el = some z.length)
    (hb : (P.info? el).map (·.bytes) = some bytes) (hl : z ≠ []) (h0 : 0 ≤ c) (h1 : bytes * c ≤ 281474976710656) (h2 : c ≤ 9223372036854775807) : Eff P id s E (.makeSlice T x y) (some (.row id 0 (some c.toNat))) [(id, some ⟨z.length, [], true⟩)] :=
  .sem _ _ _ fun s' E' k1 k2 w0 W P0 E0 pl0 pl N a o K Qx ho S hf hK => by
    have e1 := rep_lit (S.ev (show ev s' x = _ by rw [← k1 x (by simp [Op.operands])]; exact h))
    have e2 := rep_lit (S.ev (show ev s' y = _ by rw [← k1 y (by simp [Op.operands])]; exact h'))
    obtain ⟨i, zv, hi, hz1, r1, _⟩ := zeroOf_runL hz
    obtain ⟨i', hi', hsz⟩ := info_of_sz hs
    rw [hi] at hi'
    injection hi' with hi'
    subst hi'
    have hby : i.bytes = bytes := by simpa [hi] using hb
    have hpos : 0 < z.length := List.length_pos_iff.2 hl
    have hrun := run_make (P := P) W T el i zv hu hi hz1 k k' 0 c (Int.le_refl _) h0 (by rw [hby]; exact h1) h2
    refine wp_new (v := .row id 0 (some c.toNat)) (cur := madeCells zv.cells (c.toNat * i.size)) (T := el) (c := c.toNat) (u := .slice (some ⟨W.heap.size, 0, none⟩) 0 c.toNat) (e := ⟨z.length, [], true⟩) S hf ?_ ?_ (Nat.zero_le _) ?_ hpos (fun j y hj => by simp at hj) (fun Q => .inr ⟨W.heap.size, c.toNat, by simp, Nat.zero_le _, rfl, fun q h => by injection h with h; exact h.symm⟩) hK
    · have e3 : (0 : Int).toNat = 0 := rfl
      simp [execOp, ho, e1, e2, hrun]
    · simp [madeCells, hsz]
    · simp only [maxLen]; omega
theorem Eff.capRow {T el : TypeId} {x : Operand} {i n c : Nat} (h : ev s x = some (.row i n (some c))) (hu : P.underlying T = some (.slice el)) : Eff P id s E (.call { callee := .builtin .cap, args := #[x], argTypes := #[T] }) (some (.b (.lit (.int .i64 c)))) [] :=
  .sem _ _ _ fun s' E' k1 k2 w0 W P0 E0 pl0 pl N a o K Qx ho S hf hK => by
    rcases (show RowRep pl i n (some c) (a.eval x) from S.ev (show ev s' x = some (.row i n (some c)) by rw [← k1 x (by simp [Op.operands, Call.operands])]; exact h)) with ⟨hc, _⟩ | ⟨g, c', h1, h2, h3, h4⟩
    · cases hc
    · have := h4 c rfl
      subst this
      refine wp_val (v := .b (.lit (.int .i64 c))) (u := goInt c) S hf ?_ (RepB.lit _ rfl) hK
      simp [execOp, ho, resolve, invoke, builtin, Builtin.cap_, run_underlying hu, h3]
theorem Eff.appendCap {x y : Operand} {T el : TypeId} {i n c : Nat} {e : Ent} {v : V} {l : List B} {bytes : Nat} (hx : ev s x = some (.row i n (some c))) (he : E i = some e) (hh : e.hot = true) (h1 : e.sz = 1) (hn : e.cells.length = n) (hy : ev s y = some v) (hr : res E v = some (.sl 1 l)) (hc : n + l.length ≤ c)
    (hu : P.underlying T = some (.slice el)) (hs : szOf P el = some 1) (hb : (P.info? el).map (·.bytes) = some bytes) (hz : (zeroOf P el).map List.length = some 1) (hm : (n + l.length) * bytes ≤ 140737488355328) (hm' : n + l.length ≤ maxLen) (hlit : l.all B.isLit = true) :
    Eff P id s E (.call { callee := .builtin .append, args := #[x, y], argTypes := #[T, T] }) (some (.row id (n + l.length) (some c))) [(i, none), (id, some ⟨1, e.cells ++ l.map .b, true⟩)] :=
  .sem _ _ _ fun s' E' k1 k2 w0 W P0 E0 pl0 pl N a o K Qx ho S hf hK => by
    have hx' : ev s' x = some (.row i n (some c)) := by rw [← k1 x mem_app1]; exact hx
    have he' : E' i = some e := by rw [← k2 i (looks_arg ⟨x, by simp, mem_idsOf hx (by simp [V.ids, V.names])⟩)]; exact he
    have hy' : ev s' y = some v := by rw [← k1 y mem_app2]; exact hy
    have hr' : res E' v = some (.sl 1 l) := by rw [← res_congr (fun i hi => k2 i (looks_arg ⟨y, by simp, mem_idsOf hy (ids_names hi)⟩))]; exact hr
    obtain ⟨sp, sCap, us, hyv, hul, hcell, hone, hnew⟩ := src_lits S hy' hr' hlit
    rcases (show RowRep pl i n (some c) (a.eval x) from S.ev hx') with ⟨hc, _⟩ | ⟨g, c', p1, p2, p3, p4⟩
    · cases hc
    have := p4 c rfl
    subst this
    rw [← h1] at hul hs hz
    refine eff_appendX (new := l.map V.b) p1 p2 p3 he' hh (by rw [hn, h1, Nat.mul_one]) hyv hul hcell hone (by rw [hul, h1]; simp) (fun q x hq => let ⟨u, e1, e2⟩ := hnew q x hq; ⟨u, e1, e2 _ _ _⟩) hu hs hb hz hm hm' ho S hf (fun g' c' pl1 W1 S1 h2 h3 h4 h5 => ?_)
    rw [h1] at S1
    have e5 := h5 hc
    subst e5
    exact hK _ pl1 W1 S1 h2 (.inr ⟨g', _, h3, h4, rfl, fun q h => by injection h with h; exact h.symm⟩)
/-- An element of a row that may be nil. -/
theorem Eff.indexRowQ {T el : TypeId} {ix x : Operand} {i n sz : Nat} {c : Option Nat} {k : IntKind} {j : Int} (h : ev s x = some (.row i n c)) (hi : ev s ix = some (.b (.lit (.int k j)))) (hu : P.underlying T = some (.slice el)) (hs : szOf P el = some sz) (h0 : 0 ≤ j) (h1 : j < n) :
    Eff P id s E (.indexAddr T x ix) (some (.ptr i (j.toNat * sz))) [] :=
  .sem _ _ _ fun s' E' k1 k2 w0 W P0 E0 pl0 pl N a o K Qx ho S hf hK => by
    have e2 := rep_lit (S.ev (show ev s' ix = _ by rw [← k1 ix (by simp [Op.operands])]; exact hi))
    rcases (show RowRep pl i n c (a.eval x) from S.ev (show ev s' x = some (.row i n c) by rw [← k1 x (by simp [Op.operands])]; exact h)) with ⟨_, h3, _⟩ | ⟨g, c', hp, hnc, hxv, _⟩
    · subst h3; omega
    · refine wp_val (v := .ptr i (j.toNat * sz)) (u := .pointer (some ⟨g, j.toNat * sz, none⟩)) S hf ?_ ⟨g, c', hp, rfl⟩ hK
      simp [execOp, ho, hxv, e2, Instr.indexAt, asIntOf, run_underlying hu, h0, h1, run_sizeOf hs, add_plain]
/-- An element of an array behind a pointer. -/
theorem Eff.indexArr {ix x : Operand} {T0 el : TypeId} {i off n sz : Nat} {k : IntKind} {j : Int} (h : ev s x = some (.ptr i off)) (hi : ev s ix = some (.b (.lit (.int k j)))) (hu : P.underlying T0 = some (.array n el)) (hs : szOf P el = some sz) (h0 : 0 ≤ j) (h1 : j < n) :
    Eff P id s E (.indexAddr T0 x ix) (some (.ptr i (off + j.toNat * sz))) [] :=
  .sem _ _ _ fun s' E' k1 k2 w0 W P0 E0 pl0 pl N a o K Qx ho S hf hK => by
    obtain ⟨g, c, hp, hpv⟩ := S.ev (show ev s' x = some (.ptr i off) by rw [← k1 x (by simp [Op.operands])]; exact h)
    have e2 := rep_lit (S.ev (show ev s' ix = _ by rw [← k1 ix (by simp [Op.operands])]; exact hi))
    refine wp_val (v := .ptr i (off + j.toNat * sz)) (u := .pointer (some ⟨g, off + j.toNat * sz, none⟩)) S hf ?_ ⟨g, c, hp, rfl⟩ hK
    simp [execOp, ho, hpv, e2, Instr.indexAt, asIntOf, run_underlying hu, h0, h1, run_sizeOf hs, Instr.sureAddr, add_plain]
end
end Go.VL

/- Further rules of the logic in short form: rows that may be nil, rows whose room is known, arrays, calls that are given nil. -/
set_option linter.unusedVariables false
set_option linter.unusedSimpArgs false
namespace Go.VL
open Go.RowKit

section
variable {P : Program} {w0 W W1 : World} {P0 F : Nat → Prop} {E0 E E1 : Env} {pl0 pl pl1 : Plan} {N : Frm} {id : Nat} {s : Slots} {a : Act} {o : Oper} {K : Act → World → Prop} {Qx : Exit → Act → World → Prop}
/-- Zeros are appended where there is room. -/
theorem Eff.appendZ {x y : Operand} {T T' el : TypeId} {i n c : Nat} {e : Ent} {k : Int} {z : B} {ik' : IntKind} (hx : ev s x = some (.row i n (some c))) (he : E i = some e) (hh : e.hot = true) (h1 : e.sz = 1) (hn : e.cells.length = n) (hy : ev s y = some (.b (.lit (.int .i64 k)))) (h0 : 0 ≤ k) (hc : n + k ≤ c)
    (hu : P.underlying T = some (.slice el)) (hu' : P.underlying T' = some (.int ik')) (hs : szOf P el = some 1) (hb : (P.info? el).map (·.bytes) = some 1) (hz : zeroOf P el = some [z]) (hm : c ≤ 140737488355328) (hz1 : z.isLit = true) :
    Eff P id s E (.call { callee := .builtin .append, args := #[x, y], argTypes := #[T, T'] }) (some (.row id (n + k.toNat) (some c))) [(i, none), (id, some ⟨1, e.cells ++ (List.replicate k.toNat z).map .b, true⟩)] :=
  .sem _ _ _ fun s' E' k1 k2 w0 W P0 E0 pl0 pl N a o K Qx ho S hf hK => by
    have hx' : ev s' x = some (.row i n (some c)) := by rw [← k1 x mem_app1]; exact hx
    have he' : E' i = some e := by rw [← k2 i (looks_arg ⟨x, by simp, mem_idsOf hx (by simp [V.ids, V.names])⟩)]; exact he
    have hyv := rep_lit (S.ev (show ev s' y = _ by rw [← k1 y mem_app2]; exact hy))
    rcases (show RowRep pl i n (some c) (a.eval x) from S.ev hx') with ⟨hc, _⟩ | ⟨g, c', hp, hnc, hxv, p4⟩
    · cases hc
    have := p4 c rfl
    subst this
    obtain ⟨q, rfl⟩ : ∃ q : Nat, k = q := ⟨k.toNat, by omega⟩
    simp only [Int.toNat_natCast] at hK ⊢
    obtain ⟨ti, hti, hsz⟩ := info_of_sz hs
    have hby : ti.bytes = 1 := by simpa [hti] using hb
    obtain ⟨ti', zv, hti', hz1', r1, r2⟩ := zeroOf_runL hz
    rw [hti] at hti'
    injection hti' with hti'
    subst hti'
    obtain ⟨g', c', cur, T0, q1, q2, q3, q4, q5, q6, q7, q8⟩ := S.eok.ent i e he'
    rw [hp] at q1
    injection q1 with q1
    injection q1 with q1 q1'
    subst q1; subst q1'
    rw [h1, Nat.mul_one] at q4
    obtain ⟨u, hzu⟩ : ∃ u, zv.cells = #[u] := by
      obtain ⟨u, hu⟩ := List.length_eq_one_iff.1 (show zv.cells.toList.length = 1 by simpa using r1.symm)
      exact ⟨u, by rw [← hu]⟩
    have hur := r2 W (Qf (FF w0 P0) E' pl) 0 z rfl
    obtain ⟨u', hu1, hu2, hu3⟩ := hur
    have : u' = u := by rw [hzu] at hu1; simpa using hu1.symm
    subst this
    let us : List Value := List.replicate q u'
    have hus : (Builtin.zeroCells zv.cells q).toList = us := by
      apply List.ext_getElem?
      intro j
      simp [Builtin.zeroCells, hzu, us, List.getElem?_replicate]
      split <;> simp_all [Nat.mod_one]
    have hwr : IntKind.i64.wrap (q : Int) = q := wrap_i64 ⟨by omega, by omega⟩
    have hmain : ∃ W1, (execOp a.eval o).run P W = .ok (.value (.slice (some ⟨g, 0, none⟩) (n + q) c)) W1 ∧ Sim w0 P0 E0 pl0 N (setAt E' i (some { e with cells := e.cells ++ (List.replicate q z).map .b })) pl s' a W1 := by
      by_cases hq0 : q = 0
      · subst hq0
        refine ⟨W, ?_, ?_⟩
        · simp only [execOp, ho, resolve, invoke, builtin, Sem.run_bind]
          simp [Builtin.append_, run_underlying hu, run_underlying hu', sizeOf, typeInfo, hti, hxv, hyv, hnc, asInt, asIntOf, storeCells, hby, show IntKind.i64.wrap 0 = 0 from rfl]
        · have : setAt E' i (some { e with cells := e.cells ++ (List.replicate 0 z).map .b }) = E' := by
            simp only [List.replicate_zero, List.map_nil, List.append_nil]
            funext j
            by_cases hj : j = i
            · subst hj; rw [setAt_self, he']
            · exact setAt_ne _ _ hj
          rw [this]; exact S
      · obtain ⟨W1, cur1, m1, m2, m3, m4, m5, m6, m7, m8, m9, m10⟩ := run_storeCells_row (P := P) g T0 (0, 0) rfl us n 0 W cur (q2 (by omega)) (by simp [us]; omega) (fun v hv => by
          have := List.eq_of_mem_replicate hv
          rw [this]; exact hu2)
        simp only [us, List.length_replicate] at m9 m10
        refine ⟨W1, ?_, S.upd he' hh hp (by omega) m2 m3 m4 m5 m6 cur1 T0 m7 q7.2 _ (by rw [m8, h1]; simpa using q4) (by rw [m8]; simp; omega) (fun j x hj => ?_)⟩
        · have ha : (⟨g, 0, none⟩ : Addr).add (n * ti.size) = ⟨g, n, none⟩ := by rw [add_plain, hsz]; simp
          have hqz : ¬ q * ti.size = 0 := by rw [hsz]; omega
          simp only [execOp, ho, resolve, invoke, builtin, Sem.run_bind]
          simp [Builtin.append_, run_underlying hu, run_underlying hu', sizeOf, typeInfo, hti, hxv, hyv, asInt, asIntOf, hby, hwr, show n + q ≤ c by omega, hqz, zeroValue, hz1', ha, hus, m1, show ¬ (281474976710656 : Int) < q by omega]
          intro hneg; omega
        · by_cases hjn : j < n
          · rw [List.getElem?_append_left (by omega)] at hj
            rw [m10 j (.inl (by omega))]
            exact q8 j x hj
          · rw [List.getElem?_append_right (by omega), hn] at hj
            simp only [List.getElem?_map, Option.map_eq_some_iff] at hj
            obtain ⟨b, hb1, rfl⟩ := hj
            have hjl := (List.getElem?_eq_some_iff.1 hb1).1
            simp at hjl
            rw [List.getElem?_replicate, if_pos hjl] at hb1
            injection hb1 with hb1
            subst hb1
            rw [m9 j (by omega) (by omega)]
            exact ⟨u', by simp [us, List.getElem?_replicate]; omega, hu2, show RepB W _ z u' from lit_rep hz1 hu3⟩
    obtain ⟨W1, hrun, S1⟩ := hmain
    have S1 := S1.retag (setAt_self _ _ _) true (fun _ => hh) (fun _ h => by cases h)
    have S2 := S1.rename (id := id) (e := ⟨e.sz, e.cells ++ (List.replicate q z).map .b, true⟩) (setAt_self _ _ _) hp hf
    have hEE : setAt (setAt (setAt (setAt E' i (some { e with cells := e.cells ++ (List.replicate q z).map .b })) i (some ⟨e.sz, e.cells ++ (List.replicate q z).map .b, true⟩)) i none) id (some (⟨e.sz, e.cells ++ (List.replicate q z).map .b, true⟩ : Ent)) = setAt (setAt E' i none) id (some ⟨1, e.cells ++ (List.replicate q z).map .b, true⟩) := by
      rw [h1]
      congr 1
      funext k
      simp only [setAt]
      split <;> rfl
    rw [hEE] at S2
    unfold Oper.wp
    rw [hrun]
    exact hK _ _ _ S2 (fun k hk h => by rw [setAt_ne _ _ hk]; exact h) (.inr ⟨g, c, by simp, by omega, rfl, fun q h => by injection h with h; exact h.symm⟩)
/-- A slice by value with elements is not nil. -/
theorem Eff.notNilV {T T' e : TypeId} {x : Operand} {sz : Nat} {l : List B} {eq : Bool} (ha : ev s x = some (.b (.sl sz l))) (hl : l ≠ []) (hu : P.underlying T = some (.slice e)) :
    Eff P id s E (.binOp (if eq then .eql else .neq) T x (.const (.slice none 0 0)) T') (some (.b (.lit (.bool (!eq))))) [] :=
  .sem _ _ _ fun s' E' k1 k2 w0 W P0 E0 pl0 pl N a o K Qx ho S hf hK => by
    have hr : RepB W (Qf (FF w0 P0) E' pl) (.sl sz l) (a.eval x) := S.ev (show ev s' x = some (.b (.sl sz l)) by rw [← k1 x (by cases eq <;> simp [Op.operands])]; exact ha)
    obtain ⟨A, n, c, hv⟩ : ∃ A n c, a.eval x = .slice (some A) n c := by
      generalize a.eval x = q at hr
      cases hr with
      | nilsl => exact absurd rfl hl
      | sl A n c => exact ⟨A, n, c, rfl⟩
    refine wp_val (v := .b (.lit (.bool (!eq)))) (u := .bool (!eq)) S hf ?_ (RepB.lit _ rfl) hK
    have hc : a.eval (.const (.slice none 0 0)) = .slice none 0 0 := rfl
    cases eq with
    | true =>
      have ho : o.op = .binOp .eql T x (.const (.slice none 0 0)) T' := ho
      have hg : (eqGuard .eql T x (.const (.slice none 0 0)) (.slice (some A) n c) (.slice none 0 0)).run P W = .ok () W := by simp [eqGuard]
      have hb := Lib.run_eql_slice_nil W T e (some A) n c 0 0 hu
      simp [execOp, ho, hv, hc, hg, hb]
    | false =>
      have ho : o.op = .binOp .neq T x (.const (.slice none 0 0)) T' := ho
      have hg : (eqGuard .neq T x (.const (.slice none 0 0)) (.slice (some A) n c) (.slice none 0 0)).run P W = .ok () W := by simp [eqGuard]
      have hb := run_neq_slice_nil_any W T e (some A) n c 0 0 hu
      simp [execOp, ho, hv, hc, hg, hb]
end
end Go.VL

/- Short steps for rows that may be nil, rows whose room is known, arrays, calls that are given nil. -/
set_option linter.unusedVariables false
set_option linter.unusedSimpArgs false
namespace Go.VL
open Go.RowKit

/-- What is given to a call, nil as such. -/
def evN (s : Slots) : Operand → Option V
  | .const (.slice none 0 0) => some (.b .nil)
  | x => ev s x
def evsN (s : Slots) : List Operand → Option (List V)
  | [] => some []
  | x :: r => match evN s x, evsN s r with
    | some v, some vs => some (v :: vs)
    | _, _ => none
section
variable {P : Program} {w0 W W1 : World} {P0 F : Nat → Prop} {E0 E E1 : Env} {pl0 pl pl1 : Plan} {N : Frm} {id : Nat} {s s' : Slots} {a : Act} {o : Oper} {K : Act → World → Prop} {Qx : Exit → Act → World → Prop}
theorem Sim.evN (S : Sim w0 P0 E0 pl0 N E pl s a W) {x : Operand} {v : V} (h : Go.VL.evN s x = some v) : Rep W (Qf (FF w0 P0) E pl) pl v (a.eval x) := by
  unfold Go.VL.evN at h
  split at h
  · injection h with h; subst h; exact RepB.nil
  · exact S.ev h
theorem evsN_get : ∀ {xs : List Operand} {vs : List V}, evsN s xs = some vs → vs.length = xs.length ∧ ∀ (j : Nat) (v : V), vs[j]? = some v → ∃ x, xs[j]? = some x ∧ evN s x = some v
  | [], vs, h => by
    simp [evsN] at h; subst h
    exact ⟨rfl, fun j x hj => by simp at hj⟩
  | x :: r, vs, h => by
    unfold evsN at h
    split at h
    · rename_i v ws hv hws
      injection h with h; subst h
      obtain ⟨h1, h2⟩ := evsN_get hws
      refine ⟨by simp [h1], fun j y hj => ?_⟩
      cases j with
      | zero => simp at hj; subst hj; exact ⟨x, rfl, hv⟩
      | succ j => exact h2 j y (by simpa using hj)
    · cases h
theorem evN_congr {x : Operand} (h : ev s x = ev s' x) : evN s x = evN s' x := by
  unfold evN; split <;> first | rfl | exact h
theorem evsN_congr : ∀ {xs : List Operand}, (∀ x ∈ xs, ev s x = ev s' x) → evsN s xs = evsN s' xs
  | [], _ => rfl
  | x :: r, h => by
    unfold evsN
    rw [evN_congr (h x (by simp)), evsN_congr (xs := r) (fun y hy => h y (by simp [hy]))]
/-- A call that is given values alone and yields a new entry. -/
theorem Eff.callB {f : FuncId} {args : Array Operand} {ts : Array TypeId} {ys : List B} {r : V} {e0 : Ent} (h : evsN s args.toList = some (ys.map .b)) (hv : VG P f (ys.map .b) [] r [some e0]) :
    Eff P id s E (.call { callee := .value (.func f), args := args, argTypes := ts }) (some (r.ren (nm (fun i => i) 0 id))) [(id, some (e0.ren (nm (fun i => i) 0 id)))] :=
  .sem _ _ _ fun s' E' k1 k2 w0 W P0 E0 pl0 pl N a o K Qx ho S hf hK => by
    have h' : evsN s' args.toList = some (ys.map .b) := by rw [← evsN_congr (fun x hx => k1 x (by simp [Op.operands, Call.operands]; exact .inr (by simpa using hx)))]; exact h
    obtain ⟨e1, e2⟩ := evsN_get h'
    have hcs : a.eval (.func f) = .func (.func f) #[] #[] := rfl
    unfold Oper.wp
    rw [run_enterV hv.1 hcs ho, Oper.upon_enter]
    have hA : ∀ ys : List B, Args E' (fun i => i) 0 [] (ys.map .b) (ys.map .b) := by
      intro ys
      induction ys with
      | nil => exact .nil
      | cons y ys ih => exact .name _ _ _ _ rfl rfl ih
    refine Calls.mono (hv.call (us := args.map a.eval ++ #[]) (E2 := setAt E' id (some (e0.ren (nm (fun i => i) 0 id)))) (ρ := fun i => i) (nv := []) (n := id) S (.inr (.inr ⟨rfl, hf⟩)) (hA ys) ⟨fun j e he => by simp at he, fun i j hi => by simp at hi⟩ (fun i e he => ?_) (by simp; simpa using e1.symm) (fun j v hj => ?_)) ?_
    · by_cases hi : i = id
      · subst hi
        rw [setAt_self] at he
        injection he with he
        exact .inl ⟨0, e0, rfl, by simp [nm], he.symm⟩
      · rw [setAt_ne _ _ hi] at he
        exact .inr ⟨he, fun j hj => by simp at hj⟩
    · obtain ⟨x, hx1, hx2⟩ := e2 j v hj
      exact ⟨a.eval x, by simp; exact ⟨x, by simpa using hx1, rfl⟩, S.evN hx2⟩
    · rintro e W' ⟨u, pl2, rfl, S2, q1, q2, q3⟩
      exact hK u pl2 W' S2 (fun i hi hn => q2 (Nat.le_refl _) i hi hn) q3
end
section
variable {P : Program} {ops : Array Oper} {o : Oper} {n n' : Nat} {s s' : Slots} {E E' : Env} {d i : Nat} {v w u : V} {x y z p ix : Operand} {T T' T2 el m off k sz c : Nat} {ik ik' : IntKind} {e : Ent} {L D : List Int} {j : Int}
theorem Mg (q sz : Nat) (h : (runs ops s o.guard, o.dst, o.op, ev s x, n) = (some true, some d, .move x, some v, q)) (h0 : 0 < sz := by decide) : Stp P ops o n s E (q + 1) (setAt s d (some v)) (setAt E q (some ⟨sz, [], true⟩)) [q] := by
  simp only [Prod.mk.injEq] at h; obtain ⟨h1, h2, h3, h4, rfl⟩ := h; exact st1 h1 h2 (h3 ▸ Eff.moveG h4 h0)
theorem Nr (q sz : Nat) (h : (runs ops s o.guard, o.dst, o.op, n) = (some true, some d, .assign (.const (.slice none 0 0)), q)) (h0 : 0 < sz := by decide) : Stp P ops o n s E (q + 1) (setAt s d (some (.row q 0 none))) (setAt E q (some ⟨sz, [], true⟩)) [q] := by
  simp only [Prod.mk.injEq] at h; obtain ⟨h1, h2, h3, rfl⟩ := h; exact st1 h1 h2 (h3 ▸ Eff.nilRow h0)
/-- Rows of numbers. -/
theorem Ar (q : Nat) {by' : Nat} (K : SlT P T el (numB ik 0) by') (h : (runs ops s o.guard, o.dst, o.op, ev s x, E i, ev s y, n) = (some true, some d, .call { callee := .builtin .append, args := #[x, y], argTypes := #[T, T] }, some (.row i m none), some (rowK ik D), some w, q)) (hr : res E w = some (slK ik L)) (hl : D.length = m := by first | omega | (simp; done) | (simp; omega))
    (hm : (m + L.length) * by' ≤ 140737488355328 ∧ m + L.length ≤ maxLen := by first | (simp [maxLen]; done) | (simp [maxLen]; omega) | (simp only [maxLen]; omega)) :
    Stp P ops o n s E (q + 1) (setAt s d (some (.row q (m + L.length) none))) (setAt (setAt E i none) q (some (rowK ik (D ++ L)))) [i, q] := by
  simp only [Prod.mk.injEq] at h; obtain ⟨h1, h2, h3, h4, h5, h6, rfl⟩ := h
  have := Eff.appendRowL (id := n) (E := E) h4 h5 rfl rfl (by simp [rowK, hl]) h6 hr K.u K.s K.b (by rw [K.z]; rfl) (by simpa using hm.1) (by simpa using hm.2) (by rw [List.all_map]; simp [B.isLit])
  have e1 : (⟨1, (rowK ik D).cells ++ (L.map (numB ik)).map .b, true⟩ : Ent) = rowK ik (D ++ L) := by simp [rowK]
  rw [List.length_map, e1] at this
  exact st2 h1 h2 (h3 ▸ this)
/-- The same where the room is known. -/
theorem Ac1 (q : Nat) {by' : Nat} (K : SlT P T el (numB ik 0) by') (h : (runs ops s o.guard, o.dst, o.op, ev s x, E i, ev s y, n) = (some true, some d, .call { callee := .builtin .append, args := #[x, y], argTypes := #[T, T] }, some (.row i m (some c)), some (rowK ik D), some w, q)) (hr : res E w = some (slK ik L)) (hc : m + L.length ≤ c := by first | omega | (simp; done) | (simp; omega)) (hl : D.length = m := by first | omega | (simp; done) | (simp; omega))
    (hm : (m + L.length) * by' ≤ 140737488355328 ∧ m + L.length ≤ maxLen := by first | (simp [maxLen]; done) | (simp [maxLen]; omega) | (simp only [maxLen]; omega)) :
    Stp P ops o n s E (q + 1) (setAt s d (some (.row q (m + L.length) (some c)))) (setAt (setAt E i none) q (some (rowK ik (D ++ L)))) [i, q] := by
  simp only [Prod.mk.injEq] at h; obtain ⟨h1, h2, h3, h4, h5, h6, rfl⟩ := h
  have := Eff.appendCap (id := n) (E := E) h4 h5 rfl rfl (by simp [rowK, hl]) h6 hr (by simpa using hc) K.u K.s K.b (by rw [K.z]; rfl) (by simpa using hm.1) (by simpa using hm.2) (by rw [List.all_map]; simp [B.isLit])
  have e1 : (⟨1, (rowK ik D).cells ++ (L.map (numB ik)).map .b, true⟩ : Ent) = rowK ik (D ++ L) := by simp [rowK]
  rw [List.length_map, e1] at this
  exact st2 h1 h2 (h3 ▸ this)
theorem Az (q : Nat) (K : SlT P T el (numB ik 0) 1) (hu : P.underlying T' = some (.int ik')) (h : (runs ops s o.guard, o.dst, o.op, ev s x, E i, ev s y, n) = (some true, some d, .call { callee := .builtin .append, args := #[x, y], argTypes := #[T, T'] }, some (.row i m (some c)), some (rowK ik D), some (vI .i64 j), q)) (h0 : 0 ≤ j := by first | omega | (simp; done) | (simp; omega))
    (hc : m + j ≤ c := by first | omega | (simp; done) | (simp; omega)) (hl : D.length = m := by first | omega | (simp; done) | (simp; omega)) (hm : c ≤ 140737488355328 := by first | omega | (simp; done) | (simp; omega)) :
    Stp P ops o n s E (q + 1) (setAt s d (some (.row q (m + j.toNat) (some c)))) (setAt (setAt E i none) q (some (rowK ik (D ++ List.replicate j.toNat 0)))) [i, q] := by
  simp only [Prod.mk.injEq] at h; obtain ⟨h1, h2, h3, h4, h5, h6, rfl⟩ := h
  have := Eff.appendZ (id := n) (E := E) h4 h5 rfl rfl (by simp [rowK, hl]) h6 h0 hc K.u hu K.s K.b K.z hm rfl
  have e1 : (⟨1, (rowK ik D).cells ++ (List.replicate j.toNat (numB ik 0)).map .b, true⟩ : Ent) = rowK ik (D ++ List.replicate j.toNat 0) := by simp [rowK]
  rw [e1] at this
  exact st2 h1 h2 (h3 ▸ this)
theorem Mc (q : Nat) {by' : Nat} (K : SlT P T el (numB ik 0) by') (h : (runs ops s o.guard, o.dst, o.op, ev s x, ev s y, n, Nat.ble by' 8) = (some true, some d, .makeSlice T x y, some (vI .i64 0), some (vI .i64 j), q, true)) (h0 : 0 ≤ j := by first | omega | (simp; done) | (simp; omega)) (h1 : j ≤ 1000000000000 := by first | omega | (simp; done) | (simp; omega)) :
    Stp P ops o n s E (q + 1) (setAt s d (some (.row q 0 (some j.toNat)))) (setAt E q (some (rowK ik []))) [q] := by
  simp only [Prod.mk.injEq] at h; obtain ⟨a, b, c, e, f, rfl, g⟩ := h
  have g := Nat.le_of_ble_eq_true g
  have hm : (by' : Int) * j ≤ 8 * 1000000000000 := Int.le_trans (Int.mul_le_mul_of_nonneg_right (show (by' : Int) ≤ 8 by omega) h0) (by omega)
  exact st1 a b (c ▸ Eff.makeCap (id := n) (E := E) e f K.u K.z K.s K.b (by simp) h0 (by omega) (by omega))
theorem Cq (hu : P.underlying T = some (.slice el)) (h : (runs ops s o.guard, o.dst, o.op, ev s x) = (some true, some d, .call { callee := .builtin .cap, args := #[x], argTypes := #[T] }, some (.row i m (some c)))) : Stp P ops o n s E (n + 1) (setAt s d (some (vI .i64 c))) E [] := by
  simp only [Prod.mk.injEq] at h; exact st0 h.1 h.2.1 (h.2.2.1 ▸ Eff.capRow h.2.2.2 hu)
/-- Rows by their contents. -/
theorem Rq {q : Option Nat} (he : E i = some (rowK ik L)) (hl : L.length = m := by first | omega | (simp; done) | (simp; omega) | (simp [*]; done) | (simp [*]; omega)) : res E (.row i m q) = some (slK ik L) := res_rowK he hl
theorem res_rowTq {α : Type} {f : α → List B} {A : List α} {q : Option Nat} (hf : ∀ x, (f x).length = sz) (he : E i = some (rowT sz f A)) (hl : A.length = m) : res E (.row i m q) = some (slT sz f A) := res_rowT hf he hl
/-- Elements of arrays. -/
theorem Ia (hu : P.underlying T = some (.array m el)) (hs : szOf P el = some 1) (h : (runs ops s o.guard, o.dst, o.op, ev s x, ev s y) = (some true, some d, .indexAddr T x y, some (.ptr i off), some (vI ik' j))) (h0 : 0 ≤ j := by first | omega | (simp; done) | (simp; omega)) (h1 : j < m := by first | omega | (simp; done) | (simp; omega)) :
    Stp P ops o n s E (n + 1) (setAt s d (some (.ptr i (off + j.toNat)))) E [] := by
  simp only [Prod.mk.injEq] at h
  have := Eff.indexArr (P := P) (id := n) (E := E) h.2.2.2.1 h.2.2.2.2 hu hs h0 h1
  rw [Nat.mul_one] at this
  exact st0 h.1 h.2.1 (h.2.2.1 ▸ this)
/-- Elements of rows that may be nil. -/
theorem Iqr {z' : B} {by' : Nat} {c : Option Nat} (K : SlT P T el z' by') (h : (runs ops s o.guard, o.dst, o.op, ev s x, ev s y) = (some true, some d, .indexAddr T x y, some (.row i m c), some (vI ik' j))) (h0 : 0 ≤ j := by first | omega | (simp; done) | (simp; omega)) (h1 : j < m := by first | omega | (simp; done) | (simp; omega)) :
    Stp P ops o n s E (n + 1) (setAt s d (some (.ptr i j.toNat))) E [] := by
  simp only [Prod.mk.injEq] at h
  have := Eff.indexRowQ (P := P) (id := n) (E := E) h.2.2.2.1 h.2.2.2.2 K.u K.s h0 h1
  rw [Nat.mul_one] at this
  exact st0 h.1 h.2.1 (h.2.2.1 ▸ this)
theorem ITq (hu : P.underlying T = some (.slice el)) (hs : szOf P el = some sz) {c : Option Nat} (h : (runs ops s o.guard, o.dst, o.op, ev s x, ev s y) = (some true, some d, .indexAddr T x y, some (.row i m c), some (vI ik' j))) (h0 : 0 ≤ j := by first | omega | (simp; done) | (simp; omega)) (h1 : j < m := by first | omega | (simp; done) | (simp; omega)) :
    Stp P ops o n s E (n + 1) (setAt s d (some (.ptr i (j.toNat * sz)))) E [] := by
  simp only [Prod.mk.injEq] at h
  exact st0 h.1 h.2.1 (h.2.2.1 ▸ Eff.indexRowQ (P := P) (id := n) (E := E) h.2.2.2.1 h.2.2.2.2 hu hs h0 h1)
/-- A slice with elements is not nil. -/
theorem Ne1 {l : List B} (hu : P.underlying T = some (.slice el)) (h : (runs ops s o.guard, o.dst, o.op, ev s x) = (some true, some d, .binOp .eql T x (.const (.slice none 0 0)) T', some (.b (.sl sz l)))) (hl : l ≠ []) : Stp P ops o n s E (n + 1) (setAt s d (some (vB false))) E [] := by
  simp only [Prod.mk.injEq] at h; exact st0 h.1 h.2.1 (h.2.2.1 ▸ Eff.notNilV (eq := true) h.2.2.2 hl hu)
theorem Ne2 {l : List B} (hu : P.underlying T = some (.slice el)) (h : (runs ops s o.guard, o.dst, o.op, ev s x) = (some true, some d, .binOp .neq T x (.const (.slice none 0 0)) T', some (.b (.sl sz l)))) (hl : l ≠ []) : Stp P ops o n s E (n + 1) (setAt s d (some (vB true))) E [] := by
  simp only [Prod.mk.injEq] at h; exact st0 h.1 h.2.1 (h.2.2.1 ▸ Eff.notNilV (eq := false) h.2.2.2 hl hu)
/-- A call that is given values alone, nil as such, and yields a new entry. -/
theorem Cb (q : Nat) {f : FuncId} {args : Array Operand} {ts : Array TypeId} (ys : List B) {r : V} {e0 e1 : Ent} (h : (runs ops s o.guard, o.dst, o.op, evsN s args.toList, n, r.ren (nm (fun i => i) 0 q)) = (some true, some d, .call { callee := .value (.func f), args := args, argTypes := ts }, some (ys.map .b), q, v)) (hv : VG P f (ys.map .b) [] r [some e0]) (he : e0.ren (nm (fun i => i) 0 q) = e1) :
    Stp P ops o n s E (q + 1) (setAt s d (some v)) (setAt E q (some e1)) [q] := by
  simp only [Prod.mk.injEq] at h; obtain ⟨h1, h2, h3, h4, rfl, rfl⟩ := h; subst he; exact st1 h1 h2 (h3 ▸ Eff.callB h4 hv)
/-- Rows of structs, one more. -/
theorem Aq1 {α : Type} {f : α → List B} {A : List α} (q : Nat) {by' i2 : Nat} {e2 : Ent} (hu : P.underlying T = some (.slice el)) (hs : szOf P el = some sz) (hb : (P.info? el).map (·.bytes) = some by') (hz : (zeroOf P el).map List.length = some sz) {x1 : α}
    (h : (runs ops s o.guard, o.dst, o.op, ev s x, E i, ev s y, E i2, e2.cells, e2.sz, n) = (some true, some d, .call { callee := .builtin .append, args := #[x, y], argTypes := #[T, T] }, some (.row i m none), some (rowT sz f A), some (.own i2 1), some e2, (f x1).map .b, sz, q)) (hf : ∀ x, (f x).length = sz)
    (hl : A.length = m := by first | omega | (simp; done) | (simp; omega)) (hm : (m + 1) * by' ≤ 140737488355328 ∧ m + 1 ≤ maxLen := by first | (simp [maxLen]; done) | (simp [maxLen]; omega) | (simp only [maxLen]; omega)) :
    Stp P ops o n s E (q + 1) (setAt s d (some (.row q (m + 1) none))) (setAt (setAt E i none) q (some (rowT sz f (A ++ [x1])))) [i, q] := by
  simp only [Prod.mk.injEq] at h; obtain ⟨h1, h2, h3, h4, h5, h6, h7, h8, h9, rfl⟩ := h
  have hl2 : e2.cells.length = sz := by rw [h8, List.length_map, hf]
  have := Eff.appendRowO (P := P) (id := n) (E := E) h4 h5 rfl (by simp only [rowT, List.length_map, cellsT_len hf, hl]) h6 (.inl rfl) h7 h9 (by show 1 * sz ≤ _; rw [Nat.one_mul, hl2]; exact Nat.le_refl _) hu hs hb hz hm.1 hm.2
  have e : (⟨(rowT sz f A).sz, (rowT sz f A).cells ++ e2.cells.take (1 * (rowT sz f A).sz), true⟩ : Ent) = rowT sz f (A ++ [x1]) := by
    have h11 : e2.cells.take (1 * sz) = (f x1).map .b := by rw [Nat.one_mul, List.take_of_length_le (by rw [hl2]; exact Nat.le_refl _), h8]
    show (⟨sz, (cellsT f A).map .b ++ e2.cells.take (1 * sz), true⟩ : Ent) = _
    rw [h11]
    simp [rowT, cellsT]
  rw [e] at this
  exact st2 h1 h2 (h3 ▸ this)
/-- The same by value. -/
theorem AqV {α : Type} {f : α → List B} {A A' : List α} (q : Nat) {by' : Nat} (hu : P.underlying T = some (.slice el)) (hs : szOf P el = some sz) (hb : (P.info? el).map (·.bytes) = some by') (hz : (zeroOf P el).map List.length = some sz)
    (h : (runs ops s o.guard, o.dst, o.op, ev s x, E i, ev s y, n) = (some true, some d, .call { callee := .builtin .append, args := #[x, y], argTypes := #[T, T] }, some (.row i m none), some (rowT sz f A), some (.b (slT sz f A')), q)) (hf : ∀ x, (f x).length = sz) (h0 : 0 < sz := by decide)
    (hl : A.length = m := by first | omega | (simp; done) | (simp; omega)) (hm : (m + A'.length) * by' ≤ 140737488355328 ∧ m + A'.length ≤ maxLen := by first | (simp [maxLen]; done) | (simp [maxLen]; omega) | (simp only [maxLen]; omega)) :
    Stp P ops o n s E (q + 1) (setAt s d (some (.row q (m + A'.length) none))) (setAt (setAt E i none) q (some (rowT sz f (A ++ A')))) [i, q] := by
  simp only [Prod.mk.injEq] at h; obtain ⟨h1, h2, h3, h4, h5, h6, rfl⟩ := h
  have := Eff.appendRowV (P := P) (id := n) (E := E) (e := rowT sz f A) (l := cellsT f A') (m := A'.length) h4 h5 rfl (by simp only [rowT, List.length_map, cellsT_len hf, hl]) h6 (cellsT_len hf A') h0 hu hs hb hz hm.1 hm.2
  have e : (⟨(rowT sz f A).sz, (rowT sz f A).cells ++ (cellsT f A').map .b, true⟩ : Ent) = rowT sz f (A ++ A') := by
    show (⟨sz, (cellsT f A).map .b ++ (cellsT f A').map .b, true⟩ : Ent) = _
    simp [rowT, cellsT]
  rw [e] at this
  exact st2 h1 h2 (h3 ▸ this)
theorem cv_rw {q : Option Nat} (he : E i = some (rowK ik L).cold) (hl : L.length = m) : ConvV E (.row i m q) (.b (slK ik L)) := by
  rcases (cv_own he hl : ConvV E (.own i m) _) with h | ⟨b, h1, h2, h3⟩ | ⟨h, _⟩ | h
  · cases h
  · exact .inr (.inl ⟨b, h1, h2, h3⟩)
  · cases h
  · exact h.elim
theorem cv_rwT {α : Type} {f : α → List B} {A : List α} {q : Option Nat} (hf : ∀ x, (f x).length = sz) (he : E i = some (rowT sz f A).cold) (hl : A.length = m) : ConvV E (.row i m q) (.b (slT sz f A)) := by
  rcases (cv_ownT hf he hl : ConvV E (.own i m) _) with h | ⟨b, h1, h2, h3⟩ | ⟨h, _⟩ | h
  · cases h
  · exact .inr (.inl ⟨b, h1, h2, h3⟩)
  · cases h
  · exact h.elim
/-- Values told by less. -/
theorem cv_own' {i n : Nat} : ConvV E (.own i n) (.row i n none) := .inr (.inr (.inr ⟨rfl, rfl⟩))
theorem cv_nil' {i : Nat} : ConvV E (.b .nil) (.row i 0 none) := .inr (.inr (.inr rfl))
theorem cv_cap' {i n c : Nat} : ConvV E (.row i n (some c)) (.row i n none) := .inr (.inr (.inr ⟨rfl, rfl⟩))
theorem cv_capO {i n c : Nat} : ConvV E (.row i n (some c)) (.own i n) := .inr (.inr (.inr ⟨rfl, rfl⟩))
end
end Go.VL

/- Arrays of numbers: an entry that holds one, and short steps. -/
set_option linter.unusedVariables false
set_option linter.unusedSimpArgs false
namespace Go.VL
open Go.RowKit

def aL (k : IntKind) (L : List Int) : List V := L.map fun x => .b (numB k x)
/-- An entry that is an array of n numbers. -/
def arrK (k : IntKind) (n : Nat) (L : List Int) : Ent := ⟨n, aL k L, true⟩
abbrev agK (k : IntKind) (L : List Int) : B := .agg (L.map (numB k))
theorem aL_len {k : IntKind} {L : List Int} : (aL k L).length = L.length := by simp [aL]
theorem bs_aL {k : IntKind} : ∀ {L : List Int}, bs (aL k L) = some (L.map (numB k))
  | [] => rfl
  | x :: r => by simp only [aL, List.map_cons, bs]; have := bs_aL (k := k) (L := r); simp only [aL] at this; rw [this]; rfl
theorem resLs_aL {E : Env} {k : IntKind} : ∀ {L : List Int}, resLs E (aL k L) = some (L.map (numB k))
  | [] => rfl
  | x :: r => by simp only [aL, List.map_cons, resLs, resL]; have := resLs_aL (E := E) (k := k) (L := r); simp only [aL] at this; rw [this]
theorem res_aL {E : Env} {k : IntKind} {L : List Int} : res E (.agg (aL k L)) = some (agK k L) := by simp only [res, resLs_aL]; rfl
theorem arr_ren {k : IntKind} {n : Nat} {L : List Int} {ρ : Nat → Nat} : (arrK k n L).ren ρ = arrK k n L := by
  simp only [arrK, Ent.ren, aL, List.map_map]; rfl
theorem arr_cells {k : IntKind} {n n1 : Nat} {L : List Int} : ∀ v ∈ (arrK k n L).cells, v.all1.all (fun i => decide (i < n1)) = true := fun v hv => by
  simp only [arrK, aL, List.mem_map] at hv
  obtain ⟨x, _, rfl⟩ := hv
  rfl
theorem arr_ren' {k : IntKind} {n : Nat} {L : List Int} {ρ : Nat → Nat} : some (arrK k n L) = some ((arrK k n L).ren ρ) := by rw [arr_ren]
/-- Less is told, with arrays. -/
theorem Wa {k n1 : Nat} {s : Slots} {E : Env} {S1 : List (Nat × V)} {L1 : List (Nat × Ent)} (l : List (Nat × Nat))
    (hlow : (List.range k).all (fun i => rl l i == i) = true := by rfl) (hinj : (L1.map (·.1)).all (fun i => (L1.map (·.1)).all fun j => !(rl l i == rl l j) || i == j) = true := by rfl)
    (h1 : AllS (fun t x => s t = some (x.ren (rl l)) ∧ x.all.all (fun i => decide (i < n1)) = true) S1 := by repeat' (first | exact trivial | refine ⟨⟨rfl, rfl⟩, ?_⟩))
    (h2 : AllE (fun i e => E (rl l i) = some (e.ren (rl l)) ∧ i < n1 ∧ ∀ v ∈ e.cells, v.all1.all (fun i => decide (i < n1)) = true) L1 := by repeat' (first | exact trivial | refine ⟨⟨by first | exact arr_ren' | exact rowK_ren' | exact rowG_ren' | exact rowT_ren' | rfl, Nat.le_of_ble_eq_true rfl, by first | exact arr_cells | exact row_cellsK | exact row_cellsG | exact rowT_cells | exact cells_of rfl⟩, ?_⟩)) (hk : k ≤ n1 := by exact Nat.le_of_ble_eq_true rfl) : Weak k s E n1 (sl S1) (en L1) :=
  Weak.ofR (rl l) hk hlow hinj h1 h2
section
variable {P : Program} {ops : Array Oper} {o : Oper} {n n' : Nat} {s s' : Slots} {E E' : Env} {d i : Nat} {v w u : V} {x y z p ix : Operand} {T T' T2 el m off k sz c : Nat} {ik ik' : IntKind} {e : Ent} {L D : List Int} {j : Int}
theorem LrA (ha : aggOf P T = some false) (h : (runs ops s o.guard, o.dst, o.op, ev s p, E i) = (some true, some d, .load T p, some (.ptr i off), some (arrK ik m L))) (h1 : off < L.length := by first | omega | (simp; done) | (simp; omega)) : Stp P ops o n s E (n + 1) (setAt s d (some (vI ik (L.getD off 0)))) E [] := by
  simp only [Prod.mk.injEq] at h
  refine st0 h.1 h.2.1 (h.2.2.1 ▸ .load1 _ _ _ _ _ _ h.2.2.2.1 h.2.2.2.2 ha ?_)
  simp only [arrK, aL, List.getElem?_map, List.getElem?_eq_getElem h1, Option.map_some, List.getD_eq_getElem?_getD, Option.getD_some]
theorem SrA (hn : szOf P T = some 1) (h : (runs ops s o.guard, o.dst, o.op, ev s p, E i, ev s x) = (some true, none, .store T p x, some (.ptr i off), some (arrK ik m L), some (vI ik j))) (h1 : off < L.length := by first | omega | (simp; done) | (simp; omega)) :
    Stp P ops o n s E (n + 1) s (setAt E i (some (arrK ik m (L.set off j)))) [i] := by
  simp only [Prod.mk.injEq] at h
  have := Eff.store1 (P := P) (id := n) (E := E) T p x i off (arrK ik m L) (vI ik j) h.2.2.2.1 h.2.2.2.2.1 rfl h.2.2.2.2.2 rfl hn (by simpa [arrK, aL_len] using h1) rfl
  have e : ({ arrK ik m L with cells := (arrK ik m L).cells.set off (vI ik j) } : Ent) = arrK ik m (L.set off j) := by simp only [arrK, aL, List.map_set]
  rw [e] at this
  exact stS h.1 h.2.1 (h.2.2.1 ▸ this)
theorem LdA (ha : aggOf P T = some true) (hs : szOf P T = some m) (h : (runs ops s o.guard, o.dst, o.op, ev s p, E i) = (some true, some d, .load T p, some (.ptr i 0), some (arrK ik m L))) (h1 : L.length = m := by first | omega | (simp; done) | (simp; omega)) : Stp P ops o n s E (n + 1) (setAt s d (some (.agg (aL ik L)))) E [] := by
  simp only [Prod.mk.injEq] at h
  have := Eff.loadS (P := P) (id := n) T p i 0 _ m h.2.2.2.1 h.2.2.2.2 ha hs (by simp [arrK, aL_len, h1])
  have e : (((arrK ik m L).cells.drop 0).take m) = aL ik L := by simp only [arrK, List.drop_zero]; exact List.take_of_length_le (by rw [aL_len]; omega)
  rw [e] at this
  exact st0 h.1 h.2.1 (h.2.2.1 ▸ this)
/-- The whole array is stored. -/
theorem SaA (hs : szOf P T = some m) (h : (runs ops s o.guard, o.dst, o.op, ev s p, E i, ev s x, v.cells, v.noTup) = (some true, none, .store T p x, some (.ptr i 0), some (arrK ik m D), some v, aL ik L, true)) (h1 : L.length = m := by first | omega | (simp; done) | (simp; omega)) (h2 : D.length = m := by first | omega | (simp; done) | (simp; omega)) :
    Stp P ops o n s E (n + 1) s (setAt E i (some (arrK ik m L))) [i] := by
  simp only [Prod.mk.injEq] at h
  obtain ⟨a, b, c, e, f, g, q, t⟩ := h
  have := Eff.store (P := P) (id := n) (E := E) T p x i 0 (arrK ik m D) v e f rfl g (by rw [q, aL_len, h1]; exact hs) (by rw [q, aL_len]; simp [arrK, aL_len]; omega) t
  have e : ({ arrK ik m D with cells := (arrK ik m D).cells.take 0 ++ (v.cells ++ (arrK ik m D).cells.drop (0 + v.cells.length)) } : Ent) = arrK ik m L := by
    rw [q]
    simp only [arrK, List.take_zero, List.nil_append, Nat.zero_add, aL_len]
    rw [List.drop_of_length_le (by rw [aL_len]; omega), List.append_nil]
  rw [e] at this
  exact stS a b (c ▸ this)
theorem SaB (ik : IntKind) (D L : List Int) (hs : szOf P T = some m) (h : (runs ops s o.guard, o.dst, o.op, ev s p, E i, ev s x) = (some true, none, .store T p x, some (.ptr i 0), some (arrK ik m D), some (.b (agK ik L)))) (h1 : L.length = m := by first | omega | (simp; done) | (simp; omega)) (h2 : D.length = m := by first | omega | (simp; done) | (simp; omega)) :
    Stp P ops o n s E (n + 1) s (setAt E i (some (arrK ik m L))) [i] := by
  simp only [Prod.mk.injEq] at h
  obtain ⟨a, b, c, e, f, g⟩ := h
  have q : (V.b (agK ik L)).cells = aL ik L := by simp only [V.cells, aL, List.map_map]; rfl
  exact SaA (v := .b (agK ik L)) (D := D) hs (by simp only [Prod.mk.injEq]; exact ⟨a, b, c, e, f, g, q, rfl⟩) h1 h2
theorem resVar_arr {t : Nat} (hs : s t = some (.ptr i 0)) (he : E i = some (arrK ik m L)) (ha : aggOf P T = some true) (hn : szOf P T = some m) (h1 : L.length = m := by first | omega | (simp; done) | (simp; omega)) : resVar P s E (.cell t T) = some (agK ik L) := by
  refine resVar_cell hs he ha hn (by simp [arrK, aL_len, h1]) ?_
  have e : (((arrK ik m L).cells.drop 0).take m) = aL ik L := by simp only [arrK, List.drop_zero]; exact List.take_of_length_le (by rw [aL_len]; omega)
  rw [e]; exact res_aL
end
end Go.VL

/- A nil slice is nil. -/
set_option linter.unusedVariables false
set_option linter.unusedSimpArgs false
namespace Go.VL
section
variable {P : Program} {id : Nat} {s : Slots} {E : Env}
theorem Eff.isNilV {T T' e : TypeId} {x : Operand} {eq : Bool} (ha : ev s x = some (.b .nil)) (hu : P.underlying T = some (.slice e)) :
    Eff P id s E (.binOp (if eq then .eql else .neq) T x (.const (.slice none 0 0)) T') (some (.b (.lit (.bool eq)))) [] :=
  .sem _ _ _ fun s' E' k1 k2 w0 W P0 E0 pl0 pl N a o K Qx ho S hf hK => by
    have hr : RepB W (Qf (FF w0 P0) E' pl) .nil (a.eval x) := S.ev (show ev s' x = some (.b .nil) by rw [← k1 x (by cases eq <;> simp [Op.operands])]; exact ha)
    have hv : a.eval x = .slice none 0 0 := by
      generalize a.eval x = q at hr
      cases hr; rfl
    refine wp_val (v := .b (.lit (.bool eq))) (u := .bool eq) S hf ?_ (RepB.lit _ rfl) hK
    have hc : a.eval (.const (.slice none 0 0)) = .slice none 0 0 := rfl
    cases eq with
    | true =>
      have ho : o.op = .binOp .eql T x (.const (.slice none 0 0)) T' := ho
      have hg : (eqGuard .eql T x (.const (.slice none 0 0)) (.slice none 0 0) (.slice none 0 0)).run P W = .ok () W := by simp [eqGuard]
      have hb := Lib.run_eql_slice_nil W T e none 0 0 0 0 hu
      simp [execOp, ho, hv, hc, hg, hb]
    | false =>
      have ho : o.op = .binOp .neq T x (.const (.slice none 0 0)) T' := ho
      have hg : (eqGuard .neq T x (.const (.slice none 0 0)) (.slice none 0 0) (.slice none 0 0)).run P W = .ok () W := by simp [eqGuard]
      have hb := run_neq_slice_nil_any W T e none 0 0 0 0 hu
      simp [execOp, ho, hv, hc, hg, hb]
end
theorem hot_drop {E : Env} {pl : Plan} {i k : Nat} (h : Hot (setAt E i none) pl k) : Hot E pl k := by
  obtain ⟨j, e, c, h1, h2, h3⟩ := h
  by_cases hj : j = i
  · subst hj; rw [setAt_self] at h1; cases h1
  · rw [setAt_ne _ _ hj] at h1; exact ⟨j, e, c, h1, h2, h3⟩
/-- A literal's row turned to the type that it has: it is a value from here on. -/
theorem Eff.convBytes {P : Program} {id : Nat} {s : Slots} {E : Env} {T el : TypeId} {x : Operand} {i m : Nat} {L : List Int} (hx : ev s x = some (.own i m)) (he : E i = some (rowK .u8 L)) (hl : L.length = m) (h0 : L ≠ []) (hu : P.underlying T = some (.slice el)) (hel : P.underlying el = some (.int .u8)) :
    Eff P id s E (.convert T T x) (some (.b (slK .u8 L))) [(i, none)] :=
  .sem _ _ _ fun s' E' k1 k2 w0 W P0 E0 pl0 pl N a o K Qx ho S hf hK => by
    have hx' : ev s' x = some (.own i m) := by rw [← k1 x (by simp [Op.operands])]; exact hx
    have he' : E' i = some (rowK .u8 L) := by rw [← k2 i (mem_idsOf hx (by simp [V.ids, V.names]))]; exact he
    have hlen : 0 < L.length := List.length_pos_iff.2 h0
    obtain ⟨g, c, hp, hmc, hxv⟩ := S.ev hx'
    obtain ⟨c1, cur, T0, rfl, _, q2, q3, q4, q5, q6, q7, q8⟩ := (S.eok.ent i _ he').pos hp (.inl (by simpa [rowK] using hlen))
    have hX : Hot E' pl g := ⟨i, _, c1, he', rfl, hp⟩
    have hg : g < W.heap.size := (Array.getElem?_eq_some_iff.1 q2).1
    have hsh : W.shape? g = some (T0, cur.size) := by unfold World.shape?; rw [q2]
    obtain ⟨W1, hW1⟩ : ∃ W1, W.freeze ⟨g, cur.size, none⟩ 1 = W1 := ⟨_, rfl⟩
    have hW1' : W1 = { W with heap := W1.heap } := by rw [← hW1]; unfold World.freeze; rw [if_neg (by decide)]
    have hheap : ∀ k, k ≠ g → W1.heap[k]? = W.heap[k]? := fun k hk => by
      rw [← hW1]; unfold World.freeze; rw [if_neg (by decide)]
      show (W.heap.modify g _)[k]? = _
      rw [Array.getElem?_modify, if_neg (fun h => hk h.symm)]
    have hsize : W1.heap.size = W.heap.size := by
      rw [← hW1]; unfold World.freeze; rw [if_neg (by decide)]
      show (W.heap.modify g _).size = _
      simp
    have hat : W1.heap[g]? = some (.cells cur T0 (cur.size, cur.size + 1)) := by
      rw [← hW1]; unfold World.freeze; rw [if_neg (by decide)]
      show (W.heap.modify g _)[g]? = _
      rw [Array.getElem?_modify, if_pos rfl, q2]; rfl
    have hrun : (execOp a.eval o).run P W = .ok (.value (.slice (some ⟨g, 0, none⟩) m (c1 + 1))) W1 := by
      simp [execOp, ho, hxv, convert, run_underlying hu, run_underlying hel, markStringish, hsh, hW1]
    have hh : ∀ k, Hot (setAt E' i none) pl k → Hot E' pl k ∨ W.heap.size ≤ k := fun k hk => .inl (hot_drop hk)
    have hng : ¬ Hot (setAt E' i none) pl g := fun hk => by
      obtain ⟨j, e, c, h1, h2, h3⟩ := hk
      by_cases hj : j = i
      · subst hj; rw [setAt_self] at h1; cases h1
      · rw [setAt_ne _ _ hj] at h1
        exact hj (S.eok.inj j i e _ g c c1 h1 he' h3 hp)
    have S1 : Sim w0 P0 E0 pl0 N (setAt E' i none) pl s' a W1 := by
      refine S.step (fun k => k = g) (by rw [hW1']) (by rw [hW1']) (by rw [hW1']) (Nat.le_of_eq hsize.symm) (fun k _ hk => hheap k hk) (fun k h => h ▸ hX) (fun _ _ h => h) hh ⟨fun j e' hj => ?_, fun j j' e1 e2 g1 c1' c2 hi hj pi pj => ?_⟩
      · by_cases h : j = i
        · subst h; rw [setAt_self] at hj; cases hj
        · rw [setAt_ne _ _ h] at hj
          exact (S.eok.ent j e' hj).move (fun k => k = g) (fun k _ hk => hheap k hk) (fun k h => h ▸ hX) (fun _ _ h => h) hh (fun g' c' hp' hgg => by
            subst hgg
            exact h (S.eok.inj j i e' _ g' c' c1 hj he' hp' hp))
      · have old : ∀ (j : Nat) (e1 : Ent), setAt E' i none j = some e1 → E' j = some e1 := fun j e1 h => by
          by_cases hji : j = i
          · subst hji; rw [setAt_self] at h; cases h
          · rwa [setAt_ne _ _ hji] at h
        exact S.eok.inj j j' e1 e2 g1 c1' c2 (old _ _ hi) (old _ _ hj) pi pj
    unfold Oper.wp
    rw [hrun]
    refine hK _ pl W1 S1 (fun k hk h => h) ?_
    have hce : ∀ (j : Nat) (x : B), (L.map (numB .u8))[j]? = some x → ∃ u : Value, cur[j]? = some u ∧ u.oneCell' = true ∧ RepB W (Qf (FF w0 P0) E' pl) x u := fun j x hj => q8 j (.b x) (by
      rw [List.getElem?_map, Option.map_eq_some_iff] at hj
      obtain ⟨y, hy, rfl⟩ := hj
      simp [rowK, hy])
    refine RepB.sl ⟨g, 0, none⟩ m (c1 + 1) 1 (L.map (numB .u8)) (fun j => cur.getD j default) (by simp [hl]) hmc q6 (by decide) (fun _ => ⟨q3, hng⟩) (fun j hj => ?_) (fun j hj => ?_) (fun j x hj => ?_)
    · have hj' : j < cur.size := by simp [rowK] at q5 hj; omega
      rw [add_plain]
      unfold World.cell?
      simp [hat, hj']
    · obtain ⟨u, hu1, hu2, _⟩ := hce j _ (List.getElem?_eq_getElem hj)
      have hj' := (Array.getElem?_eq_some_iff.1 hu1)
      obtain ⟨hlt, rfl⟩ := hj'
      simp [hlt] ; exact hu2
    · obtain ⟨u, hu1, _, hu3⟩ := hce j x hj
      obtain ⟨hlt, rfl⟩ := Array.getElem?_eq_some_iff.1 hu1
      have : cur.getD j default = cur[j] := by simp [hlt]
      rw [this]
      exact hu3.move (fun k hk _ => hheap k (fun h => hk.2 (h ▸ hX))) (fun k hk _ => ⟨hk.1, fun h => hk.2 (hot_drop h)⟩)
section
variable {P : Program} {ops : Array Oper} {o : Oper} {n : Nat} {s : Slots} {E : Env} {d : Nat} {x : Operand} {T T' el : TypeId}
theorem Nn1 (hu : P.underlying T = some (.slice el)) (h : (runs ops s o.guard, o.dst, o.op, ev s x) = (some true, some d, .binOp .eql T x (.const (.slice none 0 0)) T', some (.b .nil))) : Stp P ops o n s E (n + 1) (setAt s d (some (vB true))) E [] := by
  simp only [Prod.mk.injEq] at h; exact st0 h.1 h.2.1 (h.2.2.1 ▸ Eff.isNilV (eq := true) h.2.2.2 hu)
theorem Nn2 (hu : P.underlying T = some (.slice el)) (h : (runs ops s o.guard, o.dst, o.op, ev s x) = (some true, some d, .binOp .neq T x (.const (.slice none 0 0)) T', some (.b .nil))) : Stp P ops o n s E (n + 1) (setAt s d (some (vB false))) E [] := by
  simp only [Prod.mk.injEq] at h; exact st0 h.1 h.2.1 (h.2.2.1 ▸ Eff.isNilV (eq := false) h.2.2.2 hu)
theorem Tb {i m : Nat} {L : List Int} {by' : Nat} (K : SlT P T el (numB .u8 0) by') (hel : P.underlying el = some (.int .u8)) (h : (runs ops s o.guard, o.dst, o.op, ev s x, E i) = (some true, some d, .convert T T x, some (.own i m), some (rowK .u8 L))) (h0 : L ≠ [] := by simp) (hl : L.length = m := by first | omega | (simp; done) | (simp; omega)) :
    Stp P ops o n s E (n + 1) (setAt s d (some (.b (slK .u8 L)))) (setAt E i none) [i] := by
  simp only [Prod.mk.injEq] at h; exact st1 h.1 h.2.1 (h.2.2.1 ▸ Eff.convBytes h.2.2.2.1 h.2.2.2.2 hl h0 K.u hel)
end
end Go.VL

/- A number told by another text. -/
set_option linter.unusedVariables false
namespace Go.VL
theorem Ki {P : Program} {ops : Array Oper} {o : Oper} {n n' d : Nat} {s : Slots} {E E' : Env} {ik : IntKind} {a b : Int} {l : List Nat} (h : a = b) (hs : Stp P ops o n s E n' (setAt s d (some (vI ik a))) E' l) : Stp P ops o n s E n' (setAt s d (some (vI ik b))) E' l := h ▸ hs
theorem cellsT_take {α : Type} {f : α → List B} {sz : Nat} (hf : ∀ x, (f x).length = sz) : ∀ (A : List α) (k : Nat), (cellsT f A).take (k * sz) = cellsT f (A.take k)
  | [], k => by simp [cellsT]
  | x :: A, 0 => by simp [cellsT]
  | x :: A, k + 1 => by
    have h := cellsT_take hf A k
    simp only [cellsT, List.flatMap_cons, List.take_succ_cons] at h ⊢
    rw [List.take_append, hf, List.take_of_length_le (by rw [hf]; rw [Nat.add_mul]; omega), show (k + 1) * sz - sz = k * sz by rw [Nat.add_mul]; omega, h]
section
variable {P : Program} {ops : Array Oper} {o : Oper} {n d sz : Nat} {s : Slots} {E : Env} {x hi : Operand} {T el : TypeId} {ik : IntKind} {b : Int}
/-- A slice of structs by value, cut above. -/
theorem CtT {α : Type} {f : α → List B} {A : List α} (hf : ∀ x, (f x).length = sz) (hu : P.underlying T = some (.slice el)) (hs : szOf P el = some sz) (h : (runs ops s o.guard, o.dst, o.op, ev s x, ev s hi) = (some true, some d, .slice T x none (some hi) none, some (.b (slT sz f A)), some (vI ik b))) (h0 : 0 ≤ b := by first | omega | (simp; done) | (simp; omega)) (h1 : b ≤ A.length := by first | omega | (simp; done) | (simp; omega)) :
    Stp P ops o n s E (n + 1) (setAt s d (some (.b (slT sz f (A.take b.toNat))))) E [] := by
  simp only [Prod.mk.injEq] at h; obtain ⟨g2, g3, g4, g5, g6⟩ := h
  refine st0 g2 g3 (g4 ▸ ?_)
  have hl := cellsT_len hf (L := A)
  have := Eff.slSl (P := P) (id := n) (E := E) T x none (some hi) sz (cellsT f A) el ik ik 0 b g5 hu hs (.inl ⟨rfl, rfl⟩) (.inr ⟨hi, rfl, g6⟩) (Int.le_refl _) h0 (by rw [hl]; exact_mod_cast Nat.mul_le_mul_right sz (by omega : b.toNat ≤ A.length))
  simp only [Int.toNat_zero, Nat.zero_mul, List.drop_zero, cellsT_take hf] at this
  exact this
end
end Go.VL

/- Rules for memory of a known type: what a strings.Builder is made of. -/
set_option linter.unusedVariables false
set_option linter.unusedSimpArgs false
namespace Go.VL
open Go.RowKit
/-- The bytes of a string, as cells. -/
def strV (b : ByteArray) : List V := b.data.toList.map fun x => .b (numB .u8 x.toNat)
@[simp] theorem strV_len (b : ByteArray) : (strV b).length = b.size := by simp [strV]
theorem strV_rep {W : World} {Q : Nat → Prop} {pl : Plan} {b : ByteArray} {q : Nat} {x : V} (h : (strV b)[q]? = some x) : ∃ u, (Lib.strCells b)[q]? = some u ∧ u.oneCell' = true ∧ RepL W Q pl x u := by
  simp only [strV, List.getElem?_map, Option.map_eq_some_iff] at h
  obtain ⟨y, hy, rfl⟩ := h
  exact ⟨.int .u8 y.toNat, by simp [Lib.strCells, hy], rfl, .lit _ rfl⟩
section
variable {P : Program} {id : Nat} {s : Slots} {E : Env}
theorem Eff.toUnsafe {T T' t : TypeId} {x : Operand} {i off m : Nat} {e : Ent} (hx : ev s x = some (.ptr i off)) (he : E i = some e) (hl : off < e.cells.length) (hs : P.underlying T = some (.pointer t)) (hd : P.underlying T' = some .unsafePointer) (ht : szOf P t = some m) (hm : m ≠ 0) :
    Eff P id s E (.convert T T' x) (some (.ptr i off)) [] :=
  .sem _ _ _ fun s' E' k1 k2 w0 W P0 E0 pl0 pl N a o K Qx ho S hf hK => by
    have hx' : ev s' x = some (.ptr i off) := by rw [← k1 x (by simp [Op.operands])]; exact hx
    have he' : E' i = some e := by rw [← k2 i (mem_idsOf hx (by simp [V.ids]))]; exact he
    obtain ⟨g, c, hp, hxv⟩ := S.ev hx'
    obtain ⟨c1, cur, T0, _, _, q2, q3, q4, q5, q6, q7, q8⟩ := (S.eok.ent i _ he').pos hp (.inl (by omega))
    obtain ⟨ti, hti, hsz⟩ := info_of_sz ht
    have hsh : W.shape? g = some (T0, cur.size) := by unfold World.shape?; rw [q2]
    have hrun := Lib.run_to_unsafe (P := P) W (src := T) (dst := T') ⟨g, off, none⟩ hs hd hti (by rw [hsz]; exact hm) hsh (by show off < cur.size; omega)
    refine wp_val (v := .ptr i off) (u := .pointer (some ⟨g, off, none⟩)) S hf ?_ ⟨g, c, hp, rfl⟩ hK
    simp [execOp, ho, hxv, hrun]
theorem Eff.fromUnsafe {T T' u B : TypeId} {x : Operand} {i off m : Nat} {e : Ent} (hx : ev s x = some (.ptr i off)) (he : E i = some e) (hl : off < e.cells.length) (hB : e.tg.T = some B) (hs : P.underlying T = some .unsafePointer) (hd : P.underlying T' = some (.pointer u)) (ht : szOf P u = some m) (hc : P.cellsOf B = e.sz)
    (hlies : ∀ q, liesAt P P.depth B (q + 1) off u 1 = true) :
    Eff P id s E (.convert T T' x) (some (.ptr i off)) [] :=
  .sem _ _ _ fun s' E' k1 k2 w0 W P0 E0 pl0 pl N a o K Qx ho S hf hK => by
    have hx' : ev s' x = some (.ptr i off) := by rw [← k1 x (by simp [Op.operands])]; exact hx
    have he' : E' i = some e := by rw [← k2 i (mem_idsOf hx (by simp [V.ids]))]; exact he
    obtain ⟨g, c, hp, hxv⟩ := S.ev hx'
    obtain ⟨c1, cur, T0, hc1, _, q2, q3, q4, q5, q6, q7, q8⟩ := (S.eok.ent i _ he').pos hp (.inl (by omega))
    obtain ⟨ti, hti, hsz⟩ := info_of_sz ht
    have hT : T0 = B := q7.2 B hB
    subst hT
    have hsh : W.shape? g = some (T0, cur.size) := by unfold World.shape?; rw [q2]
    have hrun := Lib.run_from_unsafe (P := P) W (src := T) (dst := T') ⟨g, off, none⟩ hs hd hti hsh (by rw [q4, hc, Nat.mul_div_cancel _ q7.1, hc1]; exact hlies c1)
    refine wp_val (v := .ptr i off) (u := .pointer (some ⟨g, off, none⟩)) S hf ?_ ⟨g, c, hp, rfl⟩ hK
    simp [execOp, ho, hxv, hrun]
theorem Eff.noEsc {f : FuncId} {x : Operand} {ts : Array TypeId} {i off : Nat} (hx : ev s x = some (.ptr i off)) (hN : ∀ (v : Value) W, (callFunc f #[v]).run P W = .ok (.value v) W) :
    Eff P id s E (.call { callee := .value (.func f), args := #[x], argTypes := ts }) (some (.ptr i off)) [] :=
  .sem _ _ _ fun s' E' k1 k2 w0 W P0 E0 pl0 pl N a o K Qx ho S hf hK => by
    have hx' : ev s' x = some (.ptr i off) := by rw [← k1 x (by simp [Op.operands, Call.operands])]; exact hx
    obtain ⟨g, c, hp, hxv⟩ := S.ev hx'
    have h4 : a.eval (.func f) = .func (.func f) #[] #[] := rfl
    refine wp_val (v := .ptr i off) (u := .pointer (some ⟨g, off, none⟩)) S hf ?_ ⟨g, c, hp, rfl⟩ hK
    have := hN (.pointer (some ⟨g, off, none⟩)) W
    simp [execOp, ho, resolve, h4, Deferred.ofValue, invoke, hxv, this]
theorem Eff.ptrNe {T T' t : TypeId} {x y : Operand} {i off m : Nat} (hx : ev s x = some (.ptr i off)) (hy : ev s y = some (.ptr i off)) (hu : P.underlying T = some (.pointer t)) (ht : szOf P t = some m) :
    Eff P id s E (.binOp .neq T x y T') (some (.b (.lit (.bool false)))) [] :=
  .sem _ _ _ fun s' E' k1 k2 w0 W P0 E0 pl0 pl N a o K Qx ho S hf hK => by
    have hx' : ev s' x = some (.ptr i off) := by rw [← k1 x (by simp [Op.operands])]; exact hx
    have hy' : ev s' y = some (.ptr i off) := by rw [← k1 y (by simp [Op.operands])]; exact hy
    obtain ⟨g, c, hp, hxv⟩ := S.ev hx'
    obtain ⟨g', c', hp', hyv⟩ := S.ev hy'
    rw [hp] at hp'
    injection hp' with hp'
    injection hp' with e1 e2
    subst e1
    obtain ⟨ti, hti, hsz⟩ := info_of_sz ht
    have hrun := Lib.run_neq_ptr_same (P := P) W (tp := T) ⟨g, off, none⟩ hu hti
    refine wp_val (v := .b (.lit (.bool false))) (u := .bool false) S hf ?_ (RepB.lit _ rfl) hK
    have hg : (eqGuard .neq T x y (.pointer (some ⟨g, off, none⟩)) (.pointer (some ⟨g, off, none⟩))).run P W = .ok () W := by simp [eqGuard, run_underlying hu]
    simp [execOp, ho, hxv, hyv, hg, hrun]
theorem Eff.appendRowT {x y : Operand} {T el : TypeId} {i n : Nat} {e : Ent} {v : V} {l : List B} {bytes : Nat} {t : Tag} (hx : ev s x = some (.row i n none)) (he : E i = some e) (hh : e.hot = true) (h1 : e.sz = 1) (hn : e.cells.length = n) (hy : ev s y = some v) (hr : res E v = some (.sl 1 l))
    (hu : P.underlying T = some (.slice el)) (hs : szOf P el = some 1) (hb : (P.info? el).map (·.bytes) = some bytes) (hz : (zeroOf P el).map List.length = some 1) (hm : (n + l.length) * bytes ≤ 140737488355328) (hm' : n + l.length ≤ maxLen) (hlit : l.all B.isLit = true) (htg : ∀ T', t.T = some T' → e.tg.T = some T' ∧ T' = el) :
    Eff P id s E (.call { callee := .builtin .append, args := #[x, y], argTypes := #[T, T] }) (some (.row id (n + l.length) none)) [(i, none), (id, some ⟨1, e.cells ++ l.map .b, t⟩)] :=
  .sem _ _ _ fun s' E' k1 k2 w0 W P0 E0 pl0 pl N a o K Qx ho S hf hK => by
    have hx' : ev s' x = some (.row i n none) := by rw [← k1 x mem_app1]; exact hx
    have he' : E' i = some e := by rw [← k2 i (looks_arg ⟨x, by simp, mem_idsOf hx (by simp [V.ids, V.names])⟩)]; exact he
    have hy' : ev s' y = some v := by rw [← k1 y mem_app2]; exact hy
    have hr' : res E' v = some (.sl 1 l) := by rw [← res_congr (fun i hi => k2 i (looks_arg ⟨y, by simp, mem_idsOf hy (ids_names hi)⟩))]; exact hr
    obtain ⟨sp, sCap, us, hyv, hul, hcell, hone, hnew⟩ := src_lits S hy' hr' hlit
    rw [← h1] at hul hs hz
    refine eff_appendRow (t := t) (new := l.map V.b) hx' he' hh (by rw [hn, h1, Nat.mul_one]) hyv hul hcell hone (by rw [hul, h1]; simp) (fun q x hq => let ⟨u, e1, e2⟩ := hnew q x hq; ⟨u, e1, e2 _ _ _⟩) hu hs hb hz hm hm' ho S hf ?_ htg
    rw [h1]; exact hK
theorem Eff.moveGT {x : Operand} {v : V} {sz : Nat} {t : Tag} (h : ev s x = some v) (h0 : 0 < sz) : Eff P id s E (.move x) (some v) [(id, some ⟨sz, [], t⟩)] :=
  .sem _ _ _ fun s' E' h1 h2 w0 W P0 E0 pl0 pl N a o K Qx ho S hf hK => wp_valG (u := a.eval x) S hf (by simp [execOp, ho]) (S.ev (by rw [← h1 x (by simp [Op.operands])]; exact h)) h0 hK
theorem Eff.sliceData {x : Operand} {ts : Array TypeId} {i n : Nat} (hx : ev s x = some (.row i n none)) (hn : 0 < n) :
    Eff P id s E (.call { callee := .builtin .unsafeSliceData, args := #[x], argTypes := ts }) (some (.ptr i 0)) [] :=
  .sem _ _ _ fun s' E' k1 k2 w0 W P0 E0 pl0 pl N a o K Qx ho S hf hK => by
    have hx' : ev s' x = some (.row i n none) := by rw [← k1 x (by simp [Op.operands, Call.operands])]; exact hx
    rcases (show RowRep pl i n none (a.eval x) from S.ev hx') with ⟨_, h0, _⟩ | ⟨g, c, hp, hnc, hxv, _⟩
    · omega
    · have hrun := Lib.run_unsafeSliceData_row (P := P) W ts o.type ⟨g, 0, none⟩ n c (by omega)
      refine wp_val (v := .ptr i 0) (u := .pointer (some ⟨g, 0, none⟩)) S hf ?_ ⟨g, c, hp, rfl⟩ hK
      simp [execOp, ho, resolve, invoke, builtin, hxv, hrun]
end
end Go.VL

/- Appending a string; the string that unsafe.String makes of a row. -/
set_option linter.unusedVariables false
set_option linter.unusedSimpArgs false
namespace Go.VL
open Go.RowKit
section
variable {P : Program} {w0 W : World} {P0 : Nat → Prop} {E0 E : Env} {pl0 pl : Plan} {N : Frm} {id : Nat} {s : Slots} {a : Act} {o : Oper} {K : Act → World → Prop} {Qx : Exit → Act → World → Prop}
theorem eff_appendStr {x y : Operand} {T U el : TypeId} {i n : Nat} {e : Ent} {str : ByteArray} (hx : ev s x = some (.row i n none)) (he : E i = some e) (hh : e.hot = true) (h1 : e.sz = 1) (hT : e.tg.T = some el) (hn : e.cells.length = n) (hyv : a.eval y = .string str)
    (hu : P.underlying T = some (.slice el)) (hU : P.underlying U = some .string) (hs : szOf P el = some 1) (hb : (P.info? el).map (·.bytes) = some 1) (hz : zeroOf P el = some [numB .u8 0]) (hm : n + str.size ≤ 140737488355328)
    (ho : o.op = .call { callee := .builtin .append, args := #[x, y], argTypes := #[T, U] }) (S : Sim w0 P0 E0 pl0 N E pl s a W) (hf : pl id = none)
    (hK : Next w0 P0 E0 pl0 pl N id s a o K (setAt (setAt E i none) id (some ⟨1, e.cells ++ strV str, ⟨true, some el⟩⟩)) (.row id (n + str.size) none)) : Oper.wp P o a W K Qx := by
  have hm' : n + str.size ≤ maxLen := by simp only [maxLen]; omega
  obtain ⟨ti, zv, hti, hz1, hz2⟩ := zeroOf_run hz
  have hsz : ti.size = 1 := by
    obtain ⟨ti', h1, h2⟩ := info_of_sz hs
    rw [hti] at h1; injection h1 with h1; subst h1; exact h2
  have hby : ti.bytes = 1 := by simpa [hti] using hb
  obtain ⟨zr1, zr2⟩ := zeroBs_rep (W := W) (Q := fun _ => True) hz2
  have hzs : zv.cells.size = 1 := by simpa using zr1.symm
  have hscl : (Lib.strCells str).length = str.size := Lib.strCells_length str
  rcases (show RowRep pl i n none (a.eval x) from S.ev hx) with ⟨_, h0, hxv⟩ | ⟨g, c, hp, hnc, hxv, _⟩
  · subst h0
    have hc : e.cells = [] := List.length_eq_zero_iff.1 hn
    have S1 := S.lose i
    by_cases hm0 : str.size = 0
    · have hnw : strV str = [] := List.length_eq_zero_iff.1 (by rw [strV_len]; exact hm0)
      have hfc := Lib.run_firstCells_string (P := P) W ti.size str
      have hsc : Lib.strCells str = [] := List.length_eq_zero_iff.1 (by rw [hscl]; exact hm0)
      rw [hsc, hm0] at hfc
      rw [hc, hnw, hm0] at hK
      refine wp_valG (E := setAt E i none) (u := .slice none 0 0) (v := .row id 0 none) S1 hf ?_ (.inl ⟨rfl, rfl, rfl⟩) (by decide) hK
      simp only [execOp, ho, resolve, invoke, builtin, Sem.run_bind]
      simp [Builtin.append_, run_underlying hu, run_underlying hU, sizeOf, typeInfo, hti, Builtin.lenOf, hxv, hyv, hm0, hfc]
    · have hr := run_append_nil_string (P := P) W T U o.type el ti zv hu hU hti hz1 str (by omega) (by omega) (by rw [hby]; omega)
      have hge := grownCap_ge W str.size 0 el
      have hgm := grownCap_le_maxLen W str.size 0 el (by omega)
      have e1 : (str.data.map fun b => Value.int .u8 b.toNat) = (Lib.strCells str).toArray := by
        apply Array.ext'
        simp [Lib.strCells]
      rw [e1] at hr
      have hrun : (execOp a.eval o).run P W = .ok (.value (.slice (some ⟨W.heap.size, 0, none⟩) str.size (grownCap W str.size 0 el))) (W.drew.alloc (.cells ((Lib.strCells str).toArray ++ Builtin.zeroCells zv.cells (grownCap W str.size 0 el - str.size)) el)) := by
        simp only [execOp, ho, resolve, invoke, builtin, Sem.run_bind]
        simp [hxv, hyv, hr]
      have hsize : ((Lib.strCells str).toArray ++ Builtin.zeroCells zv.cells (grownCap W str.size 0 el - str.size)).size = grownCap W str.size 0 el * 1 := by
        simp only [Array.size_append, List.size_toArray, size_zeroCells, hscl, hzs]
        omega
      have S2 := (drew_sim S1).new (id := id) hf ((Lib.strCells str).toArray ++ Builtin.zeroCells zv.cells (grownCap W str.size 0 el - str.size)) el ⟨1, strV str, ⟨true, some el⟩⟩ (grownCap W str.size 0 el)
        hsize (by rw [hsize, strV_len]; omega) hgm Nat.zero_lt_one (fun q x hq => by
          obtain ⟨u, hu1, hu2, hu3⟩ := strV_rep (W := W.drew) (Q := Qf (FF w0 P0) (setAt E i none) pl) (pl := pl) hq
          refine ⟨u, ?_, hu2, hu3⟩
          rw [Array.getElem?_append_left (by rw [List.size_toArray]; exact (List.getElem?_eq_some_iff.1 hu1).1), List.getElem?_toArray]
          exact hu1) (fun T' h => by injection h)
      unfold Oper.wp
      rw [hrun]
      rw [hc, List.nil_append, Nat.zero_add] at hK
      exact hK _ _ _ S2 (fun k hk h => by rw [setAt_ne _ _ hk]; exact h) (.inr ⟨_, _, setAt_self _ _ _, hge, rfl, fun q h => by cases h⟩)
  · obtain ⟨g', c', cur, T0, q1, q2, q3, q4, q5, q6, q7, q8⟩ := S.eok.ent i e he
    rw [hp] at q1
    injection q1 with q1
    injection q1 with q1 q1'
    subst q1; subst q1'
    have hT0 : T0 = el := q7.2 el hT
    subst hT0
    rw [h1, Nat.mul_one] at q4
    have hEE : ∀ w : List V, setAt (setAt (setAt E i (some ⟨e.sz, w, ⟨true, some T0⟩⟩)) i none) id (some (⟨e.sz, w, ⟨true, some T0⟩⟩ : Ent)) = setAt (setAt E i none) id (some ⟨1, w, ⟨true, some T0⟩⟩) := fun w => by
      rw [h1]
      congr 1
      funext k
      simp only [setAt]
      split <;> rfl
    by_cases hm0 : str.size = 0
    · have hnw : strV str = [] := List.length_eq_zero_iff.1 (by rw [strV_len]; exact hm0)
      have hfc := Lib.run_firstCells_string (P := P) W ti.size str
      have hsc : Lib.strCells str = [] := List.length_eq_zero_iff.1 (by rw [hscl]; exact hm0)
      rw [hsc, hm0] at hfc
      have hrun : (execOp a.eval o).run P W = .ok (.value (.slice (some ⟨g, 0, none⟩) n c)) W := by
        simp only [execOp, ho, resolve, invoke, builtin, Sem.run_bind]
        simp [Builtin.append_, run_underlying hu, run_underlying hU, sizeOf, typeInfo, hti, Builtin.lenOf, hnc, hxv, hyv, hm0, hfc, storeCells]
      have S2 := (S.retag he ⟨true, some T0⟩ (fun _ => hh) (fun T' h => by rw [hT]; exact h)).rename (id := id) (e := ⟨e.sz, e.cells, ⟨true, some T0⟩⟩) (setAt_self _ _ _) hp hf
      rw [hEE] at S2
      unfold Oper.wp
      rw [hrun]
      rw [hnw, List.append_nil, hm0, Nat.add_zero] at hK
      exact hK _ _ _ S2 (fun k hk h => by rw [setAt_ne _ _ hk]; exact h) (.inr ⟨g, c, setAt_self _ _ _, hnc, rfl, fun q h => by cases h⟩)
    · by_cases hroom : n + str.size ≤ c
      · have hc0 : 0 < c := by omega
        have hg := q2 hc0
        have hrs := Lib.run_append_room_string (P := P) W T U o.type T0 ti hu hU hti hsz g n c cur hg str hroom (by omega)
        have hrun : (execOp a.eval o).run P W = .ok (.value (.slice (some ⟨g, 0, none⟩) (n + str.size) c)) (W.setRow g (cur.toList.take n ++ Lib.strCells str ++ cur.toList.drop (n + str.size)).toArray) := by
          simp only [execOp, ho, resolve, invoke, builtin, Sem.run_bind]
          simp [hxv, hyv, hrs]
        have hlt : (cur.toList.take n).length = n := by simp; omega
        have S1 := S.updT (W1 := W.setRow g (cur.toList.take n ++ Lib.strCells str ++ cur.toList.drop (n + str.size)).toArray) he hh hp hc0 rfl rfl rfl (by simp [World.setRow]) (fun k _ hk => setRow_other W g k _ hk)
          (cur.toList.take n ++ Lib.strCells str ++ cur.toList.drop (n + str.size)).toArray T0 (setRow_heap W g cur _ T0 (0, 0) hg) (e.cells ++ strV str) ⟨true, some T0⟩ (fun _ => hh) (fun T' h => by injection h)
          (by rw [h1, Nat.mul_one, List.size_toArray]; simp only [List.length_append, hlt, hscl, List.length_drop, Array.length_toList]; omega)
          (by rw [List.size_toArray]; simp only [List.length_append, hlt, hscl, List.length_drop, Array.length_toList, strV_len, hn]; omega) (fun j y hj => by
            by_cases hjn : j < n
            · rw [List.getElem?_append_left (by omega)] at hj
              obtain ⟨u, hu1, hu2, hu3⟩ := q8 j y hj
              refine ⟨u, ?_, hu2, hu3⟩
              rw [List.getElem?_toArray, List.append_assoc, List.getElem?_append_left (by omega), List.getElem?_take_of_lt hjn, Array.getElem?_toList]
              exact hu1
            · rw [List.getElem?_append_right (by omega), hn] at hj
              obtain ⟨u, hu1, hu2, hu3⟩ := strV_rep (W := W) (Q := Qf (FF w0 P0) E pl) (pl := pl) hj
              have hq := (List.getElem?_eq_some_iff.1 hu1).1
              refine ⟨u, ?_, hu2, hu3⟩
              rw [List.getElem?_toArray, List.append_assoc, List.getElem?_append_right (by omega), hlt, List.getElem?_append_left (by omega)]
              exact hu1)
        have S2 := S1.rename (id := id) (e := ⟨e.sz, e.cells ++ strV str, ⟨true, some T0⟩⟩) (setAt_self _ _ _) hp hf
        rw [hEE] at S2
        unfold Oper.wp
        rw [hrun]
        exact hK _ _ _ S2 (fun k hk h => by rw [setAt_ne _ _ hk]; exact h) (.inr ⟨g, c, setAt_self _ _ _, hroom, rfl, fun q h => by cases h⟩)
      · have hlt : (cur.toList.take n).length = n := by simp; omega
        have hgr := Lib.run_append_grow_string (P := P) W T U o.type T0 ti zv hu hU hti hz1 ⟨g, 0, none⟩ n c (cur.toList.take n) (by rw [hsz, hlt, Nat.mul_one]) (fun j v hj => by
            have hql := (List.getElem?_eq_some_iff.1 hj).1
            rw [hlt] at hql
            rw [List.getElem?_take_of_lt hql, Array.getElem?_toList] at hj
            rw [add_plain]
            simp [World.cell?, q2 (by omega), hj]) str (by omega) (by omega) (by rw [hby]; exact growslice_fits (by omega) (by omega))
        have hge := grownCap_ge W (n + str.size) c T0
        have hgm := grownCap_le_maxLen W (n + str.size) c T0 hm'
        have hrun : (execOp a.eval o).run P W = .ok (.value (.slice (some ⟨W.heap.size, 0, none⟩) (n + str.size) (grownCap W (n + str.size) c T0))) (W.drew.alloc (.cells ((cur.toList.take n).toArray ++ (Lib.strCells str).toArray ++ Builtin.zeroCells zv.cells (grownCap W (n + str.size) c T0 - (n + str.size))) T0)) := by
          simp only [execOp, ho, resolve, invoke, builtin, Sem.run_bind]
          simp [hxv, hyv, hgr]
        have hsize : ((cur.toList.take n).toArray ++ (Lib.strCells str).toArray ++ Builtin.zeroCells zv.cells (grownCap W (n + str.size) c T0 - (n + str.size))).size = grownCap W (n + str.size) c T0 * 1 := by
          simp only [Array.size_append, List.size_toArray, size_zeroCells, hscl, hzs, hlt]
          omega
        have hotl : ∀ k, Hot (setAt E i none) pl k → Hot E pl k := fun k hk => hot_drop hk
        have S2 := ((drew_sim S).lose i).new (id := id) hf ((cur.toList.take n).toArray ++ (Lib.strCells str).toArray ++ Builtin.zeroCells zv.cells (grownCap W (n + str.size) c T0 - (n + str.size))) T0 ⟨1, e.cells ++ strV str, ⟨true, some T0⟩⟩ (grownCap W (n + str.size) c T0)
          hsize (by rw [hsize, List.length_append, strV_len]; omega) hgm Nat.zero_lt_one (fun q x hq => by
            simp only at hq
            by_cases hqn : q < n
            · rw [List.getElem?_append_left (by omega)] at hq
              obtain ⟨u, hu1, hu2, hu3⟩ := q8 q x hq
              refine ⟨u, ?_, hu2, hu3.move (fun _ _ _ => rfl) (fun k hk _ => ⟨hk.1, fun hh => hk.2 (hotl k hh)⟩) (fun _ _ h => h)⟩
              rw [Array.append_assoc, Array.getElem?_append_left (by rw [List.size_toArray, hlt]; exact hqn), List.getElem?_toArray, List.getElem?_take_of_lt hqn, Array.getElem?_toList]
              exact hu1
            · rw [List.getElem?_append_right (by omega), hn] at hq
              obtain ⟨u, hu1, hu2, hu3⟩ := strV_rep (W := W.drew) (Q := Qf (FF w0 P0) (setAt E i none) pl) (pl := pl) hq
              have hql := (List.getElem?_eq_some_iff.1 hu1).1
              refine ⟨u, ?_, hu2, hu3⟩
              rw [Array.getElem?_append_left (by simp only [Array.size_append, List.size_toArray, hlt]; omega), Array.getElem?_append_right (by rw [List.size_toArray, hlt]; omega), List.size_toArray, hlt, List.getElem?_toArray]
              exact hu1) (fun T' h => by injection h)
        unfold Oper.wp
        rw [hrun]
        exact hK _ _ _ S2 (fun k hk h => by rw [setAt_ne _ _ hk]; exact h) (.inr ⟨_, _, setAt_self _ _ _, hge, rfl, fun q h => by cases h⟩)
end
theorem mem_app1' {x y : Operand} {T T' : TypeId} {b : Builtin} : x ∈ (Op.call { callee := .builtin b, args := #[x, y], argTypes := #[T, T'] }).operands := by simp [Op.operands, Call.operands]
section
variable {P : Program} {id : Nat} {s : Slots} {E : Env}
theorem Eff.appendStr {x y : Operand} {T U el : TypeId} {i n : Nat} {e : Ent} {str : ByteArray} (hx : ev s x = some (.row i n none)) (he : E i = some e) (hh : e.hot = true) (h1 : e.sz = 1) (hT : e.tg.T = some el) (hn : e.cells.length = n) (hy : ev s y = some (.b (.lit (.string str))))
    (hu : P.underlying T = some (.slice el)) (hU : P.underlying U = some .string) (hs : szOf P el = some 1) (hb : (P.info? el).map (·.bytes) = some 1) (hz : zeroOf P el = some [numB .u8 0]) (hm : n + str.size ≤ 140737488355328) :
    Eff P id s E (.call { callee := .builtin .append, args := #[x, y], argTypes := #[T, U] }) (some (.row id (n + str.size) none)) [(i, none), (id, some ⟨1, e.cells ++ strV str, ⟨true, some el⟩⟩)] :=
  .sem _ _ _ fun s' E' k1 k2 w0 W P0 E0 pl0 pl N a o K Qx ho S hf hK => by
    have hx' : ev s' x = some (.row i n none) := by rw [← k1 x mem_app1]; exact hx
    have he' : E' i = some e := by rw [← k2 i (looks_arg ⟨x, by simp, mem_idsOf hx (by simp [V.ids, V.names])⟩)]; exact he
    have hy' : ev s' y = some (.b (.lit (.string str))) := by rw [← k1 y mem_app2]; exact hy
    exact eff_appendStr hx' he' hh h1 hT hn (rep_lit (S.ev hy')) hu hU hs hb hz hm ho S hf hK
/-- A variable of a known type. -/
theorem Eff.allocT {T : TypeId} {l : List B} (hz : zeroOf P T = some l) (hl : l ≠ []) : Eff P id s E (.alloc T) (some (.ptr id 0)) [(id, some ⟨l.length, l.map .b, ⟨true, some T⟩⟩)] :=
  .sem _ _ _ fun s' E' k1 k2 w0 W P0 E0 pl0 pl N a o K Qx ho S hf hK => by
    obtain ⟨i, z, hi, hz1, h1, h2'⟩ := zeroOf_runL hz
    have h2 := h2' W (Qf (FF w0 P0) E' pl)
    replace h1 : l.length = z.cells.size := by simpa using h1
    refine wp_new (e := ⟨l.length, l.map .b, ⟨true, some T⟩⟩) (v := .ptr id 0) (cur := z.cells) (T := T) (c := 1) (u := .pointer (some ⟨W.heap.size, 0, none⟩)) S hf ?_ (by simp [h1]) (by simp [h1]) one_le_max (List.length_pos_iff.2 hl) (fun j x hj => ?_) (fun Q => ⟨W.heap.size, 1, by simp, rfl⟩) hK (fun T' h => by injection h)
    · simp [execOp, ho, Instr.alloc, zeroValue, typeInfo, hi, hz1, newVar, newRow, World.alloc_eq]
    · simp only [List.getElem?_map, Option.map_eq_some_iff] at hj
      obtain ⟨y, hy, rfl⟩ := hj
      obtain ⟨u, hu, hu1, hr⟩ := h2 j y hy
      exact ⟨u, by simpa using hu, hu1, hr⟩
/-- The string that lies in a row; the row is written no more. -/
theorem Eff.unsafeStr {x y : Operand} {pt it B : TypeId} {i : Nat} {L : List Int} (hx : ev s x = some (.ptr i 0)) (he : E i = some (rowG B L)) (hy : ev s y = some (vI .i64 (L.length : Int))) (h0 : L ≠ []) (h8 : ∀ z ∈ L, 0 ≤ z ∧ z < 256) (hp : P.underlying pt = some (.pointer B)) (hc : P.cellsOf B = 1) :
    Eff P id s E (.call { callee := .builtin .unsafeString, args := #[x, y], argTypes := #[pt, it] }) (some (.b (.lit (.string (bytesOf L))))) [(i, none)] :=
  .sem _ _ _ fun s' E' k1 k2 w0 W P0 E0 pl0 pl N a o K Qx ho S hf hK => by
    have hx' : ev s' x = some (.ptr i 0) := by rw [← k1 x (by simp [Op.operands, Call.operands])]; exact hx
    have hy' : ev s' y = some (vI .i64 (L.length : Int)) := by rw [← k1 y (by simp [Op.operands, Call.operands])]; exact hy
    have he' : E' i = some (rowG B L) := by rw [← k2 i (looks_arg ⟨x, by simp, mem_idsOf hx (by simp [V.ids])⟩)]; exact he
    have hlen : 0 < L.length := List.length_pos_iff.2 h0
    obtain ⟨g, c, hpl, hxv⟩ := S.ev hx'
    have hyv : a.eval y = .int .i64 (L.length : Int) := rep_lit (S.ev hy')
    obtain ⟨c1, cur, T0, rfl, _, q2, q3, q4, q5, q6, q7, q8⟩ := (S.eok.ent i _ he').pos hpl (.inl (by simpa [rowG] using hlen))
    have hT : T0 = B := q7.2 B rfl
    subst hT
    have hX : Hot E' pl g := ⟨i, _, c1, he', rfl, hpl⟩
    have hsh : W.shape? g = some (T0, cur.size) := by unfold World.shape?; rw [q2]
    have hcl : L.length ≤ cur.size := by simpa [rowG] using q5
    have hmx : cur.size ≤ 9223372036854775807 := by
      have : cur.size = c1 + 1 := by simpa [rowG] using q4
      simp only [maxLen] at q6; omega
    have hcell : ∀ j z, (L.map byteOf)[j]? = some z → W.cell? ((⟨g, 0, none⟩ : Addr).add j) = some (.int .u8 z.toNat) := fun j z hj => by
      rw [List.getElem?_map, Option.map_eq_some_iff] at hj
      obtain ⟨y, hy, rfl⟩ := hj
      obtain ⟨u, hu1, hu2, hu3⟩ := q8 j (.b (numB .u8 y)) (by simp [rowG, hy])
      have hu : u = .int .u8 y := by cases hu3 with | lit _ _ => rfl
      rw [add_plain]
      unfold World.cell?
      rw [byteOf_toNat (h8 y (List.mem_of_getElem? hy)), ← hu]
      simp [q2, hu1]
    have hrs := Lib.run_unsafeString_row (P := P) W pt it o.type T0 hp hc g cur.size hsh (L.map byteOf) (by simpa using h0) (by simpa using hcl) (by rw [List.length_map]; omega) hcell
    rw [List.length_map] at hrs
    obtain ⟨W1, hW1⟩ : ∃ W1, W.freeze ⟨g, 0, none⟩ L.length = W1 := ⟨_, rfl⟩
    rw [hW1] at hrs
    have hn0 : ¬ L.length = 0 := by omega
    have hW1' : W1 = { W with heap := W1.heap } := by rw [← hW1]; unfold World.freeze; rw [if_neg hn0]
    have hheap : ∀ k, k ≠ g → W1.heap[k]? = W.heap[k]? := fun k hk => by
      rw [← hW1]; unfold World.freeze; rw [if_neg hn0]
      show (W.heap.modify g _)[k]? = _
      rw [Array.getElem?_modify, if_neg (fun h => hk h.symm)]
    have hsize : W1.heap.size = W.heap.size := by
      rw [← hW1]; unfold World.freeze; rw [if_neg hn0]
      show (W.heap.modify g _).size = _
      simp
    have hrun : (execOp a.eval o).run P W = .ok (.value (.string (bytesOf L))) W1 := by
      simp only [execOp, ho, resolve, invoke, builtin, Sem.run_bind]
      simp [hxv, hyv, hrs, bytesOf]
    have hh : ∀ k, Hot (setAt E' i none) pl k → Hot E' pl k ∨ W.heap.size ≤ k := fun k hk => .inl (hot_drop hk)
    have S1 : Sim w0 P0 E0 pl0 N (setAt E' i none) pl s' a W1 := by
      refine S.step (fun k => k = g) (by rw [hW1']) (by rw [hW1']) (by rw [hW1']) (Nat.le_of_eq hsize.symm) (fun k _ hk => hheap k hk) (fun k h => h ▸ hX) (fun _ _ h => h) hh ⟨fun j e' hj => ?_, fun j j' e1 e2 g1 c1' c2 hi hj pi pj => ?_⟩
      · by_cases h : j = i
        · subst h; rw [setAt_self] at hj; cases hj
        · rw [setAt_ne _ _ h] at hj
          exact (S.eok.ent j e' hj).move (fun k => k = g) (fun k _ hk => hheap k hk) (fun k h => h ▸ hX) (fun _ _ h => h) hh (fun g' c' hp' hgg => by
            subst hgg
            exact h (S.eok.inj j i e' _ g' c' c1 hj he' hp' hpl))
      · have old : ∀ (j : Nat) (e1 : Ent), setAt E' i none j = some e1 → E' j = some e1 := fun j e1 h => by
          by_cases hji : j = i
          · subst hji; rw [setAt_self] at h; cases h
          · rwa [setAt_ne _ _ hji] at h
        exact S.eok.inj j j' e1 e2 g1 c1' c2 (old _ _ hi) (old _ _ hj) pi pj
    unfold Oper.wp
    rw [hrun]
    exact hK _ pl W1 S1 (fun k hk h => h) (RepB.lit _ rfl)
end
end Go.VL

/- Short steps for memory of a known type. -/
set_option linter.unusedVariables false
set_option linter.unusedSimpArgs false
namespace Go.VL
open Go.RowKit
/-- The bytes of a string. -/
def strL (b : ByteArray) : List Int := b.data.toList.map fun x => (x.toNat : Int)
@[simp] theorem strL_len (b : ByteArray) : (strL b).length = b.size := by simp [strL]
theorem rowG_app {T : TypeId} {D L : List Int} : (⟨1, (rowG T D).cells ++ (L.map (numB .u8)).map .b, ⟨true, some T⟩⟩ : Ent) = rowG T (D ++ L) := by simp [rowG]
theorem rowG_str {T : TypeId} {D : List Int} {b : ByteArray} : (⟨1, (rowG T D).cells ++ strV b, ⟨true, some T⟩⟩ : Ent) = rowG T (D ++ strL b) := by simp [rowG, strV, strL]
section
variable {P : Program} {id : Nat} {s : Slots} {E : Env}
theorem Eff.allocTN {T : TypeId} {l : List B} (hz : (zeroOf P T).map (List.map nilB) = some l) (hl : l ≠ []) : Eff P id s E (.alloc T) (some (.ptr id 0)) [(id, some ⟨l.length, l.map .b, ⟨true, some T⟩⟩)] :=
  .sem _ _ _ fun s' E' k1 k2 w0 W P0 E0 pl0 pl N a o K Qx ho S hf hK => by
    obtain ⟨i, z, hi, hz1, h1, h2'⟩ := zeroOf_runN hz
    have h2 := h2' W (Qf (FF w0 P0) E' pl)
    replace h1 : l.length = z.cells.size := by simpa using h1
    refine wp_new (e := ⟨l.length, l.map .b, ⟨true, some T⟩⟩) (v := .ptr id 0) (cur := z.cells) (T := T) (c := 1) (u := .pointer (some ⟨W.heap.size, 0, none⟩)) S hf ?_ (by simp [h1]) (by simp [h1]) one_le_max (List.length_pos_iff.2 hl) (fun j x hj => ?_) (fun Q => ⟨W.heap.size, 1, by simp, rfl⟩) hK (fun T' h => by injection h)
    · simp [execOp, ho, Instr.alloc, zeroValue, typeInfo, hi, hz1, newVar, newRow, World.alloc_eq]
    · simp only [List.getElem?_map, Option.map_eq_some_iff] at hj
      obtain ⟨y, hy, rfl⟩ := hj
      obtain ⟨u, hu, hu1, hr⟩ := h2 j y hy
      exact ⟨u, by simpa using hu, hu1, hr⟩
theorem Eff.assignGT {x : Operand} {v : V} {sz : Nat} {t : Tag} (h : ev s x = some v) (h0 : 0 < sz) : Eff P id s E (.assign x) (some v) [(id, some ⟨sz, [], t⟩)] :=
  .sem _ _ _ fun s' E' h1 h2 w0 W P0 E0 pl0 pl N a o K Qx ho S hf hK => wp_valG (u := a.eval x) S hf (by simp [execOp, ho]) (S.ev (by rw [← h1 x (by simp [Op.operands])]; exact h)) h0 hK
end
section
variable {P : Program} {ops : Array Oper} {o : Oper} {n : Nat} {s : Slots} {E : Env} {d i j off m : Nat} {x y : Operand} {T T' U t el : TypeId} {e : Ent} {v w : V} {D L : List Int} {ik : IntKind} {str : ByteArray}
theorem TuU (hs : P.underlying T = some (.pointer t)) (hd : P.underlying T' = some .unsafePointer) (ht : szOf P t = some (m + 1)) (h : (runs ops s o.guard, o.dst, o.op, ev s x, E i, Nat.ble (off + 1) e.cells.length) = (some true, some d, .convert T T' x, some (.ptr i off), some e, true)) :
    Stp P ops o n s E (n + 1) (setAt s d (some (.ptr i off))) E [] := by
  simp only [Prod.mk.injEq] at h; obtain ⟨h1, h2, h3, h4, h5, h6⟩ := h
  exact st0 h1 h2 (h3 ▸ Eff.toUnsafe h4 h5 (Nat.le_of_ble_eq_true h6) hs hd ht (Nat.succ_ne_zero _))
theorem TfU {u B : TypeId} (hs : P.underlying T = some .unsafePointer) (hd : P.underlying T' = some (.pointer u)) (ht : szOf P u = some m) (hc : P.cellsOf B = e.sz) (hl : ∀ q, liesAt P P.depth B (q + 1) off u 1 = true)
    (h : (runs ops s o.guard, o.dst, o.op, ev s x, E i, Nat.ble (off + 1) e.cells.length, e.tg.T) = (some true, some d, .convert T T' x, some (.ptr i off), some e, true, some B)) :
    Stp P ops o n s E (n + 1) (setAt s d (some (.ptr i off))) E [] := by
  simp only [Prod.mk.injEq] at h; obtain ⟨h1, h2, h3, h4, h5, h6, h7⟩ := h
  exact st0 h1 h2 (h3 ▸ Eff.fromUnsafe h4 h5 (Nat.le_of_ble_eq_true h6) h7 hs hd ht hc hl)
theorem Nesc {f : FuncId} {ts : Array TypeId} (hN : ∀ (v : Value) W, (callFunc f #[v]).run P W = .ok (.value v) W) (h : (runs ops s o.guard, o.dst, o.op, ev s x) = (some true, some d, .call { callee := .value (.func f), args := #[x], argTypes := ts }, some (.ptr i off))) :
    Stp P ops o n s E (n + 1) (setAt s d (some (.ptr i off))) E [] := by
  simp only [Prod.mk.injEq] at h; exact st0 h.1 h.2.1 (h.2.2.1 ▸ Eff.noEsc h.2.2.2 hN)
theorem PnE (hu : P.underlying T = some (.pointer t)) (ht : szOf P t = some m) (h : (runs ops s o.guard, o.dst, o.op, ev s x, ev s y) = (some true, some d, .binOp .neq T x y T', some (.ptr i off), some (.ptr i off))) :
    Stp P ops o n s E (n + 1) (setAt s d (some (vB false))) E [] := by
  simp only [Prod.mk.injEq] at h; exact st0 h.1 h.2.1 (h.2.2.1 ▸ Eff.ptrNe h.2.2.2.1 h.2.2.2.2 hu ht)
theorem ArG (q : Nat) {by' : Nat} (K : SlT P T el (numB .u8 0) by') (h : (runs ops s o.guard, o.dst, o.op, ev s x, E i, ev s y, n) = (some true, some d, .call { callee := .builtin .append, args := #[x, y], argTypes := #[T, T] }, some (.row i m none), some (rowG el D), some w, q)) (hr : res E w = some (slK .u8 L)) (hl : D.length = m := by first | omega | (simp; done) | (simp; omega))
    (hm : (m + L.length) * by' ≤ 140737488355328 ∧ m + L.length ≤ maxLen := by first | (simp [maxLen]; done) | (simp [maxLen]; omega) | (simp only [maxLen]; omega)) :
    Stp P ops o n s E (q + 1) (setAt s d (some (.row q (m + L.length) none))) (setAt (setAt E i none) q (some (rowG el (D ++ L)))) [i, q] := by
  simp only [Prod.mk.injEq] at h; obtain ⟨h1, h2, h3, h4, h5, h6, rfl⟩ := h
  have := Eff.appendRowT (id := n) (E := E) (t := ⟨true, some el⟩) h4 h5 rfl rfl (by simp [rowG, hl]) h6 hr K.u K.s K.b (by rw [K.z]; rfl) (by simpa using hm.1) (by simpa using hm.2) (by rw [List.all_map]; simp [B.isLit]) (fun T' h => ⟨h, by injection h with h; exact h.symm⟩)
  rw [List.length_map, rowG_app] at this
  exact st2 h1 h2 (h3 ▸ this)
theorem AsG (q : Nat) (K : SlT P T el (numB .u8 0) 1) (hU : P.underlying U = some .string) (h : (runs ops s o.guard, o.dst, o.op, ev s x, E i, ev s y, n) = (some true, some d, .call { callee := .builtin .append, args := #[x, y], argTypes := #[T, U] }, some (.row i m none), some (rowG el D), some (.b (.lit (.string str))), q)) (hl : D.length = m := by first | omega | (simp; done) | (simp; omega))
    (hm : m + str.size ≤ 140737488355328 := by first | omega | (simp; done) | (simp; omega)) :
    Stp P ops o n s E (q + 1) (setAt s d (some (.row q (m + str.size) none))) (setAt (setAt E i none) q (some (rowG el (D ++ strL str)))) [i, q] := by
  simp only [Prod.mk.injEq] at h; obtain ⟨h1, h2, h3, h4, h5, h6, rfl⟩ := h
  have := Eff.appendStr (id := n) (E := E) h4 h5 rfl rfl rfl (by simp [rowG, hl]) h6 K.u hU K.s K.b K.z hm
  rw [rowG_str] at this
  exact st2 h1 h2 (h3 ▸ this)
theorem SdG {ts : Array TypeId} (h : (runs ops s o.guard, o.dst, o.op, ev s x) = (some true, some d, .call { callee := .builtin .unsafeSliceData, args := #[x], argTypes := ts }, some (.row i m none))) (hm : 0 < m := by first | omega | (simp; done) | (simp; omega)) :
    Stp P ops o n s E (n + 1) (setAt s d (some (.ptr i 0))) E [] := by
  simp only [Prod.mk.injEq] at h; exact st0 h.1 h.2.1 (h.2.2.1 ▸ Eff.sliceData h.2.2.2 hm)
theorem UsG {pt it B : TypeId} (hp : P.underlying pt = some (.pointer B)) (hc : P.cellsOf B = 1) (h : (runs ops s o.guard, o.dst, o.op, ev s x, E i, ev s y) = (some true, some d, .call { callee := .builtin .unsafeString, args := #[x, y], argTypes := #[pt, it] }, some (.ptr i 0), some (rowG B L), some (vI .i64 (m : Int))))
    (h8 : ok8 L) (h0 : 0 < m := by first | omega | (simp; done) | (simp; omega)) (hl : L.length = m := by first | omega | (simp; done) | (simp; omega)) :
    Stp P ops o n s E (n + 1) (setAt s d (some (.b (.lit (.string (bytesOf L)))))) (setAt E i none) [i] := by
  simp only [Prod.mk.injEq] at h; obtain ⟨h1, h2, h3, h4, h5, h6⟩ := h
  subst hl
  exact st1 h1 h2 (h3 ▸ Eff.unsafeStr h4 h5 h6 (List.length_pos_iff.1 h0) h8 hp hc)
theorem AlT (q : Nat) {c : B} {l : List B} (hz : (zeroOf P T).map (List.map nilB) = some (c :: l)) (h : (runs ops s o.guard, o.dst, o.op, n) = (some true, some d, .alloc T, q)) : Stp P ops o n s E (q + 1) (setAt s d (some (.ptr q 0))) (setAt E q (some ⟨(c :: l).length, (c :: l).map .b, ⟨true, some T⟩⟩)) [q] := by
  simp only [Prod.mk.injEq] at h; obtain ⟨h1, h2, h3, rfl⟩ := h; exact st1 h1 h2 (h3 ▸ Eff.allocTN hz (List.cons_ne_nil _ _))
theorem AgT (q : Nat) {B : TypeId} (h : (runs ops s o.guard, o.dst, o.op, ev s x, n) = (some true, some d, .assign x, some v, q)) : Stp P ops o n s E (q + 1) (setAt s d (some v)) (setAt E q (some (rowG B []))) [q] := by
  simp only [Prod.mk.injEq] at h; obtain ⟨h1, h2, h3, h4, rfl⟩ := h
  exact st1 h1 h2 (h3 ▸ Eff.assignGT (sz := 1) (t := ⟨true, some B⟩) h4 (by decide))
end
end Go.VL

/- The message, plain: which edits can be encoded, and their forms. -/
set_option linter.unusedVariables false
set_option linter.unusedSimpArgs false
namespace Go.VL
def txtQ (b : ByteArray) : List Int := numQ b.size ++ strL b
def magQ (l : List Int) : List Int := numQ l.length ++ limsQ l
theorem limsQ_len : ∀ l : List Int, (limsQ l).length = 4 * l.length
  | [] => rfl
  | x :: l => by simp [limsQ, limsQ_len l, leB_len]; omega
theorem lims_take {l : List Int} {i : Nat} (h : i < l.length) : limsQ (l.take (i + 1)) = limsQ (l.take i) ++ leB (l.getD i 0) 4 := by
  rw [List.take_add_one, List.getElem?_eq_getElem h, List.getD_eq_getElem?_getD, List.getElem?_eq_getElem h]; exact limsQ_app _ _
theorem magQ_len {l : List Int} (h : l.length ≤ 9223372036854775807) : (magQ l).length ≤ 9 + 4 * l.length := by
  have := numQ_lenB 8 l.length (Nat.lt_of_le_of_lt h (by decide))
  simp only [magQ, List.length_append, limsQ_len]; omega
def sgnQ (b : Bool) : Int := if b then 1 else 0
def mvQ (m : Mov) : List Int := numQ m.step.toNat ++ numQ m.coord.toNat ++ [sgnQ m.nn] ++ magQ m.nm ++ magQ m.dm
/-- What is so of every move, and of every edit. -/
structure Mov.Ok (m : Mov) : Prop where
  step : -9223372036854775808 ≤ m.step ∧ m.step ≤ 9223372036854775807
  coord : -9223372036854775808 ≤ m.coord ∧ m.coord ≤ 9223372036854775807
  nm : ok32 m.nm ∧ m.nm.length ≤ 9223372036854775807
  dm : ok32 m.dm ∧ m.dm.length ≤ 9223372036854775807
def rg64 (x : Int) : Prop := -9223372036854775808 ≤ x ∧ x ≤ 9223372036854775807
structure Edt.Ok (e : Edt) : Prop where
  au : rg64 e.au
  sq : rg64 e.sq
  st : rg64 e.st
  kind : rg64 e.kind
  oa : rg64 e.oa
  os : rg64 e.os
  pk : rg64 e.pk
  seen : (∀ x ∈ e.seen, rg64 x) ∧ e.seen.length ≤ 9223372036854775807
  names : e.names.length ≤ 9223372036854775807
  moves : (∀ m ∈ e.moves, m.Ok) ∧ e.moves.length ≤ 9223372036854775807
def btw (a n b : Int) : Bool := decide (a ≤ n) && decide (n ≤ b)
theorem btw_t {a n b : Int} : btw a n b = true ↔ a ≤ n ∧ n ≤ b := by simp [btw]
/-- The place of the first one, or -1. -/
def ixQ {α : Type} (p : α → Bool) (l : List α) : Int := if l.any p then (l.findIdx p : Int) else -1
theorem ix_ge {α : Type} {p : α → Bool} {l : List α} : decide (ixQ p l ≥ 0) = l.any p := by
  unfold ixQ
  cases l.any p with
  | true => rw [if_pos rfl]; exact decide_eq_true (by omega)
  | false => rw [if_neg (by decide)]; rfl
theorem ix_at {α : Type} {p : α → Bool} {l : List α} {d : α} {i : Nat} (hi : i < l.length) (hb : ∀ j, j < i → p (l.getD j d) = false) (h : p (l.getD i d) = true) : ixQ p l = (i : Int) := by
  have e : ∀ j (hj : j < l.length), l.getD j d = l[j] := fun j hj => by rw [List.getD_eq_getElem?_getD, List.getElem?_eq_getElem hj]; rfl
  have ha : l.any p = true := List.any_eq_true.2 ⟨l[i], List.getElem_mem hi, by rw [← e i hi]; exact h⟩
  unfold ixQ
  rw [if_pos ha]
  have : l.findIdx p = i := by
    apply (List.findIdx_eq hi).2
    exact ⟨by rw [← e i hi]; exact h, fun j hj => by rw [← e j (by omega)]; exact hb j hj⟩
  rw [this]
theorem ix_no {α : Type} {p : α → Bool} {l : List α} {d : α} (hb : ∀ j, j < l.length → p (l.getD j d) = false) : ixQ p l = -1 := by
  unfold ixQ
  rw [if_neg]
  intro h
  obtain ⟨x, hx, hp⟩ := List.any_eq_true.1 h
  obtain ⟨j, hj, rfl⟩ := List.mem_iff_getElem.1 hx
  have := hb j hj
  rw [List.getD_eq_getElem?_getD, List.getElem?_eq_getElem hj] at this
  exact absurd hp (by simp only [Option.getD_some] at this; rw [this]; decide)
def seenB (n : Int) : Bool := !btw 0 n 65535
def nameB (b : ByteArray) : Bool := decide ((b.size : Int) > 200)
def mxI (a b : Int) : Int := if b > a then b else a
def moveB (m : Mov) : Bool := !btw 0 m.step 65535 || (!btw 0 m.coord 1 || (decide (mxI (m.nm.length : Int) (m.dm.length : Int) > 16) || !vR m.nn m.nm m.dn m.dm))
def encA (e : Edt) : Bool := btw 1 e.au 12 && (btw 1 e.sq 65535 && btw 1 e.st 2147483647)
def encB (e : Edt) : Bool := !decide ((e.seen.length : Int) > 12) && (!decide ((e.text.size : Int) > 200) && !decide (mxI (e.names.length : Int) (e.moves.length : Int) > 4))
def encC (e : Edt) : Bool := btw 1 e.kind 5 && (btw 0 e.oa 12 && (btw 0 e.os 65535 && btw 0 e.pk 1))
def encD (e : Edt) : Bool := !e.seen.any seenB && (!e.names.any nameB && !e.moves.any moveB)
def encQ (e : Edt) : Bool := encA e && (encB e && (encC e && encD e))
def seenQ : List Int → List Int
  | [] => []
  | x :: l => numQ x.toNat ++ seenQ l
def namesQ : List ByteArray → List Int
  | [] => []
  | x :: l => txtQ x ++ namesQ l
def movesQ : List Mov → List Int
  | [] => []
  | x :: l => mvQ x ++ movesQ l
def hdQ (e : Edt) : List Int := numQ e.au.toNat ++ numQ e.sq.toNat ++ numQ e.st.toNat ++ numQ e.seen.length
def formE (e : Edt) : List Int := hdQ e ++ seenQ e.seen ++ numQ e.kind.toNat ++ txtQ e.text ++ numQ e.names.length ++ namesQ e.names ++ numQ e.moves.length ++ movesQ e.moves ++ numQ e.oa.toNat ++ numQ e.os.toNat ++ numQ e.pk.toNat
def app1 {α : Type} (f : List α → List Int) (g : α → List Int) : Prop := ∀ l x, f (l ++ [x]) = f l ++ g x
theorem seenQ_app : app1 seenQ (fun x => numQ x.toNat) := fun l x => by
  induction l with
  | nil => simp [seenQ]
  | cons y l ih => simp [seenQ, ih]
theorem namesQ_app : app1 namesQ txtQ := fun l x => by
  induction l with
  | nil => simp [namesQ]
  | cons y l ih => simp [namesQ, ih]
theorem movesQ_app : app1 movesQ mvQ := fun l x => by
  induction l with
  | nil => simp [movesQ]
  | cons y l ih => simp [movesQ, ih]
theorem app1_take {α : Type} {f : List α → List Int} {g : α → List Int} (h : app1 f g) {l : List α} {i : Nat} {d : α} (hi : i < l.length) : f (l.take (i + 1)) = f (l.take i) ++ g (l.getD i d) := by
  rw [List.take_add_one, List.getElem?_eq_getElem hi, List.getD_eq_getElem?_getD, List.getElem?_eq_getElem hi]; exact h _ _
structure Mov.En (m : Mov) : Prop where
  step : 0 ≤ m.step ∧ m.step ≤ 65535
  coord : 0 ≤ m.coord ∧ m.coord ≤ 1
  nm : m.nm.length ≤ 16
  dm : m.dm.length ≤ 16
  v : vR m.nn m.nm m.dn m.dm = true
structure Edt.En (e : Edt) : Prop where
  au : 1 ≤ e.au ∧ e.au ≤ 12
  sq : 1 ≤ e.sq ∧ e.sq ≤ 65535
  st : 1 ≤ e.st ∧ e.st ≤ 2147483647
  seenl : e.seen.length ≤ 12
  text : e.text.size ≤ 200
  namesl : e.names.length ≤ 4
  movesl : e.moves.length ≤ 4
  kind : 1 ≤ e.kind ∧ e.kind ≤ 5
  oa : 0 ≤ e.oa ∧ e.oa ≤ 12
  os : 0 ≤ e.os ∧ e.os ≤ 65535
  pk : 0 ≤ e.pk ∧ e.pk ≤ 1
  seen : ∀ x ∈ e.seen, 0 ≤ x ∧ x ≤ 65535
  names : ∀ b ∈ e.names, b.size ≤ 200
  moves : ∀ m ∈ e.moves, m.En
theorem mxI_le {a b c : Int} : mxI a b ≤ c ↔ a ≤ c ∧ b ≤ c := by unfold mxI; split <;> omega
theorem mov_en {m : Mov} : moveB m = false ↔ m.En := by
  simp only [moveB, Bool.or_eq_false_iff, Bool.not_eq_eq_eq_not, Bool.not_false, btw_t, decide_eq_false_iff_not, Int.not_lt, gt_iff_lt, mxI_le]
  constructor
  · rintro ⟨h1, h2, ⟨h3, h4⟩, h5⟩
    exact ⟨h1, h2, by omega, by omega, h5⟩
  · rintro ⟨h1, h2, h3, h4, h5⟩
    exact ⟨h1, h2, ⟨by omega, by omega⟩, h5⟩
theorem enc_iff {e : Edt} : encQ e = true ↔ e.En := by
  simp only [encQ, encA, encB, encC, encD, Bool.and_eq_true, Bool.not_eq_eq_eq_not, Bool.not_true, btw_t, decide_eq_false_iff_not, Int.not_lt, gt_iff_lt, mxI_le]
  have any_no : ∀ {α : Type} (p : α → Bool) (l : List α), l.any p = false ↔ ∀ x ∈ l, p x = false := fun p l => by
    rw [List.any_eq_false]; exact forall₂_congr (fun x _ => by cases p x <;> simp)
  have hs : ∀ x, seenB x = false ↔ 0 ≤ x ∧ x ≤ 65535 := fun x => by simp [seenB, btw_t]
  have hn : ∀ b, nameB b = false ↔ b.size ≤ 200 := fun b => by simp only [nameB, decide_eq_false_iff_not, gt_iff_lt, Int.not_lt]; omega
  rw [any_no, any_no, any_no]
  constructor
  · rintro ⟨⟨h1, h2, h3⟩, ⟨h4, h5, h6, h7⟩, ⟨h8, h9, h10, h11⟩, h12, h13, h14⟩
    exact ⟨h1, h2, h3, by omega, by omega, by omega, by omega, h8, h9, h10, h11, fun x hx => (hs x).1 (h12 x hx), fun x hx => (hn x).1 (h13 x hx), fun x hx => mov_en.1 (h14 x hx)⟩
  · rintro ⟨h1, h2, h3, h4, h5, h6, h7, h8, h9, h10, h11, h12, h13, h14⟩
    exact ⟨⟨h1, h2, h3⟩, ⟨by omega, by omega, by omega, by omega⟩, ⟨h8, h9, h10, h11⟩, fun x hx => (hs x).2 (h12 x hx), fun x hx => (hn x).2 (h13 x hx), fun x hx => mov_en.2 (h14 x hx)⟩
theorem strL_by (b : ByteArray) : ByR (strL b) := fun x hx => by
  simp only [strL, List.mem_map] at hx
  obtain ⟨y, _, rfl⟩ := hx
  have := y.toNat_lt
  omega
theorem limsQ_by : ∀ l, ByR (limsQ l)
  | [] => fun x h => by cases h
  | x :: l => (leB_by _ _).append (limsQ_by l)
theorem txtQ_by (b : ByteArray) : ByR (txtQ b) := (numQ_by _).append (strL_by b)
theorem magQ_by (l : List Int) : ByR (magQ l) := (numQ_by _).append (limsQ_by l)
theorem mvQ_by (m : Mov) : ByR (mvQ m) := ((((numQ_by _).append (numQ_by _)).append (fun x hx => by simp at hx; subst hx; unfold sgnQ; split <;> decide)).append (magQ_by _)).append (magQ_by _)
theorem seenQ_by : ∀ l, ByR (seenQ l)
  | [] => fun x h => by cases h
  | x :: l => (numQ_by _).append (seenQ_by l)
theorem namesQ_by : ∀ l, ByR (namesQ l)
  | [] => fun x h => by cases h
  | x :: l => (txtQ_by _).append (namesQ_by l)
theorem movesQ_by : ∀ l, ByR (movesQ l)
  | [] => fun x h => by cases h
  | x :: l => (mvQ_by _).append (movesQ_by l)
theorem formE_by (e : Edt) : ByR (formE e) := by
  unfold formE hdQ
  repeat' first | exact numQ_by _ | exact seenQ_by _ | exact txtQ_by _ | exact namesQ_by _ | exact movesQ_by _ | refine ByR.append ?_ ?_
theorem txtQ_len {b : ByteArray} (h : b.size ≤ 200) : (txtQ b).length ≤ 209 := by
  have := numQ_len (n := b.size) (by omega)
  simp only [txtQ, List.length_append, strL_len]; omega
theorem mvQ_len {m : Mov} (h : m.En) : (mvQ m).length ≤ 165 := by
  have h1 := numQ_len (n := m.step.toNat) (by have := h.step; omega)
  have h2 := numQ_len (n := m.coord.toNat) (by have := h.coord; omega)
  have h3 := magQ_len (l := m.nm) (by have := h.nm; omega)
  have h4 := magQ_len (l := m.dm) (by have := h.dm; omega)
  have := h.nm; have := h.dm
  simp only [mvQ, List.length_append, List.length_singleton]; omega
end Go.VL

/- The message, plain: what reads a form. -/
set_option linter.unusedVariables false
set_option linter.unusedSimpArgs false
set_option maxRecDepth 20000
namespace Go.VL
structure Rdr where
  s : List Int
  e : Int
def b8 (x : Int) : Int := ((byteOf x).toNat : Int)
theorem b8_rng (x : Int) : 0 ≤ b8 x ∧ b8 x < 256 := by
  unfold b8; have := (byteOf x).toNat_lt; omega
theorem b8_id {x : Int} (h : 0 ≤ x ∧ x < 256) : b8 x = x := byteOf_toNat h
theorem at8_b {L : List Int} {i : Nat} (hi : i < L.length) : at8 (bytesOf L) i = b8 (L.getD i 0) := by
  have e : (bytesOf L).data.getD i 0 = byteOf (L.getD i 0) := by
    show ((L.map byteOf).toArray).getD i 0 = _
    simp [Array.getD, hi, List.getD_eq_getElem?_getD]
  unfold at8 b8
  rw [e]
theorem bytesOf_take {L : List Int} {n : Nat} : (bytesOf L).extract 0 n = bytesOf (L.take n) := by
  unfold bytesOf
  apply ByteArray.ext
  simp [ByteArray.data_extract]
theorem bytesOf_drop {L : List Int} {n : Nat} : (bytesOf L).extract n (bytesOf L).size = bytesOf (L.drop n) := by
  rw [bytesOf_size]
  unfold bytesOf
  apply ByteArray.ext
  simp only [ByteArray.data_extract, List.extract_toArray]
  simp [List.take_of_length_le]
def Rdr.fail (r : Rdr) (c : Int) : Rdr := if r.e = 0 then ⟨[], c⟩ else r
def Rdr.takeS (r : Rdr) (n : Int) : List Int := if (r.s.length : Int) < n then List.replicate n.toNat 0 else r.s.take n.toNat
def Rdr.takeR (r : Rdr) (n : Int) : Rdr := if (r.s.length : Int) < n then r.fail 9 else ⟨r.s.drop n.toNat, r.e⟩
theorem takeS_len {r : Rdr} {n : Int} (h : 0 ≤ n) : (r.takeS n).length = n.toNat := by
  unfold Rdr.takeS; split
  · simp
  · rw [List.length_take]; omega
theorem takeS_size {r : Rdr} {n : Int} (h : 0 ≤ n) : (bytesOf (r.takeS n)).size = n.toNat := by rw [bytesOf_size, takeS_len h]
theorem at8_take {r : Rdr} {n : Int} {i : Nat} (h : (i : Int) < n) : at8 (bytesOf (r.takeS n)) i = b8 ((r.takeS n).getD i 0) := at8_b (by rw [takeS_len (by omega)]; omega)
def cB (r : Rdr) : Int := b8 ((r.takeS 1).getD 0 0)
theorem cB_rng (r : Rdr) : 0 ≤ cB r ∧ cB r < 256 := b8_rng _
def nxB (r : Rdr) (n : Int) (i : Nat) : Int := n + cB r % 128 * 128 ^ i
theorem nx_rng {r : Rdr} {n : Int} {i : Nat} (h0 : 0 ≤ n) (h : n < 128 ^ i) : 0 ≤ nxB r n i ∧ nxB r n i < 128 ^ (i + 1) := by
  unfold nxB
  have hp : (0 : Int) < 128 ^ i := Int.pow_pos (by decide)
  have h1 : 0 ≤ cB r % 128 * 128 ^ i := Int.mul_nonneg (by omega) (by omega)
  have h2 : cB r % 128 * 128 ^ i ≤ 127 * 128 ^ i := Int.mul_le_mul_of_nonneg_right (by omega) (by omega)
  rw [Int.pow_succ]; omega
theorem bop_and127 {x : Int} (h : 0 ≤ x ∧ x < 256) : bop .and (.int .i64 x) (.int .i64 127) = some (.int .i64 (x % 128)) := by
  have hb : ((BitVec.ofInt 64 x &&& BitVec.ofInt 64 127).toNat : Int) = x % 128 := by
    rw [BitVec.toNat_and]
    have e : (BitVec.ofInt 64 127).toNat = 2 ^ 7 - 1 := by decide
    rw [e, Nat.and_two_pow_sub_one_eq_mod]
    have e2 : ((BitVec.ofInt 64 x).toNat : Int) = x % 18446744073709551616 := by
      rw [BitVec.toNat_ofInt]; omega
    omega
  show some (Value.int .i64 (IntKind.i64.wrap ((BitVec.ofInt 64 x &&& BitVec.ofInt 64 127).toNat : Int))) = _
  rw [hb, wrap_i64 (by omega)]
theorem p7 : ∀ i : Nat, (2 : Int) ^ (7 * i) = 128 ^ i
  | 0 => rfl
  | i + 1 => by rw [Nat.mul_succ, Int.pow_add, p7 i, Int.pow_succ]; rfl
theorem p128_le {i : Nat} (h : i ≤ 4) : (128 : Int) ^ i ≤ 268435456 := by
  have : ∀ k : Fin 5, (128 : Int) ^ k.val ≤ 268435456 := by decide
  exact this ⟨i, by omega⟩
theorem bop_shl7 {x : Int} {i : Nat} (hx : 0 ≤ x ∧ x < 128) (hi : i ≤ 4) : bop .shl (.int .i64 x) (.int .i64 (7 * (i : Int))) = some (.int .i64 (x * 128 ^ i)) := by
  have e : (7 * (i : Int)).toNat = 7 * i := by omega
  have hp : (0 : Int) < 128 ^ i := Int.pow_pos (by decide)
  have h0 : 0 ≤ x * 128 ^ i := Int.mul_nonneg hx.1 (by omega)
  have h1 : x * 128 ^ i ≤ 127 * 128 ^ i := Int.mul_le_mul_of_nonneg_right (by omega) (by omega)
  have h2 := p128_le hi
  have := bop_shl_i64 (x := x) (y := 7 * (i : Int)) (k' := .i64) (by omega) (by omega) (by rw [e, p7]; omega)
  rw [e, p7] at this; exact this
theorem bop_or7 {x n : Int} {i : Nat} (hx : 0 ≤ x ∧ x < 128) (hi : i ≤ 4) (h0 : 0 ≤ n) (h1 : n < 128 ^ i) : bop .or (.int .i64 n) (.int .i64 (x * 128 ^ i)) = some (.int .i64 (n + x * 128 ^ i)) := by
  have hp : (0 : Int) < 128 ^ i := Int.pow_pos (by decide)
  have g0 : 0 ≤ x * 128 ^ i := Int.mul_nonneg hx.1 (by omega)
  have g1 : x * 128 ^ i ≤ 127 * 128 ^ i := Int.mul_le_mul_of_nonneg_right (by omega) (by omega)
  have g2 := p128_le hi
  have e : ((BitVec.ofInt 64 n ||| BitVec.ofInt 64 (x * 128 ^ i)).toNat : Int) = n + x * 128 ^ i := by
    rw [BitVec.toNat_or, ofInt_nat_u64 (by omega) (by omega), ofInt_nat_u64 (by omega) (by omega), Nat.or_comm]
    have h2 : (x * 128 ^ i).toNat = 2 ^ (7 * i) * x.toNat := by
      have hn : ((128 : Int) ^ i).toNat = 2 ^ (7 * i) := by rw [← p7, show (2 : Int) ^ (7 * i) = ((2 ^ (7 * i) : Nat) : Int) from (Int.natCast_pow 2 _).symm, Int.toNat_natCast]
      rw [Int.toNat_mul hx.1 (by omega), hn, Nat.mul_comm]
    have h3 : n.toNat < 2 ^ (7 * i) := by
      have hn : ((2 ^ (7 * i) : Nat) : Int) = 128 ^ i := by rw [← p7]; exact Int.natCast_pow 2 _
      omega
    rw [h2, ← Nat.two_pow_add_eq_or_of_lt h3, ← h2]
    omega
  show some (Value.int .i64 (IntKind.wrap .i64 ((BitVec.ofInt 64 n ||| BitVec.ofInt 64 (x * 128 ^ i)).toNat : Int))) = _
  rw [e, wrap_i64 (by omega)]
/-- A number: the digits that are left, the reader, the number so far, its digits. -/
def nlp : Nat → Rdr → Int → Nat → Int × Rdr
  | 0, r, n, _ => (n, r)
  | k + 1, r, n, i =>
    if cB r < 128 then (nxB r n i, if nxB r n i > 2147483647 ∨ (cB r = 0 ∧ 0 < i) then (r.takeR 1).fail 3 else r.takeR 1)
    else if i = 4 then (nxB r n i, (r.takeR 1).fail 3) else nlp k (r.takeR 1) (nxB r n i) (i + 1)
theorem nlp_a {r R : Rdr} {n : Int} {i : Nat} (hN : nlp (5 - i) R n i = nlp 5 r 0 0) (hi : i ≤ 4) (h : cB R < 128) (h1 : nxB R n i > 2147483647 ∨ (cB R = 0 ∧ 0 < i)) : nlp 5 r 0 0 = (nxB R n i, (R.takeR 1).fail 3) := by
  rw [← hN, show 5 - i = (4 - i) + 1 by omega, nlp, if_pos h, if_pos h1]
theorem nlp_b {r R : Rdr} {n : Int} {i : Nat} (hN : nlp (5 - i) R n i = nlp 5 r 0 0) (hi : i ≤ 4) (h : cB R < 128) (h1 : ¬ (nxB R n i > 2147483647 ∨ (cB R = 0 ∧ 0 < i))) : nlp 5 r 0 0 = (nxB R n i, R.takeR 1) := by
  rw [← hN, show 5 - i = (4 - i) + 1 by omega, nlp, if_pos h, if_neg h1]
theorem nlp_c {r R : Rdr} {n : Int} {i : Nat} (hN : nlp (5 - i) R n i = nlp 5 r 0 0) (h : ¬ cB R < 128) (h1 : i = 4) : nlp 5 r 0 0 = (nxB R n i, (R.takeR 1).fail 3) := by
  rw [← hN, show 5 - i = (4 - i) + 1 by omega, nlp, if_neg h, if_pos h1]
theorem nlp_d {r R : Rdr} {n : Int} {i : Nat} (hN : nlp (5 - i) R n i = nlp 5 r 0 0) (hi : i ≤ 4) (h : ¬ cB R < 128) (h1 : i ≠ 4) : nlp (5 - (i + 1)) (R.takeR 1) (nxB R n i) (i + 1) = nlp 5 r 0 0 := by
  rw [← hN, show 5 - i = (4 - i) + 1 by omega, nlp, if_neg h, if_neg h1, show 5 - (i + 1) = 4 - i by omega]
def Rdr.numR (r : Rdr) (m : Int) : Rdr := if (nlp 5 r 0 0).1 > m then (nlp 5 r 0 0).2.fail 3 else (nlp 5 r 0 0).2
def Rdr.num (r : Rdr) (m : Int) : Int := if (r.numR m).e = 0 then (nlp 5 r 0 0).1 else 0
theorem fail_e {r : Rdr} {c : Int} (hc : c ≠ 0) : (r.fail c).e ≠ 0 := by
  unfold Rdr.fail; split
  · exact hc
  · assumption
theorem nlp_n (k : Nat) : ∀ r n i, 0 ≤ n → n < 128 ^ i → k + i = 5 → (nlp k r n i).2.e = 0 → 0 ≤ (nlp k r n i).1 ∧ ((nlp k r n i).1 ≤ 2147483647 ∨ k = 0) := by
  induction k with
  | zero => intro r n i h0 _ _ _; exact ⟨h0, Or.inr rfl⟩
  | succ k ih =>
    intro r n i h0 h1 hk he
    have hx := nx_rng (r := r) h0 h1
    rw [nlp] at he ⊢
    by_cases hc : cB r < 128
    · rw [if_pos hc] at he ⊢
      by_cases h2 : nxB r n i > 2147483647 ∨ (cB r = 0 ∧ 0 < i)
      · rw [if_pos h2] at he
        exact absurd he (fail_e (by decide))
      · exact ⟨hx.1, Or.inl (Int.not_lt.1 (fun h => h2 (Or.inl h)))⟩
    · rw [if_neg hc] at he ⊢
      by_cases h2 : i = 4
      · rw [if_pos h2] at he
        exact absurd he (fail_e (by decide))
      · rw [if_neg h2] at he ⊢
        have := ih _ _ (i + 1) hx.1 hx.2 (by omega) he
        rcases this with ⟨a, b | b⟩
        · exact ⟨a, Or.inl b⟩
        · omega
theorem num_rng (r : Rdr) {m : Int} (hm : 0 ≤ m) : 0 ≤ r.num m ∧ r.num m ≤ m ∧ r.num m ≤ 2147483647 := by
  unfold Rdr.num
  split
  · rename_i h
    have h2 : (nlp 5 r 0 0).1 ≤ m ∧ (nlp 5 r 0 0).2.e = 0 := by
      unfold Rdr.numR at h
      split at h
      · exact absurd h (fail_e (by decide))
      · exact ⟨by omega, h⟩
    have := nlp_n 5 r 0 0 (by omega) (by decide) rfl h2.2
    omega
  · omega
/-- Over and over. -/
def itR (g : Rdr → Rdr) : Nat → Rdr → Rdr
  | 0, r => r
  | i + 1, r => g (itR g i r)
def itL {α : Type} (f : Rdr → α) (g : Rdr → Rdr) : Nat → Rdr → List α
  | 0, _ => []
  | i + 1, r => itL f g i r ++ [f (itR g i r)]
theorem itL_len {α : Type} (f : Rdr → α) (g : Rdr → Rdr) : ∀ n r, (itL f g n r).length = n
  | 0, _ => rfl
  | n + 1, r => by rw [itL, List.length_append, itL_len f g n r]; rfl
def Rdr.txt (r : Rdr) : List Int := (r.numR 200).takeS (r.num 200)
def Rdr.txtR (r : Rdr) : Rdr := (r.numR 200).takeR (r.num 200)
def Rdr.txtB (r : Rdr) : ByteArray := bytesOf r.txt
def deB (b : List Int) : Int := b8 (b.getD 0 0) + b8 (b.getD 1 0) * 256 + b8 (b.getD 2 0) * 65536 + b8 (b.getD 3 0) * 16777216
def lb (r : Rdr) (i : Nat) : Int := b8 ((r.takeS 4).getD i 0)
theorem lb_at {r : Rdr} {i : Nat} (h : (i : Int) < 4) : at8 (bytesOf (r.takeS 4)) i = lb r i := at8_take h
theorem lb_rng (r : Rdr) (i : Nat) : 0 ≤ lb r i ∧ lb r i < 256 := b8_rng _
theorem deB_rng (b : List Int) : 0 ≤ deB b ∧ deB b < 4294967296 := by
  unfold deB
  have := b8_rng (b.getD 0 0); have := b8_rng (b.getD 1 0); have := b8_rng (b.getD 2 0); have := b8_rng (b.getD 3 0)
  omega
def Rdr.lim (r : Rdr) : Int := deB (r.takeS 4)
def Rdr.limR (r : Rdr) : Rdr := r.takeR 4
def Rdr.lims (r : Rdr) : List Int := itL Rdr.lim Rdr.limR (r.num 16).toNat (r.numR 16)
def Rdr.limsR (r : Rdr) : Rdr := itR Rdr.limR (r.num 16).toNat (r.numR 16)
theorem itL_mem {α : Type} {f : Rdr → α} {g : Rdr → Rdr} {p : α → Prop} (h : ∀ r, p (f r)) : ∀ n r, ∀ x ∈ itL f g n r, p x
  | 0, _, x, hx => by cases hx
  | n + 1, r, x, hx => by
    rw [itL, List.mem_append] at hx
    rcases hx with hx | hx
    · exact itL_mem h n r x hx
    · rw [List.mem_singleton.1 hx]; exact h _
theorem lims_32 (r : Rdr) : ok32 r.lims := itL_mem (p := fun x => 0 ≤ x ∧ x < 4294967296) (fun r => deB_rng _) _ _
theorem lims_len (r : Rdr) : r.lims.length ≤ 16 := by
  have := num_rng r (m := 16) (by decide)
  unfold Rdr.lims; rw [itL_len]; omega
abbrev M31 : Int := 2147483647
theorem M31_pos : 0 < M31 := by unfold M31; omega
def Rdr.mv2 (r : Rdr) : Rdr := (r.numR M31).numR M31
def Rdr.mv4 (r : Rdr) : Rdr := if cB r.mv2 > 1 then (r.mv2.takeR 1).fail 3 else r.mv2.takeR 1
def Rdr.movR (r : Rdr) : Rdr := r.mv4.limsR.limsR
def Rdr.mov (r : Rdr) : Mov := ⟨r.num M31, (r.numR M31).num M31, cB r.mv2 == 1, r.mv4.lims, false, r.mv4.limsR.lims⟩
theorem num64 (r : Rdr) : rg64 (r.num M31) := by
  have := num_rng r (Int.le_of_lt M31_pos); unfold rg64; omega
theorem mk_mok {a b : Int} {n m : Bool} {A D : List Int} (h1 : rg64 a) (h2 : rg64 b) (h3 : ok32 A ∧ A.length ≤ 9223372036854775807) (h4 : ok32 D ∧ D.length ≤ 9223372036854775807) : (Mov.mk a b n A m D).Ok := ⟨h1, h2, h3, h4⟩
theorem mk_eok {a b c k o p q : Int} {t : ByteArray} {S : List Int} {N : List ByteArray} {M : List Mov} (h1 : rg64 a) (h2 : rg64 b) (h3 : rg64 c) (h4 : rg64 k) (h5 : rg64 o) (h6 : rg64 p) (h7 : rg64 q) (h8 : (∀ x ∈ S, rg64 x) ∧ S.length ≤ 9223372036854775807) (h9 : N.length ≤ 9223372036854775807) (h10 : (∀ m ∈ M, m.Ok) ∧ M.length ≤ 9223372036854775807) : (Edt.mk a b c S k t N M o p q).Ok := ⟨h1, h2, h3, h4, h5, h6, h7, h8, h9, h10⟩
theorem mov_ok (r : Rdr) : r.mov.Ok := by
  have l1 : r.mv4.lims.length ≤ 9223372036854775807 := Nat.le_trans (lims_len _) (by omega)
  have l2 : r.mv4.limsR.lims.length ≤ 9223372036854775807 := Nat.le_trans (lims_len _) (by omega)
  unfold Rdr.mov
  exact mk_mok (num64 r) (num64 (r.numR M31)) ⟨lims_32 r.mv4, l1⟩ ⟨lims_32 r.mv4.limsR, l2⟩
/-- An edit. -/
def Rdr.h3 (r : Rdr) : Rdr := ((r.numR M31).numR M31).numR M31
def Rdr.h4 (r : Rdr) : Rdr := itR (fun r => r.numR M31) (r.h3.num 12).toNat (r.h3.numR 12)
def Rdr.seen (r : Rdr) : List Int := itL (fun r => r.num M31) (fun r => r.numR M31) (r.h3.num 12).toNat (r.h3.numR 12)
def Rdr.h6 (r : Rdr) : Rdr := (r.h4.numR M31).txtR
def Rdr.h7 (r : Rdr) : Rdr := itR Rdr.txtR (r.h6.num 4).toNat (r.h6.numR 4)
def Rdr.names (r : Rdr) : List ByteArray := itL Rdr.txtB Rdr.txtR (r.h6.num 4).toNat (r.h6.numR 4)
def Rdr.h8 (r : Rdr) : Rdr := itR Rdr.movR (r.h7.num 4).toNat (r.h7.numR 4)
def Rdr.moves (r : Rdr) : List Mov := itL Rdr.mov Rdr.movR (r.h7.num 4).toNat (r.h7.numR 4)
def Rdr.h9 (r : Rdr) : Rdr := ((r.h8.numR M31).numR M31).numR M31
def Rdr.edt (r : Rdr) : Edt := ⟨r.num M31, (r.numR M31).num M31, ((r.numR M31).numR M31).num M31, r.seen, r.h4.num M31, (r.h4.numR M31).txtB, r.names, r.moves, r.h8.num M31, (r.h8.numR M31).num M31, ((r.h8.numR M31).numR M31).num M31⟩
theorem edt_ok (r : Rdr) : r.edt.Ok := by
  have c : ∀ (r : Rdr) (m : Int), 0 ≤ m → m ≤ 100 → (r.num m).toNat ≤ 9223372036854775807 := fun r m h0 h1 => by have := num_rng r (m := m) h0; omega
  have l1 : r.seen.length ≤ 9223372036854775807 := by unfold Rdr.seen; rw [itL_len]; exact c _ _ (by decide) (by decide)
  have l2 : r.names.length ≤ 9223372036854775807 := by unfold Rdr.names; rw [itL_len]; exact c _ _ (by decide) (by decide)
  have l3 : r.moves.length ≤ 9223372036854775807 := by unfold Rdr.moves; rw [itL_len]; exact c _ _ (by decide) (by decide)
  have s1 : ∀ x ∈ r.seen, rg64 x := itL_mem (p := rg64) (fun r => num64 r) _ _
  have s3 : ∀ x ∈ r.moves, x.Ok := itL_mem (p := Mov.Ok) (fun r => mov_ok r) _ _
  unfold Rdr.edt
  exact mk_eok (num64 r) (num64 (r.numR M31)) (num64 ((r.numR M31).numR M31)) (num64 r.h4) (num64 r.h8) (num64 (r.h8.numR M31)) (num64 ((r.h8.numR M31).numR M31)) ⟨s1, l1⟩ l2 ⟨s3, l3⟩
def Rdr.fin (r : Rdr) : Rdr := if r.h9.e = 0 then (if r.h9.s ≠ [] ∨ encQ r.edt = false then r.h9.fail 3 else r.h9) else r.h9
abbrev edt0 : Edt := ⟨0, 0, 0, [], 0, ⟨#[]⟩, [], [], 0, 0, 0⟩
def rd0 (s : List Int) : Rdr := ⟨s, 0⟩
def decE (s : List Int) : Int := (rd0 s).fin.e
def decQ (s : List Int) : Edt := if decE s = 0 then (rd0 s).edt else edt0
theorem bytesOf_nil {L : List Int} : bytesOf L = ⟨#[]⟩ ↔ L = [] := by
  constructor
  · intro h
    have := congrArg ByteArray.size h
    rw [bytesOf_size] at this
    exact List.eq_nil_of_length_eq_zero this
  · rintro rfl; rfl
theorem fin_a {r : Rdr} (h : r.h9.e = 0) (h2 : r.h9.s ≠ [] ∨ encQ r.edt = false) : r.fin = r.h9.fail 3 := by rw [Rdr.fin, if_pos h, if_pos h2]
theorem fin_b {r : Rdr} (h : r.h9.e = 0) (h1 : r.h9.s = []) (h2 : encQ r.edt = true) : r.fin = r.h9 := by
  rw [Rdr.fin, if_pos h, if_neg]
  rintro (h3 | h3)
  · exact h3 h1
  · rw [h2] at h3; cases h3
theorem fin_c {r : Rdr} (h : ¬ r.h9.e = 0) : r.fin = r.h9 := by rw [Rdr.fin, if_neg h]
theorem decQ_a {s : List Int} (h : ¬ decE s = 0) : decQ s = edt0 := by rw [decQ, if_neg h]
theorem decQ_b {s : List Int} (h : decE s = 0) : decQ s = (rd0 s).edt := by rw [decQ, if_pos h]
attribute [irreducible] nlp Rdr.num Rdr.numR Rdr.takeS Rdr.takeR Rdr.fail
open Go.Proofs in
theorem Kt {P : Program} {ops : Array Oper} {o : Oper} {n n' d : Nat} {s : Slots} {E E' : Env} {a b : ByteArray} {l : List Nat} (h : a = b) (hs : Stp P ops o n s E n' (setAt s d (some (.b (.lit (.string a))))) E' l) : Stp P ops o n s E n' (setAt s d (some (.b (.lit (.string b))))) E' l := h ▸ hs
section
variable {P : Go.Program} {ops : Array Go.Oper} {o : Go.Oper} {n : Nat} {s : Slots} {E : Env} {d : Nat} {T : Go.TypeId}
open Go.Proofs
theorem BdM {parts : Array (Nat × Operand)} {z : List B} {fl : List (Nat × Nat)} {vs cs : List V} (K : StT P T z fl) (h : (runs ops s o.guard, o.dst, o.op, evs s (parts.toList.map (·.2)), putParts (fun k => fl[k]?) ((parts.toList.map (·.1)).zip vs) ((z.map nilB).map .b)) = (some true, some d, .build T parts, some vs, some cs)) :
    Stp P ops o n s E (n + 1) (setAt s d (some (.agg cs))) E [] := by
  simp only [Prod.mk.injEq] at h
  exact st0 h.1 h.2.1 (h.2.2.1 ▸ .buildN _ _ _ _ _ h.2.2.2.1 (by rw [K.z]; rfl) K.p (putParts_mono K.f h.2.2.2.2))
end
end Go.VL

/- From contracts by value to the given statements: edits, bytes, texts, numbers. -/
set_option linter.unusedVariables false
set_option linter.unusedSimpArgs false
set_option maxRecDepth 100000
namespace Go.VL
open Go.ChangeShapes Go.WideShapes Go.ChangeAt Go.RowKit Go.ChangeMaps Go.Proofs
theorem litE8 {x : Int} (h : (Lit.int .u8 x).wf = true) : 0 ≤ x ∧ x < 256 := by
  simp only [Lit.wf, Bool.and_eq_true, decide_eq_true_eq] at h
  simp only [IntKind.min, IntKind.max, IntKind.signed, IntKind.bits] at h
  have h1 := h.1
  have h2 := h.2
  simp at h1 h2
  omega
theorem litE32 {x : Int} (h : (Lit.int .u32 x).wf = true) : 0 ≤ x ∧ x < 4294967296 := by
  simp only [Lit.wf, Bool.and_eq_true, decide_eq_true_eq] at h
  simp only [IntKind.min, IntKind.max, IntKind.signed, IntKind.bits] at h
  have h1 := h.1
  have h2 := h.2
  simp at h1 h2
  omega
theorem litEU {x : Int} (h : (Lit.int .u64 x).wf = true) : 0 ≤ x ∧ x < 18446744073709551616 := by
  simp only [Lit.wf, Bool.and_eq_true, decide_eq_true_eq] at h
  simp only [IntKind.min, IntKind.max, IntKind.signed, IntKind.bits] at h
  have h1 := h.1
  have h2 := h.2
  simp at h1 h2
  omega
section
variable {H : Type} {enc : TypeId × Value → H} {W : World}
def qh64 (bs : List B) : Prop := ∃ z, bs = [numB .i64 z] ∧ (Lit.int .i64 z).wf = true
def qh8 (bs : List B) : Prop := ∃ z, bs = [numB .u8 z] ∧ (Lit.int .u8 z).wf = true
def qh32 (bs : List B) : Prop := ∃ z, bs = [numB .u32 z] ∧ (Lit.int .u32 z).wf = true
def qhS (bs : List B) : Prop := ∃ z : ByteArray, bs = [.lit (.string z)] ∧ z.size ≤ maxLen
def qhB (bs : List B) : Prop := ∃ z, bs = [boolB z]
theorem p3 : Opens enc Try.prog W 3 1 qh64 := Opens.int (by kernel_rfl) Try.underlying3
theorem p5 : Opens enc Try.prog W 5 1 qh8 := Opens.int (by kernel_rfl) Try.underlying5
theorem p53 : Opens enc Try.prog W 53 1 qh32 := Opens.int (by kernel_rfl) Try.underlying53
theorem p9 : Opens enc Try.prog W 9 1 qhS := Opens.str (by kernel_rfl) Try.underlying9
theorem p4 : Opens enc Try.prog W 4 1 qhB := Opens.bool (by kernel_rfl) Try.underlying4
theorem p23 : Opens enc Try.prog W 23 1 (ShS 1 qh8) := Opens.slice (by kernel_rfl) Try.underlying23 (by decide) p5
theorem p28 : Opens enc Try.prog W 28 1 (ShS 1 qh64) := Opens.slice (by kernel_rfl) Try.underlying28 (by decide) p3
theorem p35 : Opens enc Try.prog W 35 1 (ShS 1 qhS) := Opens.slice (by kernel_rfl) Try.underlying35 (by decide) p9
theorem p52 : Opens enc Try.prog W 52 1 (ShS 1 qh32) := Opens.slice (by kernel_rfl) Try.underlying52 (by decide) p53
def qhID : List B → Prop := ShF [(3, 1, qh64), (3, 1, qh64)]
theorem p34 : Opens enc Try.prog W 34 2 qhID := Opens.struct _ (by kernel_rfl) Try.underlying34 rfl ⟨rfl, p3, rfl, p3, trivial⟩
def qhI : List B → Prop := ShF [(4, 1, qhB), (52, 1, ShS 1 qh32)]
theorem p55 : Opens enc Try.prog W 55 2 qhI := Opens.struct _ (by kernel_rfl) Try.underlying55 rfl ⟨rfl, p4, rfl, p52, trivial⟩
def qhR : List B → Prop := ShF [(55, 2, qhI), (55, 2, qhI)]
theorem p57 : Opens enc Try.prog W 57 4 qhR := Opens.struct _ (by kernel_rfl) Try.underlying57 rfl ⟨rfl, p55, rfl, p55, trivial⟩
def qhM : List B → Prop := ShF [(3, 1, qh64), (3, 1, qh64), (57, 4, qhR)]
theorem p61 : Opens enc Try.prog W 61 6 qhM := Opens.struct _ (by kernel_rfl) Try.underlying61 rfl ⟨rfl, p3, rfl, p3, rfl, p57, trivial⟩
theorem p36 : Opens enc Try.prog W 36 1 (ShS 6 qhM) := Opens.slice (by kernel_rfl) Try.underlying36 (by decide) p61
def qhE : List B → Prop := ShF [(34, 2, qhID), (3, 1, qh64), (28, 1, ShS 1 qh64), (3, 1, qh64), (9, 1, qhS), (35, 1, ShS 1 qhS), (36, 1, ShS 6 qhM), (34, 2, qhID), (3, 1, qh64)]
theorem p38 : Opens enc Try.prog W 38 11 qhE := Opens.struct _ (by kernel_rfl) Try.underlying38 rfl ⟨rfl, p34, rfl, p3, rfl, p28, rfl, p3, rfl, p9, rfl, p35, rfl, p36, rfl, p34, rfl, p3, trivial⟩
theorem cells1 {k : IntKind} : ∀ A : List Int, cellsT (fun z => [numB k z]) A = A.map (numB k) := fun A => by
  induction A with
  | nil => rfl
  | cons x r ih => simpa [cellsT] using ih
theorem q64_of {L : List (List B)} (h : ∀ x ∈ L, x.length = 1 ∧ qh64 x) : ∃ A : List Int, L.flatten = A.map (numB .i64) ∧ A.length = L.length ∧ ∀ x ∈ A, rg64 x := by
  obtain ⟨A, h1, h2, h3⟩ := as_map (Sh := qh64) (f := fun z => [numB .i64 z]) (ok := rg64) (fun x ⟨z, hz, hw⟩ => ⟨z, hz, by have := lit_i64 hw; unfold rg64; omega⟩) (fun x hx => (h x hx).2)
  exact ⟨A, by rw [h1, cells1], h2, h3⟩
theorem q32_of {L : List (List B)} (h : ∀ x ∈ L, x.length = 1 ∧ qh32 x) : ∃ A : List Int, L.flatten = A.map (numB .u32) ∧ A.length = L.length ∧ ok32 A := by
  obtain ⟨A, h1, h2, h3⟩ := as_map (Sh := qh32) (f := fun z => [numB .u32 z]) (ok := fun x => 0 ≤ x ∧ x < 4294967296) (fun x ⟨z, hz, hw⟩ => ⟨z, hz, litE32 hw⟩) (fun x hx => (h x hx).2)
  exact ⟨A, by rw [h1, cells1], h2, h3⟩
theorem q8_of {L : List (List B)} (h : ∀ x ∈ L, x.length = 1 ∧ qh8 x) : ∃ A : List Int, L.flatten = A.map (numB .u8) ∧ A.length = L.length ∧ ByR A := by
  obtain ⟨A, h1, h2, h3⟩ := as_map (Sh := qh8) (f := fun z => [numB .u8 z]) (ok := fun x => 0 ≤ x ∧ x < 256) (fun x ⟨z, hz, hw⟩ => ⟨z, hz, litE8 hw⟩) (fun x hx => (h x hx).2)
  exact ⟨A, by rw [h1, cells1], h2, h3⟩
theorem mx : maxLen ≤ 9223372036854775807 := by decide
theorem int_of {x : List B} (h : qhI x) : ∃ (n : Bool) (A : List Int), x = [boolB n, slK .u32 A] ∧ ok32 A ∧ A.length ≤ 9223372036854775807 := by
  obtain ⟨_, _, rfl, _, ⟨n, rfl⟩, _, _, rfl, _, ⟨L, rfl, hL, hl⟩, rfl⟩ := h
  obtain ⟨A, e1, e2, e3⟩ := q32_of hL
  have := mx
  exact ⟨n, A, by rw [e1]; rfl, e3, by omega⟩
theorem mov_of {x : List B} (h : qhM x) : ∃ m : Mov, x = mvB m ∧ m.Ok := by
  obtain ⟨_, _, rfl, _, ⟨s, rfl, hs⟩, _, _, rfl, _, ⟨c, rfl, hc⟩, _, _, rfl, _, ⟨b1, b2, rfl, _, h1, b3, b4, rfl, _, h2, rfl⟩, rfl⟩ := h
  obtain ⟨n, A, rfl, oA, lA⟩ := int_of h1
  obtain ⟨m, D, rfl, oD, lD⟩ := int_of h2
  exact ⟨⟨s, c, n, A, m, D⟩, rfl, mk_mok (by have := lit_i64 hs; unfold rg64; omega) (by have := lit_i64 hc; unfold rg64; omega) ⟨oA, lA⟩ ⟨oD, lD⟩⟩
theorem edt_of {x : List B} (h : qhE x) : ∃ e : Edt, x = edB e ∧ e.Ok := by
  obtain ⟨_, _, rfl, _, ⟨_, _, rfl, _, ⟨a, rfl, ha⟩, _, _, rfl, _, ⟨b, rfl, hb⟩, rfl⟩, _, _, rfl, _, ⟨c, rfl, hc⟩, _, _, rfl, _, ⟨S, rfl, hS, lS⟩, _, _, rfl, _, ⟨k, rfl, hk⟩, _, _, rfl, _, ⟨t, rfl, ht⟩, _, _, rfl, _, ⟨N, rfl, hN, lN⟩, _, _, rfl, _, ⟨M, rfl, hM, lM⟩, _, _, rfl, _, ⟨_, _, rfl, _, ⟨o, rfl, ho⟩, _, _, rfl, _, ⟨p, rfl, hp⟩, rfl⟩, _, _, rfl, _, ⟨q, rfl, hq⟩, rfl⟩ := h
  obtain ⟨A, e1, e2, e3⟩ := q64_of hS
  obtain ⟨B1, f1, f2, _⟩ := as_map (Sh := qhS) (f := stB) (ok := fun _ => True) (fun x ⟨z, hz, _⟩ => ⟨z, hz, trivial⟩) (fun x hx => (hN x hx).2)
  obtain ⟨C, g1, g2, g3⟩ := as_map (f := mvB) (ok := Mov.Ok) (fun x hx => mov_of hx) (fun x hx => (hM x hx).2)
  have r : ∀ {z : Int}, (Lit.int .i64 z).wf = true → rg64 z := fun h => by have := lit_i64 h; unfold rg64; omega
  have := mx
  exact ⟨⟨a, b, c, A, k, t, B1, C, o, p, q⟩, by rw [e1, f1, g1]; rfl, mk_eok (r ha) (r hb) (r hc) (r hk) (r ho) (r hp) (r hq) ⟨e3, by omega⟩ (by omega) ⟨g3, by omega⟩⟩
theorem open_edt {v : Value} {d : DataW H} {p : List MemPlace} (hval : Value.okWide Try.prog W .any 0 38 v) (h : DataW.Trod enc Try.prog W 0 (fun _ => true) true 38 v d p) :
    ∃ e : Edt, RepB W (fun _ => True) (.agg (edB e)) v ∧ e.Ok := by
  obtain ⟨bs, h1, h2⟩ := p38.topAgg Try.underlying38 hval h
  obtain ⟨e, rfl, h3⟩ := edt_of h2
  exact ⟨e, h1, h3⟩
theorem open_byt {v : Value} {d : DataW H} {p : List MemPlace} (hval : Value.okWide Try.prog W .any 0 23 v) (h : DataW.Trod enc Try.prog W 0 (fun _ => true) true 23 v d p) :
    ∃ A : List Int, RepB W (fun _ => True) (slK .u8 A) v ∧ ByR A ∧ A.length ≤ 9223372036854775807 := by
  obtain ⟨L, h1, h2, h3⟩ := p23.topSlice Try.underlying23 hval h
  obtain ⟨A, e1, e2, e3⟩ := q8_of h2
  have := mx
  exact ⟨A, by rw [e1] at h1; exact h1, e3, by omega⟩
theorem open_u32s {v : Value} {d : DataW H} {p : List MemPlace} (hval : Value.okWide Try.prog W .any 0 52 v) (h : DataW.Trod enc Try.prog W 0 (fun _ => true) true 52 v d p) :
    ∃ A : List Int, RepB W (fun _ => True) (slK .u32 A) v ∧ ok32 A ∧ A.length ≤ 9223372036854775807 := by
  obtain ⟨L, h1, h2, h3⟩ := p52.topSlice Try.underlying52 hval h
  obtain ⟨A, e1, e2, e3⟩ := q32_of h2
  have := mx
  exact ⟨A, by rw [e1] at h1; exact h1, e3, by omega⟩
theorem open_r64 {v : Value} {d : DataW H} {p : List MemPlace} (hval : Value.okWide Try.prog W .any 0 3 v) (h : DataW.Trod enc Try.prog W 0 (fun _ => true) true 3 v d p) :
    ∃ n : Int, RepB W (fun _ => True) (numB .i64 n) v ∧ rg64 n := by
  obtain ⟨n, rfl, _, _, hw⟩ := open_int Try.underlying3 hval h
  exact ⟨n, .lit _ rfl, by have := lit_i64 hw; unfold rg64; omega⟩
theorem open_b8 {v : Value} {d : DataW H} {p : List MemPlace} (hval : Value.okWide Try.prog W .any 0 5 v) (h : DataW.Trod enc Try.prog W 0 (fun _ => true) true 5 v d p) :
    ∃ n : Int, RepB W (fun _ => True) (numB .u8 n) v ∧ (0 ≤ n ∧ n < 256) := by
  obtain ⟨n, rfl, _, _, hw⟩ := open_int Try.underlying5 hval h
  exact ⟨n, .lit _ rfl, litE8 hw⟩
theorem open_w64 {v : Value} {d : DataW H} {p : List MemPlace} (hval : Value.okWide Try.prog W .any 0 22 v) (h : DataW.Trod enc Try.prog W 0 (fun _ => true) true 22 v d p) :
    ∃ n : Int, RepB W (fun _ => True) (numB .u64 n) v ∧ (0 ≤ n ∧ n < 18446744073709551616) := by
  obtain ⟨n, rfl, _, _, hw⟩ := open_int Try.underlying22 hval h
  exact ⟨n, .lit _ rfl, litEU hw⟩
theorem T38 : Try.prog.readableRec 38 = true ∧ 38 < Try.prog.types.size := ⟨by kernel_rfl, of_decide_eq_true (by kernel_rfl)⟩
theorem T3e : Try.prog.readableRec 3 = true ∧ 3 < Try.prog.types.size := ⟨by kernel_rfl, of_decide_eq_true (by kernel_rfl)⟩
theorem T5e : Try.prog.readableRec 5 = true ∧ 5 < Try.prog.types.size := ⟨by kernel_rfl, of_decide_eq_true (by kernel_rfl)⟩
theorem T22e : Try.prog.readableRec 22 = true ∧ 22 < Try.prog.types.size := ⟨by kernel_rfl, of_decide_eq_true (by kernel_rfl)⟩
theorem T23e : Try.prog.readableRec 23 = true ∧ 23 < Try.prog.types.size := ⟨by kernel_rfl, of_decide_eq_true (by kernel_rfl)⟩
theorem T9e : Try.prog.readableRec 9 = true ∧ 9 < Try.prog.types.size := ⟨by kernel_rfl, of_decide_eq_true (by kernel_rfl)⟩
theorem T52e : Try.prog.readableRec 52 = true ∧ 52 < Try.prog.types.size := ⟨by kernel_rfl, of_decide_eq_true (by kernel_rfl)⟩
theorem T4e : Try.prog.readableRec 4 = true ∧ 4 < Try.prog.types.size := ⟨by kernel_rfl, of_decide_eq_true (by kernel_rfl)⟩
end
end Go.VL

/- Facts of the program's head that the rows ask for. -/
set_option linter.unusedVariables false
set_option maxRecDepth 100000
namespace Go.Proofs.Ytlhdjfjebhffjaa
theorem init_lit : "harness 1091498bc9f70004d0b9528597e9f12ce2db8f9853d2cf4c68e2a3a046e5a453 cut at straightedge/straightedgelaw31.MessageHashes straightedge/straightedgelaw31.MessageRoundTrip straightedge/straightedgelaw31.MessageCanonical straightedge/straightedgelaw31.MessageForged straightedge/straightedgelaw31.MessageOrder straightedge/straightedgelaw31.MessageNumbers" = String.ofList ([Char.ofNat 104, Char.ofNat 97, Char.ofNat 114, Char.ofNat 110, Char.ofNat 101, Char.ofNat 115, Char.ofNat 115, Char.ofNat 32, Char.ofNat 49, Char.ofNat 48, Char.ofNat 57, Char.ofNat 49, Char.ofNat 52, Char.ofNat 57, Char.ofNat 56, Char.ofNat 98, Char.ofNat 99, Char.ofNat 57, Char.ofNat 102, Char.ofNat 55, Char.ofNat 48, Char.ofNat 48, Char.ofNat 48, Char.ofNat 52, Char.ofNat 100, Char.ofNat 48, Char.ofNat 98, Char.ofNat 57, Char.ofNat 53, Char.ofNat 50, Char.ofNat 56, Char.ofNat 53, Char.ofNat 57, Char.ofNat 55, Char.ofNat 101, Char.ofNat 57, Char.ofNat 102, Char.ofNat 49, Char.ofNat 50, Char.ofNat 99, Char.ofNat 101, Char.ofNat 50, Char.ofNat 100, Char.ofNat 98, Char.ofNat 56, Char.ofNat 102, Char.ofNat 57, Char.ofNat 56, Char.ofNat 53, Char.ofNat 51, Char.ofNat 100, Char.ofNat 50, Char.ofNat 99, Char.ofNat 102, Char.ofNat 52, Char.ofNat 99, Char.ofNat 54, Char.ofNat 56, Char.ofNat 101, Char.ofNat 50, Char.ofNat 97, Char.ofNat 51, Char.ofNat 97, Char.ofNat 48, Char.ofNat 52, Char.ofNat 54, Char.ofNat 101, Char.ofNat 53, Char.ofNat 97, Char.ofNat 52, Char.ofNat 53, Char.ofNat 51, Char.ofNat 32, Char.ofNat 99, Char.ofNat 117, Char.ofNat 116] ++ Char.ofNat 32 :: [Char.ofNat 97, Char.ofNat 116, Char.ofNat 32, Char.ofNat 115, Char.ofNat 116, Char.ofNat 114, Char.ofNat 97, Char.ofNat 105, Char.ofNat 103, Char.ofNat 104, Char.ofNat 116, Char.ofNat 101, Char.ofNat 100, Char.ofNat 103, Char.ofNat 101, Char.ofNat 47, Char.ofNat 115, Char.ofNat 116, Char.ofNat 114, Char.ofNat 97, Char.ofNat 105, Char.ofNat 103, Char.ofNat 104, Char.ofNat 116, Char.ofNat 101, Char.ofNat 100, Char.ofNat 103, Char.ofNat 101, Char.ofNat 108, Char.ofNat 97, Char.ofNat 119, Char.ofNat 51, Char.ofNat 49, Char.ofNat 46, Char.ofNat 77, Char.ofNat 101, Char.ofNat 115, Char.ofNat 115, Char.ofNat 97, Char.ofNat 103, Char.ofNat 101, Char.ofNat 72, Char.ofNat 97, Char.ofNat 115, Char.ofNat 104, Char.ofNat 101, Char.ofNat 115, Char.ofNat 32, Char.ofNat 115, Char.ofNat 116, Char.ofNat 114, Char.ofNat 97, Char.ofNat 105, Char.ofNat 103, Char.ofNat 104, Char.ofNat 116, Char.ofNat 101, Char.ofNat 100, Char.ofNat 103, Char.ofNat 101, Char.ofNat 47, Char.ofNat 115, Char.ofNat 116, Char.ofNat 114, Char.ofNat 97, Char.ofNat 105, Char.ofNat 103, Char.ofNat 104, Char.ofNat 116, Char.ofNat 101, Char.ofNat 100, Char.ofNat 103, Char.ofNat 101, Char.ofNat 108, Char.ofNat 97, Char.ofNat 119, Char.ofNat 51, Char.ofNat 49, Char.ofNat 46, Char.ofNat 77, Char.ofNat 101, Char.ofNat 115, Char.ofNat 115, Char.ofNat 97, Char.ofNat 103, Char.ofNat 101, Char.ofNat 82, Char.ofNat 111, Char.ofNat 117, Char.ofNat 110, Char.ofNat 100, Char.ofNat 84, Char.ofNat 114, Char.ofNat 105, Char.ofNat 112, Char.ofNat 32, Char.ofNat 115, Char.ofNat 116, Char.ofNat 114, Char.ofNat 97, Char.ofNat 105, Char.ofNat 103, Char.ofNat 104, Char.ofNat 116, Char.ofNat 101, Char.ofNat 100, Char.ofNat 103, Char.ofNat 101, Char.ofNat 47, Char.ofNat 115, Char.ofNat 116, Char.ofNat 114, Char.ofNat 97, Char.ofNat 105, Char.ofNat 103, Char.ofNat 104, Char.ofNat 116, Char.ofNat 101, Char.ofNat 100, Char.ofNat 103, Char.ofNat 101, Char.ofNat 108, Char.ofNat 97, Char.ofNat 119, Char.ofNat 51, Char.ofNat 49, Char.ofNat 46, Char.ofNat 77, Char.ofNat 101, Char.ofNat 115, Char.ofNat 115, Char.ofNat 97, Char.ofNat 103, Char.ofNat 101, Char.ofNat 67, Char.ofNat 97, Char.ofNat 110, Char.ofNat 111, Char.ofNat 110, Char.ofNat 105, Char.ofNat 99, Char.ofNat 97, Char.ofNat 108, Char.ofNat 32, Char.ofNat 115, Char.ofNat 116, Char.ofNat 114, Char.ofNat 97, Char.ofNat 105, Char.ofNat 103, Char.ofNat 104, Char.ofNat 116, Char.ofNat 101, Char.ofNat 100, Char.ofNat 103, Char.ofNat 101, Char.ofNat 47, Char.ofNat 115, Char.ofNat 116, Char.ofNat 114, Char.ofNat 97, Char.ofNat 105, Char.ofNat 103, Char.ofNat 104, Char.ofNat 116, Char.ofNat 101, Char.ofNat 100, Char.ofNat 103, Char.ofNat 101, Char.ofNat 108, Char.ofNat 97, Char.ofNat 119, Char.ofNat 51, Char.ofNat 49, Char.ofNat 46, Char.ofNat 77, Char.ofNat 101, Char.ofNat 115, Char.ofNat 115, Char.ofNat 97, Char.ofNat 103, Char.ofNat 101, Char.ofNat 70, Char.ofNat 111, Char.ofNat 114, Char.ofNat 103, Char.ofNat 101, Char.ofNat 100, Char.ofNat 32, Char.ofNat 115, Char.ofNat 116, Char.ofNat 114, Char.ofNat 97, Char.ofNat 105, Char.ofNat 103, Char.ofNat 104, Char.ofNat 116, Char.ofNat 101, Char.ofNat 100, Char.ofNat 103, Char.ofNat 101, Char.ofNat 47, Char.ofNat 115, Char.ofNat 116, Char.ofNat 114, Char.ofNat 97, Char.ofNat 105, Char.ofNat 103, Char.ofNat 104, Char.ofNat 116, Char.ofNat 101, Char.ofNat 100, Char.ofNat 103, Char.ofNat 101, Char.ofNat 108, Char.ofNat 97, Char.ofNat 119, Char.ofNat 51, Char.ofNat 49, Char.ofNat 46, Char.ofNat 77, Char.ofNat 101, Char.ofNat 115, Char.ofNat 115, Char.ofNat 97, Char.ofNat 103, Char.ofNat 101, Char.ofNat 79, Char.ofNat 114, Char.ofNat 100, Char.ofNat 101, Char.ofNat 114, Char.ofNat 32, Char.ofNat 115, Char.ofNat 116, Char.ofNat 114, Char.ofNat 97, Char.ofNat 105, Char.ofNat 103, Char.ofNat 104, Char.ofNat 116, Char.ofNat 101, Char.ofNat 100, Char.ofNat 103, Char.ofNat 101, Char.ofNat 47, Char.ofNat 115, Char.ofNat 116, Char.ofNat 114, Char.ofNat 97, Char.ofNat 105, Char.ofNat 103, Char.ofNat 104, Char.ofNat 116, Char.ofNat 101, Char.ofNat 100, Char.ofNat 103, Char.ofNat 101, Char.ofNat 108, Char.ofNat 97, Char.ofNat 119, Char.ofNat 51, Char.ofNat 49, Char.ofNat 46, Char.ofNat 77, Char.ofNat 101, Char.ofNat 115, Char.ofNat 115, Char.ofNat 97, Char.ofNat 103, Char.ofNat 101, Char.ofNat 78, Char.ofNat 117, Char.ofNat 109, Char.ofNat 98, Char.ofNat 101, Char.ofNat 114, Char.ofNat 115]) := rfl
theorem init_gen (X : List Char) : behindMainWord (wordsSigns ([Char.ofNat 104, Char.ofNat 97, Char.ofNat 114, Char.ofNat 110, Char.ofNat 101, Char.ofNat 115, Char.ofNat 115, Char.ofNat 32, Char.ofNat 49, Char.ofNat 48, Char.ofNat 57, Char.ofNat 49, Char.ofNat 52, Char.ofNat 57, Char.ofNat 56, Char.ofNat 98, Char.ofNat 99, Char.ofNat 57, Char.ofNat 102, Char.ofNat 55, Char.ofNat 48, Char.ofNat 48, Char.ofNat 48, Char.ofNat 52, Char.ofNat 100, Char.ofNat 48, Char.ofNat 98, Char.ofNat 57, Char.ofNat 53, Char.ofNat 50, Char.ofNat 56, Char.ofNat 53, Char.ofNat 57, Char.ofNat 55, Char.ofNat 101, Char.ofNat 57, Char.ofNat 102, Char.ofNat 49, Char.ofNat 50, Char.ofNat 99, Char.ofNat 101, Char.ofNat 50, Char.ofNat 100, Char.ofNat 98, Char.ofNat 56, Char.ofNat 102, Char.ofNat 57, Char.ofNat 56, Char.ofNat 53, Char.ofNat 51, Char.ofNat 100, Char.ofNat 50, Char.ofNat 99, Char.ofNat 102, Char.ofNat 52, Char.ofNat 99, Char.ofNat 54, Char.ofNat 56, Char.ofNat 101, Char.ofNat 50, Char.ofNat 97, Char.ofNat 51, Char.ofNat 97, Char.ofNat 48, Char.ofNat 52, Char.ofNat 54, Char.ofNat 101, Char.ofNat 53, Char.ofNat 97, Char.ofNat 52, Char.ofNat 53, Char.ofNat 51, Char.ofNat 32, Char.ofNat 99, Char.ofNat 117, Char.ofNat 116] ++ Char.ofNat 32 :: X)) = [Char.ofNat 99, Char.ofNat 117, Char.ofNat 116] :: wordsSigns X := by rfl
theorem init_words : ∃ R, behindMainWord (wordsSigns Try.pinned.checked.prog.initOrder.toList) = [Char.ofNat 99, Char.ofNat 117, Char.ofNat 116] :: R :=
  ⟨_, (congrArg (fun l => behindMainWord (wordsSigns l)) ((congrArg String.toList init_lit).trans String.toList_ofList)).trans (init_gen _)⟩
theorem strip (R : List (List Char)) : stripLifts liftWords ([Char.ofNat 99, Char.ofNat 117, Char.ofNat 116] :: R) = ([], [Char.ofNat 99, Char.ofNat 117, Char.ofNat 116] :: R) := by rfl
theorem may_gen (P : Program) (R : List (List Char)) (h : behindMainWord (wordsSigns P.initOrder.toList) = [Char.ofNat 99, Char.ofNat 117, Char.ofNat 116] :: R) (h1 : P.laysLater = false) (h2 : P.bearsReflect = false) (h3 : P.doorFits [] = true) : P.mayEnter = true := by
  unfold Program.mayEnter
  rw [h]
  simp only [strip]
  rw [h1, h2, h3]
  rfl
theorem lifts_gen (P : Program) (R : List (List Char)) (h : behindMainWord (wordsSigns P.initOrder.toList) = [Char.ofNat 99, Char.ofNat 117, Char.ofNat 116] :: R) : P.liftsFinal = false := by
  unfold Program.liftsFinal Program.headLifts
  rw [h]
  simp only [strip]
  rfl
theorem make_gen (P : Program) (R : List (List Char)) (h : behindMainWord (wordsSigns P.initOrder.toList) = [Char.ofNat 99, Char.ofNat 117, Char.ofNat 116] :: R) : P.make = some .cut := by
  unfold Program.make
  rw [h]
  rfl
theorem head_may : Try.pinned.checked.prog.mayEnter = true := by
  obtain ⟨R, h⟩ := init_words
  exact may_gen _ R h (by kernel_rfl) (by kernel_rfl) (by kernel_rfl)
theorem head_lifts : Try.pinned.checked.prog.liftsFinal = false := by
  obtain ⟨R, h⟩ := init_words
  exact lifts_gen _ R h
theorem head_make : Try.pinned.checked.prog.make = some .cut := by
  obtain ⟨R, h⟩ := init_words
  exact make_gen _ R h
end Go.Proofs.Ytlhdjfjebhffjaa

/- A small program logic over the translated Go code, further part: facts of this program's types. -/
set_option linter.unusedVariables false
set_option maxRecDepth 100000
namespace Go.VL
open Go.Proofs
theorem TA29 : aggOf Try.prog 29 = some false := by kernel_rfl
theorem TA57 : aggOf Try.prog 57 = some true := by kernel_rfl
theorem TA101 : aggOf Try.prog 101 = some false := by kernel_rfl
theorem TB55 : (Try.prog.info? 55).map (·.bytes) = some 32 := by kernel_rfl
theorem TF57_0 : fieldOf Try.prog 57 0 = some (0, 2, true) := by kernel_rfl
theorem TF57_1 : fieldOf Try.prog 57 1 = some (2, 2, true) := by kernel_rfl
theorem TN55 : (zeroOf Try.prog 55).map List.length = some 2 := by kernel_rfl
theorem TQ57 : StT Try.prog 57 [boolB (false), u32S ([]), boolB (false), u32S ([])] [(0, 2), (2, 2)] := ⟨by kernel_rfl, ⟨_, Try.underlying57, by kernel_rfl⟩, fun k q h => match k, h with | 0, h => by injection h with h; subst h; kernel_rfl | 1, h => by injection h with h; subst h; kernel_rfl | k + 2, h => by simp at h⟩
theorem TS29 : szOf Try.prog 29 = some 1 := by kernel_rfl
theorem TS57 : szOf Try.prog 57 = some 4 := by kernel_rfl
theorem TU122 : Try.prog.underlying 122 = some (.slice 57) := Try.underlying122
theorem TZ29 : zeroOf Try.prog 29 = some [numB .i64 (0)] := by kernel_rfl
theorem TZ57 : zeroOf Try.prog 57 = some [boolB (false), u32S ([]), boolB (false), u32S ([])] := by kernel_rfl
end Go.VL

/- A small program logic over the translated Go code, further part: facts of this program's types. -/
set_option linter.unusedVariables false
set_option maxRecDepth 100000
namespace Go.VL
open Go.Proofs
theorem TA3 : aggOf Try.prog 3 = some false := by kernel_rfl
theorem TA23 : aggOf Try.prog 23 = some false := by kernel_rfl
theorem TA28 : aggOf Try.prog 28 = some false := by kernel_rfl
theorem TB4 : (Try.prog.info? 4).map (·.bytes) = some 1 := by kernel_rfl
theorem TB23 : (Try.prog.info? 23).map (·.bytes) = some 24 := by kernel_rfl
theorem TK28 : SlT Try.prog 28 3 (numB .i64 (0)) 8 := ⟨Try.underlying28, by kernel_rfl, by kernel_rfl, by kernel_rfl⟩
theorem TN23 : (zeroOf Try.prog 23).map List.length = some 1 := by kernel_rfl
theorem TS3 : szOf Try.prog 3 = some 1 := by kernel_rfl
theorem TS4 : szOf Try.prog 4 = some 1 := by kernel_rfl
theorem TS23 : szOf Try.prog 23 = some 1 := by kernel_rfl
theorem TU28 : Try.prog.underlying 28 = some (.slice 3) := Try.underlying28
theorem TZ4 : zeroOf Try.prog 4 = some [boolB (false)] := by kernel_rfl
theorem TZ5 : zeroOf Try.prog 5 = some [numB .u8 (0)] := by kernel_rfl
theorem TZ23 : zeroOf Try.prog 23 = some [u32S ([])] := by kernel_rfl
end Go.VL

/- A small program logic over the translated Go code, further part: facts of this program's types. -/
set_option linter.unusedVariables false
set_option maxRecDepth 100000
namespace Go.VL
open Go.Proofs
theorem TA9 : aggOf Try.prog 9 = some false := by kernel_rfl
theorem TA22 : aggOf Try.prog 22 = some false := by kernel_rfl
theorem TA25 : aggOf Try.prog 25 = some true := by kernel_rfl
theorem TA34 : aggOf Try.prog 34 = some true := by kernel_rfl
theorem TA35 : aggOf Try.prog 35 = some false := by kernel_rfl
theorem TA36 : aggOf Try.prog 36 = some false := by kernel_rfl
theorem TA38 : aggOf Try.prog 38 = some true := by kernel_rfl
theorem TA61 : aggOf Try.prog 61 = some true := by kernel_rfl
theorem TA77 : aggOf Try.prog 77 = some false := by kernel_rfl
theorem TB9 : (Try.prog.info? 9).map (·.bytes) = some 16 := by kernel_rfl
theorem TB61 : (Try.prog.info? 61).map (·.bytes) = some 80 := by kernel_rfl
theorem TF34_0 : fieldOf Try.prog 34 0 = some (0, 1, false) := by kernel_rfl
theorem TF34_1 : fieldOf Try.prog 34 1 = some (1, 1, false) := by kernel_rfl
theorem TF38_0 : fieldOf Try.prog 38 0 = some (0, 2, true) := by kernel_rfl
theorem TF38_1 : fieldOf Try.prog 38 1 = some (2, 1, false) := by kernel_rfl
theorem TF38_2 : fieldOf Try.prog 38 2 = some (3, 1, false) := by kernel_rfl
theorem TF38_3 : fieldOf Try.prog 38 3 = some (4, 1, false) := by kernel_rfl
theorem TF38_4 : fieldOf Try.prog 38 4 = some (5, 1, false) := by kernel_rfl
theorem TF38_5 : fieldOf Try.prog 38 5 = some (6, 1, false) := by kernel_rfl
theorem TF38_6 : fieldOf Try.prog 38 6 = some (7, 1, false) := by kernel_rfl
theorem TF38_7 : fieldOf Try.prog 38 7 = some (8, 2, true) := by kernel_rfl
theorem TF38_8 : fieldOf Try.prog 38 8 = some (10, 1, false) := by kernel_rfl
theorem TF61_0 : fieldOf Try.prog 61 0 = some (0, 1, false) := by kernel_rfl
theorem TF61_1 : fieldOf Try.prog 61 1 = some (1, 1, false) := by kernel_rfl
theorem TF61_2 : fieldOf Try.prog 61 2 = some (2, 4, true) := by kernel_rfl
theorem TF79_0 : fieldOf Try.prog 79 0 = some (0, 1, false) := by kernel_rfl
theorem TF79_1 : fieldOf Try.prog 79 1 = some (1, 1, false) := by kernel_rfl
theorem TF81_0 : fieldOf Try.prog 81 0 = some (0, 2, true) := by kernel_rfl
theorem TF87_0 : fieldOf Try.prog 87 0 = some (0, 1, false) := by kernel_rfl
theorem TF87_1 : fieldOf Try.prog 87 1 = some (1, 1, false) := by kernel_rfl
theorem TN9 : (zeroOf Try.prog 9).map List.length = some 1 := by kernel_rfl
theorem TN61 : (zeroOf Try.prog 61).map List.length = some 6 := by kernel_rfl
theorem TQ34 : StT Try.prog 34 [numB .i64 (0), numB .i64 (0)] [(0, 1), (1, 1)] := ⟨by kernel_rfl, ⟨_, Try.underlying34, by kernel_rfl⟩, fun k q h => match k, h with | 0, h => by injection h with h; subst h; kernel_rfl | 1, h => by injection h with h; subst h; kernel_rfl | k + 2, h => by simp at h⟩
theorem TQ38 : StT Try.prog 38 [numB .i64 (0), numB .i64 (0), numB .i64 (0), u32S ([]), numB .i64 (0), .lit (.string ((⟨#[]⟩ : ByteArray))), u32S ([]), u32S ([]), numB .i64 (0), numB .i64 (0), numB .i64 (0)] [(0, 2), (2, 1), (3, 1), (4, 1), (5, 1), (6, 1), (7, 1), (8, 2), (10, 1)] := ⟨by kernel_rfl, ⟨_, Try.underlying38, by kernel_rfl⟩, fun k q h => match k, h with | 0, h => by injection h with h; subst h; kernel_rfl | 1, h => by injection h with h; subst h; kernel_rfl | 2, h => by injection h with h; subst h; kernel_rfl | 3, h => by injection h with h; subst h; kernel_rfl | 4, h => by injection h with h; subst h; kernel_rfl | 5, h => by injection h with h; subst h; kernel_rfl | 6, h => by injection h with h; subst h; kernel_rfl | 7, h => by injection h with h; subst h; kernel_rfl | 8, h => by injection h with h; subst h; kernel_rfl | k + 9, h => by simp at h⟩
theorem TQ61 : StT Try.prog 61 [numB .i64 (0), numB .i64 (0), boolB (false), u32S ([]), boolB (false), u32S ([])] [(0, 1), (1, 1), (2, 4)] := ⟨by kernel_rfl, ⟨_, Try.underlying61, by kernel_rfl⟩, fun k q h => match k, h with | 0, h => by injection h with h; subst h; kernel_rfl | 1, h => by injection h with h; subst h; kernel_rfl | 2, h => by injection h with h; subst h; kernel_rfl | k + 3, h => by simp at h⟩
theorem TQ87 : StT Try.prog 87 [.lit (.string ((⟨#[]⟩ : ByteArray))), numB .i64 (0)] [(0, 1), (1, 1)] := ⟨by kernel_rfl, ⟨_, Try.underlying87, by kernel_rfl⟩, fun k q h => match k, h with | 0, h => by injection h with h; subst h; kernel_rfl | 1, h => by injection h with h; subst h; kernel_rfl | k + 2, h => by simp at h⟩
theorem TS9 : szOf Try.prog 9 = some 1 := by kernel_rfl
theorem TS22 : szOf Try.prog 22 = some 1 := by kernel_rfl
theorem TS25 : szOf Try.prog 25 = some 2 := by kernel_rfl
theorem TS28 : szOf Try.prog 28 = some 1 := by kernel_rfl
theorem TS34 : szOf Try.prog 34 = some 2 := by kernel_rfl
theorem TS35 : szOf Try.prog 35 = some 1 := by kernel_rfl
theorem TS36 : szOf Try.prog 36 = some 1 := by kernel_rfl
theorem TS38 : szOf Try.prog 38 = some 11 := by kernel_rfl
theorem TS61 : szOf Try.prog 61 = some 6 := by kernel_rfl
theorem TS77 : szOf Try.prog 77 = some 1 := by kernel_rfl
theorem TS79 : szOf Try.prog 79 = some 2 := by kernel_rfl
theorem TU25 : Try.prog.underlying 25 = some (Go.TypeDesc.array 2 22) := Try.underlying25
theorem TU35 : Try.prog.underlying 35 = some (.slice 9) := Try.underlying35
theorem TU36 : Try.prog.underlying 36 = some (.slice 61) := Try.underlying36
theorem TU67 : Try.prog.underlying 67 = some (Go.TypeDesc.array 4 22) := Try.underlying67
theorem TU71 : Try.prog.underlying 71 = some (.int .u64) := Try.underlying71
theorem TU77 : Try.prog.underlying 77 = some (Go.TypeDesc.pointer 79) := Try.underlying77
theorem TU116 : Try.prog.underlying 116 = some (Go.TypeDesc.pointer 5) := Try.underlying116
theorem TU140 : Try.prog.underlying 140 = some (Go.TypeDesc.unsafePointer) := Try.underlying140
theorem TY81 : (zeroOf Try.prog 81).map (List.map nilB) = some [.lit (.pointer none), .nil] := by kernel_rfl
theorem TZ3 : zeroOf Try.prog 3 = some [numB .i64 (0)] := by kernel_rfl
theorem TZ9 : zeroOf Try.prog 9 = some [.lit (.string ((⟨#[]⟩ : ByteArray)))] := by kernel_rfl
theorem TZ25 : zeroOf Try.prog 25 = some [numB .u64 (0), numB .u64 (0)] := by kernel_rfl
theorem TZ38 : zeroOf Try.prog 38 = some [numB .i64 (0), numB .i64 (0), numB .i64 (0), u32S ([]), numB .i64 (0), .lit (.string ((⟨#[]⟩ : ByteArray))), u32S ([]), u32S ([]), numB .i64 (0), numB .i64 (0), numB .i64 (0)] := by kernel_rfl
theorem TZ61 : zeroOf Try.prog 61 = some [numB .i64 (0), numB .i64 (0), boolB (false), u32S ([]), boolB (false), u32S ([])] := by kernel_rfl
theorem TZ67 : zeroOf Try.prog 67 = some [numB .u64 (0), numB .u64 (0), numB .u64 (0), numB .u64 (0)] := by kernel_rfl
end Go.VL
