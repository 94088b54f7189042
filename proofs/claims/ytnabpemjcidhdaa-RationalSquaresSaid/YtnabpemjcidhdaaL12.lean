/- RationalSquares returns true for every input and leaves the input as it was. No condition. -/
import Derived.Test.YtnabpemjcidhdaaK4
/- Walks over the Go functions, printed by a program of this session over the kit's print, and by hand. -/
set_option linter.unusedVariables false
set_option linter.unusedSimpArgs false
set_option maxRecDepth 100000
namespace Go.VL
open Go.Proofs
section
variable {x : Rat} {k : Nat}
theorem x34 (hx : bdR k x) (h : k ≤ 4096 := by decide) : VF Try.prog 34 [qR x] (sqRR (nu x) (de x)) := g34 (okR_x hx h)
/-- The root of a square. -/
theorem x34s (hx : bdR k x) (h : k + k ≤ 4096 := by decide) : VF Try.prog 34 [qR (x * x)] (.tup [qR (absR x), boolB true, numB .i64 0]) := by
  have e := x34 (bdR_mul hx hx) h
  rw [sq_of_sq] at e
  exact e
theorem x34n (hx : bdR k x) (h0 : x < 0) (h : k ≤ 4096 := by decide) : VF Try.prog 34 [qR x] (.tup [qB 0 0, boolB false, numB .i64 5]) := by
  have e := x34 hx h
  rw [sq_of_neg h0] at e
  exact e
theorem x34y {t : Rat} (hx : bdR k x) (ht : sqRR (nu x) (de x) = .tup [qR t, boolB true, numB .i64 0]) (h : k ≤ 4096 := by decide) : VF Try.prog 34 [qR x] (.tup [qR t, boolB true, numB .i64 0]) := by
  have e := x34 hx h
  rw [ht] at e
  exact e
theorem x34no (hx : bdR k x) (ht : sqRR (nu x) (de x) = .tup [qB 0 0, boolB false, numB .i64 0]) (h : k ≤ 4096 := by decide) : VF Try.prog 34 [qR x] (.tup [qB 0 0, boolB false, numB .i64 0]) := by
  have e := x34 hx h
  rw [ht] at e
  exact e
end
theorem g40z : VF Try.prog 40 [qB 0 0, qB 0 0] (rR 0 0 1) := by
  have h := g40i (zN 0) (zL 0) (zN 0) (zL 0) (zN 0) (zL 0) (zN 0) (zL 0) (len_zL' _) (len_zL' _) (len_zL' _) (len_zL' _) (ok32_zL _) (ok32_zL _) (ok32_zL _) (ok32_zL _)
  exact h (by rw [vR_z in_zero in_zero]; rfl)
theorem g12i (n : Bool) (A : List Int) (m : Bool) (D : List Int) (hv : VF Try.prog 29 [ratB n A m D, ratB n A m D, ratB n A m D, numB .i64 60] (boolB false)) : VF Try.prog 12 [.agg [boolB (n), u32S (A), boolB (m), u32S (D)]] (boolB true) := by
  exact VF_of P_mixed Try.func12 rfl rfl (by kernel_rfl) <| Sq <| Rg <| Vs (Bx 0 rfl) <| Vs (As rfl) <| Nx <| Sq <| Rg <| Vs (Cf rfl rfl (g15) rfl) <| Vs (As rfl) <| Nx <| Sq <| Sq <| Rg <| Vs (LdS TA27 TS27 rfl) <| Vs (LdS TA27 TS27 rfl) <| Vs (LdS TA27 TS27 rfl) <| Vs (Cf rfl rfl (hv) rfl) <| Vs (Un rfl) <| Nx <| Cy rfl <| Sq <| Rg <| Vs (Mv rfl) <| Vs (As rfl) <| Nx <| Re <| Tr <| Fi (l := [boolB (true)]) (Rc (resVar_tmp rfl rfl) Rn) rfl
theorem g12n {a : Rat} (ba : bdR 1920 a) (hv : VF Try.prog 29 [qR a, qR a, qR a, numB .i64 60] (boolB true)) (ha : a < 0) : VF Try.prog 12 [.agg [boolB (zN (nu (a))), u32S (zL (nu (a))), boolB (zN (de (a))), u32S (zL (de (a)))]] (boolB true) := by
  refine VF_of P_mixed Try.func12 rfl rfl (by kernel_rfl) <| Sq <| Rg <| Vs (Bx 0 rfl) <| Vs (As rfl) <| Nx <| Sq <| Rg <| Vs (Cf rfl rfl (g15) rfl) <| Vs (As rfl) <| Nx <| Sq <| Sq <| Rg <| Vs (LdS TA27 TS27 rfl) <| Vs (LdS TA27 TS27 rfl) <| Vs (LdS TA27 TS27 rfl) <| Vs (Cf rfl rfl (hv) rfl) <| Vs (Un rfl) <| Nx <| Cz rfl <| Ks <| Tg <| Sq <| Rg <| Vs (LdS TA27 TS27 rfl) <| Vs (LdS TA27 TS27 rfl) <| Vs (C0 rfl rfl (x40 ba ba)) <| Vs (Mv rfl) <| Vs (Xt rfl) <| Vs (Xt rfl) <| Vs (Al 15 TZ27 rfl) <| Vs (StS TS27 rfl) <| Vs (As rfl) <| Nx <| Sq <| Rg <| Vs (LdS TA27 TS27 rfl) <| Vs (C0 rfl rfl (x34s ba)) <| Vs (Mv rfl) <| Vs (Xt rfl) <| Vs (Xt rfl) <| Vs (Xt rfl) <| Vs (Al 24 TZ27 rfl) <| Vs (StS TS27 rfl) <| Vs (As rfl) <| Vs (As rfl) <| Nx <| Sq <| Sq <| Rg <| Vs (Mv rfl) <| Vs (Bi (c := .bool false) rfl) <| Vs (Mv rfl) <| Vs (Mv rfl) <| Vs (Bi (c := .bool false) rfl) <| Vs (Pk rfl) <| Vs (Mv rfl) <| Vs (Mv rfl) <| Vs (Un rfl) <| Vs (Pk rfl) <| Vs (Mv rfl) <| Vs (LdS TA27 TS27 rfl) <| Vs (Cf rfl rfl (x36 (bdR_abs ba)) rfl) <| Vs (Kb (show decide (cmpR (absR (a)) 0 < 0) = false from (decide_eq_false (fun h => by have h1 := cmpR_lt.1 h; have h2 := absR_nn a; grind))) (Bi rfl)) <| Vs (Pk rfl) <| Nx <| Cz rfl <| Ks <| Tg <| Sq <| Rg <| Vs (LdS TA27 TS27 rfl) <| Vs (LdS TA27 TS27 rfl) <| Vs (C0 rfl rfl (x39 (bdR_abs ba) ba)) <| Vs (Mv rfl) <| Vs (Xt rfl) <| Vs (Xt rfl) <| Vs (Al 49 TZ27 rfl) <| Vs (StS TS27 rfl) <| Vs (As rfl) <| Nx <| Sq <| Rg <| Vs (LdS TA27 TS27 rfl) <| Vs (LdS TA27 TS27 rfl) <| Vs (C0 rfl rfl (x44 (bdR_abs ba) ba)) <| Vs (Mv rfl) <| Vs (Xt rfl) <| Vs (Xt rfl) <| Vs (Al 58 TZ27 rfl) <| Vs (StS TS27 rfl) <| Vs (As rfl) <| Nx <| Sq <| Sq <| Rg <| Vs (Mv rfl) <| Vs (Bi (c := .bool false) rfl) <| Vs (Mv rfl) <| Vs (Mv rfl) <| Vs (Bi (c := .bool false) rfl) <| Vs (Pk rfl) <| Vs (Mv rfl) <| Vs (LdS TA27 TS27 rfl) <| Vs (Cf rfl rfl (x36 (bdR_add (bdR_abs ba) ba)) rfl) <| Vs (Bi rfl) <| Vs (Mv rfl) <| Sp 74 rfl (fun hc1 => ?_) (fun hc1 => ?_)
  · replace hc1 := bne_iff_ne.1 hc1
    exact Vs (LdS TA27 TS27 rfl) <| Vs (Cf rfl rfl (x36 (bdR_sub (bdR_abs ba) ba)) rfl) <| Vs (Kb (show (cmpR ((absR (a) - a)) 0 != 0) = false from (abs_dif hc1)) (Bi rfl)) <| Vs (Pk rfl) <| Vs (Pk rfl) <| Nx <| Cz rfl <| Ks <| Tg <| Sq <| Rg <| Vs (LdS TA27 TS27 rfl) <| Vs (C0 rfl rfl (x34n ba ha)) <| Vs (Mv rfl) <| Vs (Xt rfl) <| Vs (Xt rfl) <| Vs (Xt rfl) <| Vs (Al 83 TZ27 rfl) <| Vs (StS TS27 rfl) <| Vs (As rfl) <| Vs (As rfl) <| Nx <| Sq <| Sq <| Rg <| Vs (LdS TA27 TS27 rfl) <| Vs (Cf rfl rfl (x36 ba) rfl) <| Vs (Kb (show decide (cmpR (a) 0 < 0) = true from (decide_eq_true (cmpR_lt.2 ha))) (Bi rfl)) <| Nx <| Cy rfl <| Sq <| Rg <| Vs (Mv rfl) <| Vs (Mv rfl) <| Vs (Mv rfl) <| Vs (Bi (c := .bool true) rfl) <| Vs (Pk rfl) <| Vs (As rfl) <| Nx <| Re <| Tr <| Fi (l := [boolB (true)]) (Rc (resVar_tmp rfl rfl) Rn) rfl
  · replace hc1 := bne_eq_false_iff_eq.1 hc1
    exact Sk rfl <| Sk rfl <| Sk rfl <| Vs (Pk rfl) <| Vs (Pk rfl) <| Nx <| Cz rfl <| Ks <| Tg <| Sq <| Rg <| Vs (LdS TA27 TS27 rfl) <| Vs (C0 rfl rfl (x34n ba ha)) <| Vs (Mv rfl) <| Vs (Xt rfl) <| Vs (Xt rfl) <| Vs (Xt rfl) <| Vs (Al 83 TZ27 rfl) <| Vs (StS TS27 rfl) <| Vs (As rfl) <| Vs (As rfl) <| Nx <| Sq <| Sq <| Rg <| Vs (LdS TA27 TS27 rfl) <| Vs (Cf rfl rfl (x36 ba) rfl) <| Vs (Kb (show decide (cmpR (a) 0 < 0) = true from (decide_eq_true (cmpR_lt.2 ha))) (Bi rfl)) <| Nx <| Cy rfl <| Sq <| Rg <| Vs (Mv rfl) <| Vs (Mv rfl) <| Vs (Mv rfl) <| Vs (Bi (c := .bool true) rfl) <| Vs (Pk rfl) <| Vs (As rfl) <| Nx <| Re <| Tr <| Fi (l := [boolB (true)]) (Rc (resVar_tmp rfl rfl) Rn) rfl
theorem g12y {a : Rat} (ba : bdR 1920 a) (hv : VF Try.prog 29 [qR a, qR a, qR a, numB .i64 60] (boolB true)) (ha : ¬ a < 0) {t : Rat} (bt : bdR 1920 t) (ht : sqRR (nu a) (de a) = .tup [qR t, boolB true, numB .i64 0]) (e : t * t = a) : VF Try.prog 12 [.agg [boolB (zN (nu (a))), u32S (zL (nu (a))), boolB (zN (de (a))), u32S (zL (de (a)))]] (boolB true) := by
  refine VF_of P_mixed Try.func12 rfl rfl (by kernel_rfl) <| Sq <| Rg <| Vs (Bx 0 rfl) <| Vs (As rfl) <| Nx <| Sq <| Rg <| Vs (Cf rfl rfl (g15) rfl) <| Vs (As rfl) <| Nx <| Sq <| Sq <| Rg <| Vs (LdS TA27 TS27 rfl) <| Vs (LdS TA27 TS27 rfl) <| Vs (LdS TA27 TS27 rfl) <| Vs (Cf rfl rfl (hv) rfl) <| Vs (Un rfl) <| Nx <| Cz rfl <| Ks <| Tg <| Sq <| Rg <| Vs (LdS TA27 TS27 rfl) <| Vs (LdS TA27 TS27 rfl) <| Vs (C0 rfl rfl (x40 ba ba)) <| Vs (Mv rfl) <| Vs (Xt rfl) <| Vs (Xt rfl) <| Vs (Al 15 TZ27 rfl) <| Vs (StS TS27 rfl) <| Vs (As rfl) <| Nx <| Sq <| Rg <| Vs (LdS TA27 TS27 rfl) <| Vs (C0 rfl rfl (x34s ba)) <| Vs (Mv rfl) <| Vs (Xt rfl) <| Vs (Xt rfl) <| Vs (Xt rfl) <| Vs (Al 24 TZ27 rfl) <| Vs (StS TS27 rfl) <| Vs (As rfl) <| Vs (As rfl) <| Nx <| Sq <| Sq <| Rg <| Vs (Mv rfl) <| Vs (Bi (c := .bool false) rfl) <| Vs (Mv rfl) <| Vs (Mv rfl) <| Vs (Bi (c := .bool false) rfl) <| Vs (Pk rfl) <| Vs (Mv rfl) <| Vs (Mv rfl) <| Vs (Un rfl) <| Vs (Pk rfl) <| Vs (Mv rfl) <| Vs (LdS TA27 TS27 rfl) <| Vs (Cf rfl rfl (x36 (bdR_abs ba)) rfl) <| Vs (Kb (show decide (cmpR (absR (a)) 0 < 0) = false from (decide_eq_false (fun h => by have h1 := cmpR_lt.1 h; have h2 := absR_nn a; grind))) (Bi rfl)) <| Vs (Pk rfl) <| Nx <| Cz rfl <| Ks <| Tg <| Sq <| Rg <| Vs (LdS TA27 TS27 rfl) <| Vs (LdS TA27 TS27 rfl) <| Vs (C0 rfl rfl (x39 (bdR_abs ba) ba)) <| Vs (Mv rfl) <| Vs (Xt rfl) <| Vs (Xt rfl) <| Vs (Al 49 TZ27 rfl) <| Vs (StS TS27 rfl) <| Vs (As rfl) <| Nx <| Sq <| Rg <| Vs (LdS TA27 TS27 rfl) <| Vs (LdS TA27 TS27 rfl) <| Vs (C0 rfl rfl (x44 (bdR_abs ba) ba)) <| Vs (Mv rfl) <| Vs (Xt rfl) <| Vs (Xt rfl) <| Vs (Al 58 TZ27 rfl) <| Vs (StS TS27 rfl) <| Vs (As rfl) <| Nx <| Sq <| Sq <| Rg <| Vs (Mv rfl) <| Vs (Bi (c := .bool false) rfl) <| Vs (Mv rfl) <| Vs (Mv rfl) <| Vs (Bi (c := .bool false) rfl) <| Vs (Pk rfl) <| Vs (Mv rfl) <| Vs (LdS TA27 TS27 rfl) <| Vs (Cf rfl rfl (x36 (bdR_add (bdR_abs ba) ba)) rfl) <| Vs (Bi rfl) <| Vs (Mv rfl) <| Sp 74 rfl (fun hc1 => ?_) (fun hc1 => ?_)
  · replace hc1 := bne_iff_ne.1 hc1
    exact Vs (LdS TA27 TS27 rfl) <| Vs (Cf rfl rfl (x36 (bdR_sub (bdR_abs ba) ba)) rfl) <| Vs (Kb (show (cmpR ((absR (a) - a)) 0 != 0) = false from (abs_dif hc1)) (Bi rfl)) <| Vs (Pk rfl) <| Vs (Pk rfl) <| Nx <| Cz rfl <| Ks <| Tg <| Sq <| Rg <| Vs (LdS TA27 TS27 rfl) <| Vs (C0 rfl rfl (x34y ba ht)) <| Vs (Mv rfl) <| Vs (Xt rfl) <| Vs (Xt rfl) <| Vs (Xt rfl) <| Vs (Al 83 TZ27 rfl) <| Vs (StS TS27 rfl) <| Vs (As rfl) <| Vs (As rfl) <| Nx <| Sq <| Sq <| Rg <| Vs (LdS TA27 TS27 rfl) <| Vs (Cf rfl rfl (x36 ba) rfl) <| Vs (Kb (show decide (cmpR (a) 0 < 0) = false from (decide_eq_false (fun h => ha (cmpR_lt.1 h)))) (Bi rfl)) <| Nx <| Cz rfl <| Ks <| Tg <| Sq <| Sq <| Rg <| Vs (Mv rfl) <| Vs (Bi (c := .bool false) rfl) <| Nx <| Cz rfl <| Ks <| Tg <| Sq <| Rg <| Vs (LdS TA27 TS27 rfl) <| Vs (LdS TA27 TS27 rfl) <| Vs (C0 rfl rfl (x40 bt bt)) <| Vs (Mv rfl) <| Vs (Xt rfl) <| Vs (Xt rfl) <| Vs (Al 98 TZ27 rfl) <| Vs (StS TS27 rfl) <| Vs (As rfl) <| Nx <| Sq <| Rg <| Vs (Mv rfl) <| Vs (Mv rfl) <| Vs (Mv rfl) <| Vs (Un rfl) <| Vs (Mv rfl) <| Vs (Mv rfl) <| Vs (Bi (c := .bool true) rfl) <| Vs (Mv rfl) <| Vs (LdS TA27 TS27 rfl) <| Vs (LdS TA27 TS27 rfl) <| Vs (Cf rfl rfl (x22t (bdR_mul bt bt) ba (by grind)) rfl) <| Vs (Pk rfl) <| Vs (Pk rfl) <| Vs (Pk rfl) <| Vs (As rfl) <| Nx <| Re <| Fi (l := [boolB (true)]) (Rc (resVar_tmp rfl rfl) Rn) rfl
  · replace hc1 := bne_eq_false_iff_eq.1 hc1
    exact Sk rfl <| Sk rfl <| Sk rfl <| Vs (Pk rfl) <| Vs (Pk rfl) <| Nx <| Cz rfl <| Ks <| Tg <| Sq <| Rg <| Vs (LdS TA27 TS27 rfl) <| Vs (C0 rfl rfl (x34y ba ht)) <| Vs (Mv rfl) <| Vs (Xt rfl) <| Vs (Xt rfl) <| Vs (Xt rfl) <| Vs (Al 83 TZ27 rfl) <| Vs (StS TS27 rfl) <| Vs (As rfl) <| Vs (As rfl) <| Nx <| Sq <| Sq <| Rg <| Vs (LdS TA27 TS27 rfl) <| Vs (Cf rfl rfl (x36 ba) rfl) <| Vs (Kb (show decide (cmpR (a) 0 < 0) = false from (decide_eq_false (fun h => ha (cmpR_lt.1 h)))) (Bi rfl)) <| Nx <| Cz rfl <| Ks <| Tg <| Sq <| Sq <| Rg <| Vs (Mv rfl) <| Vs (Bi (c := .bool false) rfl) <| Nx <| Cz rfl <| Ks <| Tg <| Sq <| Rg <| Vs (LdS TA27 TS27 rfl) <| Vs (LdS TA27 TS27 rfl) <| Vs (C0 rfl rfl (x40 bt bt)) <| Vs (Mv rfl) <| Vs (Xt rfl) <| Vs (Xt rfl) <| Vs (Al 98 TZ27 rfl) <| Vs (StS TS27 rfl) <| Vs (As rfl) <| Nx <| Sq <| Rg <| Vs (Mv rfl) <| Vs (Mv rfl) <| Vs (Mv rfl) <| Vs (Un rfl) <| Vs (Mv rfl) <| Vs (Mv rfl) <| Vs (Bi (c := .bool true) rfl) <| Vs (Mv rfl) <| Vs (LdS TA27 TS27 rfl) <| Vs (LdS TA27 TS27 rfl) <| Vs (Cf rfl rfl (x22t (bdR_mul bt bt) ba (by grind)) rfl) <| Vs (Pk rfl) <| Vs (Pk rfl) <| Vs (Pk rfl) <| Vs (As rfl) <| Nx <| Re <| Fi (l := [boolB (true)]) (Rc (resVar_tmp rfl rfl) Rn) rfl
theorem g12o {a : Rat} (ba : bdR 1920 a) (hv : VF Try.prog 29 [qR a, qR a, qR a, numB .i64 60] (boolB true)) (ha : ¬ a < 0) (ht : sqRR (nu a) (de a) = .tup [qB 0 0, boolB false, numB .i64 0]) : VF Try.prog 12 [.agg [boolB (zN (nu (a))), u32S (zL (nu (a))), boolB (zN (de (a))), u32S (zL (de (a)))]] (boolB true) := by
  refine VF_of P_mixed Try.func12 rfl rfl (by kernel_rfl) <| Sq <| Rg <| Vs (Bx 0 rfl) <| Vs (As rfl) <| Nx <| Sq <| Rg <| Vs (Cf rfl rfl (g15) rfl) <| Vs (As rfl) <| Nx <| Sq <| Sq <| Rg <| Vs (LdS TA27 TS27 rfl) <| Vs (LdS TA27 TS27 rfl) <| Vs (LdS TA27 TS27 rfl) <| Vs (Cf rfl rfl (hv) rfl) <| Vs (Un rfl) <| Nx <| Cz rfl <| Ks <| Tg <| Sq <| Rg <| Vs (LdS TA27 TS27 rfl) <| Vs (LdS TA27 TS27 rfl) <| Vs (C0 rfl rfl (x40 ba ba)) <| Vs (Mv rfl) <| Vs (Xt rfl) <| Vs (Xt rfl) <| Vs (Al 15 TZ27 rfl) <| Vs (StS TS27 rfl) <| Vs (As rfl) <| Nx <| Sq <| Rg <| Vs (LdS TA27 TS27 rfl) <| Vs (C0 rfl rfl (x34s ba)) <| Vs (Mv rfl) <| Vs (Xt rfl) <| Vs (Xt rfl) <| Vs (Xt rfl) <| Vs (Al 24 TZ27 rfl) <| Vs (StS TS27 rfl) <| Vs (As rfl) <| Vs (As rfl) <| Nx <| Sq <| Sq <| Rg <| Vs (Mv rfl) <| Vs (Bi (c := .bool false) rfl) <| Vs (Mv rfl) <| Vs (Mv rfl) <| Vs (Bi (c := .bool false) rfl) <| Vs (Pk rfl) <| Vs (Mv rfl) <| Vs (Mv rfl) <| Vs (Un rfl) <| Vs (Pk rfl) <| Vs (Mv rfl) <| Vs (LdS TA27 TS27 rfl) <| Vs (Cf rfl rfl (x36 (bdR_abs ba)) rfl) <| Vs (Kb (show decide (cmpR (absR (a)) 0 < 0) = false from (decide_eq_false (fun h => by have h1 := cmpR_lt.1 h; have h2 := absR_nn a; grind))) (Bi rfl)) <| Vs (Pk rfl) <| Nx <| Cz rfl <| Ks <| Tg <| Sq <| Rg <| Vs (LdS TA27 TS27 rfl) <| Vs (LdS TA27 TS27 rfl) <| Vs (C0 rfl rfl (x39 (bdR_abs ba) ba)) <| Vs (Mv rfl) <| Vs (Xt rfl) <| Vs (Xt rfl) <| Vs (Al 49 TZ27 rfl) <| Vs (StS TS27 rfl) <| Vs (As rfl) <| Nx <| Sq <| Rg <| Vs (LdS TA27 TS27 rfl) <| Vs (LdS TA27 TS27 rfl) <| Vs (C0 rfl rfl (x44 (bdR_abs ba) ba)) <| Vs (Mv rfl) <| Vs (Xt rfl) <| Vs (Xt rfl) <| Vs (Al 58 TZ27 rfl) <| Vs (StS TS27 rfl) <| Vs (As rfl) <| Nx <| Sq <| Sq <| Rg <| Vs (Mv rfl) <| Vs (Bi (c := .bool false) rfl) <| Vs (Mv rfl) <| Vs (Mv rfl) <| Vs (Bi (c := .bool false) rfl) <| Vs (Pk rfl) <| Vs (Mv rfl) <| Vs (LdS TA27 TS27 rfl) <| Vs (Cf rfl rfl (x36 (bdR_add (bdR_abs ba) ba)) rfl) <| Vs (Bi rfl) <| Vs (Mv rfl) <| Sp 74 rfl (fun hc1 => ?_) (fun hc1 => ?_)
  · replace hc1 := bne_iff_ne.1 hc1
    exact Vs (LdS TA27 TS27 rfl) <| Vs (Cf rfl rfl (x36 (bdR_sub (bdR_abs ba) ba)) rfl) <| Vs (Kb (show (cmpR ((absR (a) - a)) 0 != 0) = false from (abs_dif hc1)) (Bi rfl)) <| Vs (Pk rfl) <| Vs (Pk rfl) <| Nx <| Cz rfl <| Ks <| Tg <| Sq <| Rg <| Vs (LdS TA27 TS27 rfl) <| Vs (C0 rfl rfl (x34no ba ht)) <| Vs (Mv rfl) <| Vs (Xt rfl) <| Vs (Xt rfl) <| Vs (Xt rfl) <| Vs (Al 83 TZ27 rfl) <| Vs (StS TS27 rfl) <| Vs (As rfl) <| Vs (As rfl) <| Nx <| Sq <| Sq <| Rg <| Vs (LdS TA27 TS27 rfl) <| Vs (Cf rfl rfl (x36 ba) rfl) <| Vs (Kb (show decide (cmpR (a) 0 < 0) = false from (decide_eq_false (fun h => ha (cmpR_lt.1 h)))) (Bi rfl)) <| Nx <| Cz rfl <| Ks <| Tg <| Sq <| Sq <| Rg <| Vs (Mv rfl) <| Vs (Bi (c := .bool false) rfl) <| Nx <| Cz rfl <| Ks <| Tg <| Sq <| Rg <| Vs (LdS TA27 TS27 rfl) <| Vs (LdS TA27 TS27 rfl) <| Vs (C0 rfl rfl (g40z)) <| Vs (Mv rfl) <| Vs (Xt rfl) <| Vs (Xt rfl) <| Vs (Al 98 TZ27 rfl) <| Vs (StS TS27 rfl) <| Vs (As rfl) <| Nx <| Sq <| Rg <| Vs (Mv rfl) <| Vs (Mv rfl) <| Vs (Mv rfl) <| Vs (Un rfl) <| Vs (Mv rfl) <| Sk rfl <| Sk rfl <| Sk rfl <| Sk rfl <| Sk rfl <| Sk rfl <| Sk rfl <| Vs (Pk rfl) <| Vs (Pk rfl) <| Vs (As rfl) <| Nx <| Re <| Fi (l := [boolB (true)]) (Rc (resVar_tmp rfl rfl) Rn) rfl
  · replace hc1 := bne_eq_false_iff_eq.1 hc1
    exact Sk rfl <| Sk rfl <| Sk rfl <| Vs (Pk rfl) <| Vs (Pk rfl) <| Nx <| Cz rfl <| Ks <| Tg <| Sq <| Rg <| Vs (LdS TA27 TS27 rfl) <| Vs (C0 rfl rfl (x34no ba ht)) <| Vs (Mv rfl) <| Vs (Xt rfl) <| Vs (Xt rfl) <| Vs (Xt rfl) <| Vs (Al 83 TZ27 rfl) <| Vs (StS TS27 rfl) <| Vs (As rfl) <| Vs (As rfl) <| Nx <| Sq <| Sq <| Rg <| Vs (LdS TA27 TS27 rfl) <| Vs (Cf rfl rfl (x36 ba) rfl) <| Vs (Kb (show decide (cmpR (a) 0 < 0) = false from (decide_eq_false (fun h => ha (cmpR_lt.1 h)))) (Bi rfl)) <| Nx <| Cz rfl <| Ks <| Tg <| Sq <| Sq <| Rg <| Vs (Mv rfl) <| Vs (Bi (c := .bool false) rfl) <| Nx <| Cz rfl <| Ks <| Tg <| Sq <| Rg <| Vs (LdS TA27 TS27 rfl) <| Vs (LdS TA27 TS27 rfl) <| Vs (C0 rfl rfl (g40z)) <| Vs (Mv rfl) <| Vs (Xt rfl) <| Vs (Xt rfl) <| Vs (Al 98 TZ27 rfl) <| Vs (StS TS27 rfl) <| Vs (As rfl) <| Nx <| Sq <| Rg <| Vs (Mv rfl) <| Vs (Mv rfl) <| Vs (Mv rfl) <| Vs (Un rfl) <| Vs (Mv rfl) <| Sk rfl <| Sk rfl <| Sk rfl <| Sk rfl <| Sk rfl <| Sk rfl <| Sk rfl <| Vs (Pk rfl) <| Vs (Pk rfl) <| Vs (As rfl) <| Nx <| Re <| Fi (l := [boolB (true)]) (Rc (resVar_tmp rfl rfl) Rn) rfl
theorem g12 (n : Bool) (A : List Int) (m : Bool) (D : List Int) (hA : A.length ≤ 9223372036854775807) (hD : D.length ≤ 9223372036854775807) (oA : ok32 A) (oD : ok32 D) : VF Try.prog 12 [ratB n A m D] (boolB true) := by
  have h := g29 n A m D n A m D n A m D hA hD hA hD hA hD oA oD oA oD oA oD 60
  cases e : v3 n A m D n A m D n A m D 60 with
  | false => rw [e] at h; exact g12i n A m D h
  | true =>
    rw [e] at h
    obtain ⟨c0, c1, c2⟩ := v3_get e
    obtain ⟨a, ⟨e01, e02, e03, e04⟩, ba⟩ := v_rat 60 oA oD c0.1 c0.2
    rw [e01, e02, e03, e04] at h ⊢
    by_cases ha : a < 0
    · exact g12n ba h ha
    · rcases sq_cases ha ba with ⟨t, bt, ht, e⟩ | ht
      · exact g12y ba h ha bt ht e
      · exact g12o ba h ha ht
end Go.VL

set_option linter.unusedVariables false
set_option linter.unusedSimpArgs false
set_option maxRecDepth 100000
namespace Go.Proofs.Ytnabpemjcidhdaa
open Go.ChangeShapes Go.WideShapes Go.ChangeAt Go.RowKit Go.VL

theorem rationalSquares_lifted (os : Os) (started : os.Started) (H : Type) (enc : TypeId × Value → H) :
    ReturnsInHanded {} Try.checked os 12 .any (Rows.rationalSquaresSpec.pre6 enc Try.prog Try.f12 Rows.rationalSquaresRow.domain false) (Rows.rationalSquaresSpec.post enc Try.prog Try.f12 false true false false) := by
  refine returnsInHanded_of_change (C := Try.checked) Try_own started (by kernel_rfl) Try.func12
    (ChangeSpec.witness6 (enc := enc) (C := Try.checked) false ⟨#[], #[.agg #[.bool false, .slice none 0 0, .bool false, .slice none 0 0]], []⟩ 8 (by kernel_rfl) (by kernel_rfl) (by kernel_rfl) (by kernel_rfl)) ?_
  intro W base args ds gs before hval0 hW hcnd _
  have hval : ∀ (j : Nat) t v, Try.f12.params[j]? = some t → args[j]? = some v → Value.okWide Try.prog W .any base t v := hval0
  have hW' := hW
  obtain ⟨p, q, hA0, hV, rfl, hfz, hnd⟩ := hW
  have hA : DataW.TrodAll enc Try.prog W 0 (fun _ => true) true Try.f12.params.toList args.toList ds p := hA0
  have hA1 := hA
  rw [Try.params12] at hA hval
  obtain ⟨v0, d0, rfl, rfl, h0⟩ := trodAll_one hA
  obtain ⟨rfl, rfl⟩ := trodVars_none hV
  obtain ⟨n0, A0, m0, D0, r0, ⟨o0, s0⟩, l0, k0⟩ := open_rat (hval 0 27 v0 rfl rfl) h0
  simp only [List.append_nil] at hW'
  have hlt : ∀ x ∈ p, x.block < W.heap.size := fun x hx => hW'.lt x hx
  have hread : ∀ t ∈ Try.f12.params.toList, Try.prog.readableRec t = true ∧ t < Try.prog.types.size := by rw [Try.params12]; exact types_cons T27 (types_nil)
  refine ((g12 n0 A0 m0 D0 l0 k0 o0 s0).runs (xs := [v0]) rfl (reps_cons r0 reps_nil)).mono fun e W' ⟨he, hb⟩ => ?_
  subst he
  exact ⟨_, rfl, post_of_below (pa := _) (pv := []) hW' (fun _ _ _ => trodAll_mk1 shut_true) (fun sp hsp => args_stay Try_laidOut hb hread hA1 hlt hsp) (fun _ _ => rfl) (by simp) hb (ok_one (by kernel_rfl) rfl ok_true)⟩

theorem rationalSquares_facts : joinedFacts Try.pinned.checked.prog 12 Try.f12 Rows.rationalSquaresSpec Rows.rationalSquaresRow = true := by
  unfold joinedFacts
  rw [head_may, head_lifts, head_make]
  kernel_rfl

theorem rationalSquares_holds : Rows.RationalSquaresSaid :=
  OpenClaim.holds_of_wide 12 Try.f12 rfl rfl rfl rfl rfl rfl rfl ⟨rfl, rfl, rfl, rfl, rfl⟩ rfl rfl rfl rfl rfl (by kernel_rfl) Try.func12 rationalSquares_facts
    (of_decide_eq_true (by kernel_rfl)) (by unfold Func.isWrapper; rw [if_neg (of_decide_eq_false (by kernel_rfl))]; exact ⟨rfl, rfl⟩)
    (fun os started H enc _ => rationalSquares_lifted os started H enc)

end Go.Proofs.Ytnabpemjcidhdaa
