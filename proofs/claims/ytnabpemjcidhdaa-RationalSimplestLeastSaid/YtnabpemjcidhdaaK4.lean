/- A small program logic over the translated Go code, plain laws, and walks over the functions: several texts in one. No condition. -/
import Derived.Test.YtnabpemjcidhdaaK3
/- Walks over the Go functions, printed by a program of this session over the kit's print, and by hand. -/
set_option linter.unusedVariables false
set_option linter.unusedSimpArgs false
namespace Go.VL
open Go.Proofs
theorem g39i (n : Bool) (A : List Int) (m : Bool) (D : List Int) (n2 : Bool) (A2 : List Int) (m2 : Bool) (D2 : List Int) (hA : A.length ≤ 9223372036854775807) (hD : D.length ≤ 9223372036854775807) (hA2 : A2.length ≤ 9223372036854775807) (hD2 : D2.length ≤ 9223372036854775807) (oA : ok32 A) (oD : ok32 D) (oA2 : ok32 A2) (oD2 : ok32 D2) (h : (vR n A m D && vR n2 A2 m2 D2) = false) : VF Try.prog 39 [.agg [boolB (n), u32S (A), boolB (m), u32S (D)], .agg [boolB (n2), u32S (A2), boolB (m2), u32S (D2)]] (rR 0 0 1) := by
  exact VF_of P_mixed Try.func39 rfl rfl (by kernel_rfl) <| Sq <| Rg <| Vs (Bx 0 rfl) <| Vs (Bx 1 rfl) <| Vs (Al 2 TZ27 rfl) <| Vs (As rfl) <| Nx <| Sq <| Rg <| Vs (LdS TA27 TS27 rfl) <| Vs (LdS TA27 TS27 rfl) <| Vs (Mf rfl) <| Vs (Gd [0, 1] [] (us := [(0, some (⟨4, [vB (n), vS (A), vB (m), vS (D)], true⟩)), (1, some (⟨4, [vB (n2), vS (A2), vB (m2), vS (D2)], true⟩))]) rfl (g82i 83 n A m D n2 A2 m2 D2 hA hD hA2 hD2 oA oD oA2 oD2 h) rfl) <| Vs (Xt rfl) <| Vs (Xt rfl) <| Vs (StS TS27 rfl) <| Vs (As rfl) <| Nx <| Re <| Fi (l := [.agg [boolB (zN (0)), u32S (zL (0)), boolB (zN (0)), u32S (zL (0))], numB .i64 (1)]) (Rc (resVar_cell rfl rfl TA27 TS27 (Nat.le_of_ble_eq_true rfl) rfl) (Rc (resVar_tmp rfl rfl) Rn)) rfl
theorem g39 {p q r s : Int} (ha : okR p q) (hb : okR r s) : VF Try.prog 39 [.agg [boolB (zN (p)), u32S (zL (p)), boolB (zN (q)), u32S (zL (q))], .agg [boolB (zN (r)), u32S (zL (r)), boolB (zN (s)), u32S (zL (s))]] (rR (qN (addOk p q r s) (p * s + r * q) (q * s)) (qD (addOk p q r s) (p * s + r * q) (q * s)) (qF (addOk p q r s))) := by
  exact VF_of P_mixed Try.func39 rfl rfl (by kernel_rfl) <| Sq <| Rg <| Vs (Bx 0 rfl) <| Vs (Bx 1 rfl) <| Vs (Al 2 TZ27 rfl) <| Vs (As rfl) <| Nx <| Sq <| Rg <| Vs (LdS TA27 TS27 rfl) <| Vs (LdS TA27 TS27 rfl) <| Vs (Mf rfl) <| Vs (Gd [0, 1] [] (us := [(0, some (⟨4, [vB (zN (p)), vS (zL (p)), vB (zN (q)), vS (zL (q))], true⟩)), (1, some (⟨4, [vB (zN (r)), vS (zL (r)), vB (zN (s)), vS (zL (s))], true⟩))]) rfl (g82 ha hb (in_mv _ _) (in_mv _ _) (add_den ha hb) (g83 ha.2.2.1 ha.2.2.2 hb.2.2.1 hb.2.2.2)) rfl) <| Vs (Xt rfl) <| Vs (Xt rfl) <| Vs (StS TS27 rfl) <| Vs (As rfl) <| Nx <| Re <| Fi (l := [.agg [boolB (zN (opN (aE p q r s) (aN p q r s) (aD p q r s))), u32S (zL (opN (aE p q r s) (aN p q r s) (aD p q r s))), boolB (zN (opD (aE p q r s) (aN p q r s) (aD p q r s))), u32S (zL (opD (aE p q r s) (aN p q r s) (aD p q r s)))], numB .i64 (aE p q r s)]) (Rc (resVar_cell rfl rfl TA27 TS27 (Nat.le_of_ble_eq_true rfl) rfl) (Rc (resVar_tmp rfl rfl) Rn)) (op_close (add_spec _ _ _ _)).symm
theorem g44i (n : Bool) (A : List Int) (m : Bool) (D : List Int) (n2 : Bool) (A2 : List Int) (m2 : Bool) (D2 : List Int) (hA : A.length ≤ 9223372036854775807) (hD : D.length ≤ 9223372036854775807) (hA2 : A2.length ≤ 9223372036854775807) (hD2 : D2.length ≤ 9223372036854775807) (oA : ok32 A) (oD : ok32 D) (oA2 : ok32 A2) (oD2 : ok32 D2) (h : (vR n A m D && vR n2 A2 m2 D2) = false) : VF Try.prog 44 [.agg [boolB (n), u32S (A), boolB (m), u32S (D)], .agg [boolB (n2), u32S (A2), boolB (m2), u32S (D2)]] (rR 0 0 1) := by
  exact VF_of P_mixed Try.func44 rfl rfl (by kernel_rfl) <| Sq <| Rg <| Vs (Bx 0 rfl) <| Vs (Bx 1 rfl) <| Vs (Al 2 TZ27 rfl) <| Vs (As rfl) <| Nx <| Sq <| Rg <| Vs (LdS TA27 TS27 rfl) <| Vs (LdS TA27 TS27 rfl) <| Vs (Mf rfl) <| Vs (Gd [0, 1] [] (us := [(0, some (⟨4, [vB (n), vS (A), vB (m), vS (D)], true⟩)), (1, some (⟨4, [vB (n2), vS (A2), vB (m2), vS (D2)], true⟩))]) rfl (g82i 91 n A m D n2 A2 m2 D2 hA hD hA2 hD2 oA oD oA2 oD2 h) rfl) <| Vs (Xt rfl) <| Vs (Xt rfl) <| Vs (StS TS27 rfl) <| Vs (As rfl) <| Nx <| Re <| Fi (l := [.agg [boolB (zN (0)), u32S (zL (0)), boolB (zN (0)), u32S (zL (0))], numB .i64 (1)]) (Rc (resVar_cell rfl rfl TA27 TS27 (Nat.le_of_ble_eq_true rfl) rfl) (Rc (resVar_tmp rfl rfl) Rn)) rfl
theorem g44 {p q r s : Int} (ha : okR p q) (hb : okR r s) : VF Try.prog 44 [.agg [boolB (zN (p)), u32S (zL (p)), boolB (zN (q)), u32S (zL (q))], .agg [boolB (zN (r)), u32S (zL (r)), boolB (zN (s)), u32S (zL (s))]] (rR (qN (subOk p q r s) (p * s - r * q) (q * s)) (qD (subOk p q r s) (p * s - r * q) (q * s)) (qF (subOk p q r s))) := by
  exact VF_of P_mixed Try.func44 rfl rfl (by kernel_rfl) <| Sq <| Rg <| Vs (Bx 0 rfl) <| Vs (Bx 1 rfl) <| Vs (Al 2 TZ27 rfl) <| Vs (As rfl) <| Nx <| Sq <| Rg <| Vs (LdS TA27 TS27 rfl) <| Vs (LdS TA27 TS27 rfl) <| Vs (Mf rfl) <| Vs (Gd [0, 1] [] (us := [(0, some (⟨4, [vB (zN (p)), vS (zL (p)), vB (zN (q)), vS (zL (q))], true⟩)), (1, some (⟨4, [vB (zN (r)), vS (zL (r)), vB (zN (s)), vS (zL (s))], true⟩))]) rfl (g82 ha hb (in_mv _ _) (in_mv _ _) (sub_den ha hb) (g91 ha.2.2.1 ha.2.2.2 hb.2.2.1 hb.2.2.2)) rfl) <| Vs (Xt rfl) <| Vs (Xt rfl) <| Vs (StS TS27 rfl) <| Vs (As rfl) <| Nx <| Re <| Fi (l := [.agg [boolB (zN (opN (sE p q r s) (sN p q r s) (sD p q r s))), u32S (zL (opN (sE p q r s) (sN p q r s) (sD p q r s))), boolB (zN (opD (sE p q r s) (sN p q r s) (sD p q r s))), u32S (zL (opD (sE p q r s) (sN p q r s) (sD p q r s)))], numB .i64 (sE p q r s)]) (Rc (resVar_cell rfl rfl TA27 TS27 (Nat.le_of_ble_eq_true rfl) rfl) (Rc (resVar_tmp rfl rfl) Rn)) (op_close (sub_spec _ _ _ _)).symm
theorem g40i (n : Bool) (A : List Int) (m : Bool) (D : List Int) (n2 : Bool) (A2 : List Int) (m2 : Bool) (D2 : List Int) (hA : A.length ≤ 9223372036854775807) (hD : D.length ≤ 9223372036854775807) (hA2 : A2.length ≤ 9223372036854775807) (hD2 : D2.length ≤ 9223372036854775807) (oA : ok32 A) (oD : ok32 D) (oA2 : ok32 A2) (oD2 : ok32 D2) (h : (vR n A m D && vR n2 A2 m2 D2) = false) : VF Try.prog 40 [.agg [boolB (n), u32S (A), boolB (m), u32S (D)], .agg [boolB (n2), u32S (A2), boolB (m2), u32S (D2)]] (rR 0 0 1) := by
  exact VF_of P_mixed Try.func40 rfl rfl (by kernel_rfl) <| Sq <| Rg <| Vs (Bx 0 rfl) <| Vs (Bx 1 rfl) <| Vs (Al 2 TZ27 rfl) <| Vs (As rfl) <| Nx <| Sq <| Rg <| Vs (LdS TA27 TS27 rfl) <| Vs (LdS TA27 TS27 rfl) <| Vs (Mf rfl) <| Vs (Gd [0, 1] [] (us := [(0, some (⟨4, [vB (n), vS (A), vB (m), vS (D)], true⟩)), (1, some (⟨4, [vB (n2), vS (A2), vB (m2), vS (D2)], true⟩))]) rfl (g82i 84 n A m D n2 A2 m2 D2 hA hD hA2 hD2 oA oD oA2 oD2 h) rfl) <| Vs (Xt rfl) <| Vs (Xt rfl) <| Vs (StS TS27 rfl) <| Vs (As rfl) <| Nx <| Re <| Fi (l := [.agg [boolB (zN (0)), u32S (zL (0)), boolB (zN (0)), u32S (zL (0))], numB .i64 (1)]) (Rc (resVar_cell rfl rfl TA27 TS27 (Nat.le_of_ble_eq_true rfl) rfl) (Rc (resVar_tmp rfl rfl) Rn)) rfl
theorem g40 {p q r s : Int} (ha : okR p q) (hb : okR r s) : VF Try.prog 40 [.agg [boolB (zN (p)), u32S (zL (p)), boolB (zN (q)), u32S (zL (q))], .agg [boolB (zN (r)), u32S (zL (r)), boolB (zN (s)), u32S (zL (s))]] (rR (qN (mulOk p q r s) (p * r) (q * s)) (qD (mulOk p q r s) (p * r) (q * s)) (qF (mulOk p q r s))) := by
  exact VF_of P_mixed Try.func40 rfl rfl (by kernel_rfl) <| Sq <| Rg <| Vs (Bx 0 rfl) <| Vs (Bx 1 rfl) <| Vs (Al 2 TZ27 rfl) <| Vs (As rfl) <| Nx <| Sq <| Rg <| Vs (LdS TA27 TS27 rfl) <| Vs (LdS TA27 TS27 rfl) <| Vs (Mf rfl) <| Vs (Gd [0, 1] [] (us := [(0, some (⟨4, [vB (zN (p)), vS (zL (p)), vB (zN (q)), vS (zL (q))], true⟩)), (1, some (⟨4, [vB (zN (r)), vS (zL (r)), vB (zN (s)), vS (zL (s))], true⟩))]) rfl (g82 ha hb (in_mv _ _) (in_mv _ _) (mul_den (Int.ne_of_gt ha.1) (Int.ne_of_gt hb.1)) (g84 ha.2.2.1 ha.2.2.2 hb.2.2.1 hb.2.2.2)) rfl) <| Vs (Xt rfl) <| Vs (Xt rfl) <| Vs (StS TS27 rfl) <| Vs (As rfl) <| Nx <| Re <| Fi (l := [.agg [boolB (zN (opN (mE p q r s) (mN p r) (mD p q r s))), u32S (zL (opN (mE p q r s) (mN p r) (mD p q r s))), boolB (zN (opD (mE p q r s) (mN p r) (mD p q r s))), u32S (zL (opD (mE p q r s) (mN p r) (mD p q r s)))], numB .i64 (mE p q r s)]) (Rc (resVar_cell rfl rfl TA27 TS27 (Nat.le_of_ble_eq_true rfl) rfl) (Rc (resVar_tmp rfl rfl) Rn)) (op_close (mul_spec _ _ _ _)).symm
theorem g46i (n : Bool) (A : List Int) (m : Bool) (D : List Int) (n2 : Bool) (A2 : List Int) (m2 : Bool) (D2 : List Int) (hA : A.length ≤ 9223372036854775807) (hD : D.length ≤ 9223372036854775807) (hA2 : A2.length ≤ 9223372036854775807) (hD2 : D2.length ≤ 9223372036854775807) (oA : ok32 A) (oD : ok32 D) (oA2 : ok32 A2) (oD2 : ok32 D2) (h : (vR n A m D && vR n2 A2 m2 D2) = false) : VF Try.prog 46 [.agg [boolB (n), u32S (A), boolB (m), u32S (D)], .agg [boolB (n2), u32S (A2), boolB (m2), u32S (D2)]] (rR 0 0 1) := by
  exact VF_of P_mixed Try.func46 rfl rfl (by kernel_rfl) <| Sq <| Rg <| Vs (Bx 0 rfl) <| Vs (Bx 1 rfl) <| Vs (Al 2 TZ27 rfl) <| Vs (As rfl) <| Nx <| Sq <| Sq <| Rg <| Vs (LdS TA27 TS27 rfl) <| Vs (LdS TA27 TS27 rfl) <| Vs (sq1 6 rfl (.buildS _ 2 _ 27 [.agg [vB (n), vS (A), vB (m), vS (D)], .agg [vB (n2), vS (A2), vB (m2), vS (D2)]] 4 _ [vB (n), vS (A), vB (m), vS (D), vB (n2), vS (A2), vB (m2), vS (D2)] rfl TU95 TZ27 TS27 (List.cons_ne_nil _ _) (by decide) rfl rfl)) <| Vs (Kb (show (vR n A m D && vR n2 A2 m2 D2) = false from h) (Cf rfl rfl (g62 n A m D n2 A2 m2 D2 hA hD hA2 hD2 oA oD oA2 oD2) rfl)) <| Vs (Mv rfl) <| Sk rfl <| Sk rfl <| Sk rfl <| Vs (Pk rfl) <| Nx <| Cz rfl <| Ks <| Tg <| Sq <| Rg <| Vs (LdS TA27 TS27 rfl) <| Vs (LdS TA27 TS27 rfl) <| Vs (Mf rfl) <| Vs (Gd [0, 1] [] (us := [(0, some (⟨4, [vB (n), vS (A), vB (m), vS (D)], true⟩)), (1, some (⟨4, [vB (n2), vS (A2), vB (m2), vS (D2)], true⟩))]) rfl (g82i 92 n A m D n2 A2 m2 D2 hA hD hA2 hD2 oA oD oA2 oD2 h) rfl) <| Vs (Xt rfl) <| Vs (Xt rfl) <| Vs (StS TS27 rfl) <| Vs (As rfl) <| Nx <| Re <| Fi (l := [.agg [boolB (zN (0)), u32S (zL (0)), boolB (zN (0)), u32S (zL (0))], numB .i64 (1)]) (Rc (resVar_cell rfl rfl TA27 TS27 (Nat.le_of_ble_eq_true rfl) rfl) (Rc (resVar_tmp rfl rfl) Rn)) rfl
theorem g46 {p q r s : Int} (ha : okR p q) (hb : okR r s) (h0 : r ≠ 0) : VF Try.prog 46 [.agg [boolB (zN (p)), u32S (zL (p)), boolB (zN (q)), u32S (zL (q))], .agg [boolB (zN (r)), u32S (zL (r)), boolB (zN (s)), u32S (zL (s))]] (rR (qN (mulOk p q s r) (p * s) (q * r)) (qD (mulOk p q s r) (p * s) (q * r)) (qF (mulOk p q s r))) := by
  exact VF_of P_mixed Try.func46 rfl rfl (by kernel_rfl) <| Sq <| Rg <| Vs (Bx 0 rfl) <| Vs (Bx 1 rfl) <| Vs (Al 2 TZ27 rfl) <| Vs (As rfl) <| Nx <| Sq <| Sq <| Rg <| Vs (LdS TA27 TS27 rfl) <| Vs (LdS TA27 TS27 rfl) <| Vs (sq1 6 rfl (.buildS _ 2 _ 27 [.agg [vB (zN (p)), vS (zL (p)), vB (zN (q)), vS (zL (q))], .agg [vB (zN (r)), vS (zL (r)), vB (zN (s)), vS (zL (s))]] 4 _ [vB (zN (p)), vS (zL (p)), vB (zN (q)), vS (zL (q)), vB (zN (r)), vS (zL (r)), vB (zN (s)), vS (zL (s))] rfl TU95 TZ27 TS27 (List.cons_ne_nil _ _) (by decide) rfl rfl)) <| Vs (Cf rfl rfl (g62q ha hb) rfl) <| Vs (Mv rfl) <| Vs (Fa TF27_0 rfl) <| Vs (LdS TA24 TS24 rfl) <| Vs (Kb (show decide (r = 0) = false from (decide_eq_false h0)) (Cf rfl rfl (g51 (z := r) (hb.2.2.1)) rfl)) <| Vs (Pk rfl) <| Nx <| Cz rfl <| Ks <| Tg <| Sq <| Rg <| Vs (LdS TA27 TS27 rfl) <| Vs (LdS TA27 TS27 rfl) <| Vs (Mf rfl) <| Vs (Gd [0, 1] [] (us := [(0, some (⟨4, [vB (zN (p)), vS (zL (p)), vB (zN (q)), vS (zL (q))], true⟩)), (1, some (⟨4, [vB (zN (r)), vS (zL (r)), vB (zN (s)), vS (zL (s))], true⟩))]) rfl (g82 ha hb (in_mv _ _) (in_mv _ _) (mul_den (Int.ne_of_gt ha.1) h0) (g92 ha.2.2.1 ha.2.2.2 hb.2.2.1 hb.2.2.2)) rfl) <| Vs (Xt rfl) <| Vs (Xt rfl) <| Vs (StS TS27 rfl) <| Vs (As rfl) <| Nx <| Re <| Fi (l := [.agg [boolB (zN (opN (mE p q s r) (mN p s) (mD p q s r))), u32S (zL (opN (mE p q s r) (mN p s) (mD p q s r))), boolB (zN (opD (mE p q s r) (mN p s) (mD p q s r))), u32S (zL (opD (mE p q s r) (mN p s) (mD p q s r)))], numB .i64 (mE p q s r)]) (Rc (resVar_cell rfl rfl TA27 TS27 (Nat.le_of_ble_eq_true rfl) rfl) (Rc (resVar_tmp rfl rfl) Rn)) (op_close (mul_spec _ _ _ _)).symm
theorem g46z {p q s : Int} (ha : okR p q) (hb : okR 0 s) : VF Try.prog 46 [.agg [boolB (zN (p)), u32S (zL (p)), boolB (zN (q)), u32S (zL (q))], .agg [boolB (zN (0)), u32S (zL (0)), boolB (zN (s)), u32S (zL (s))]] (rR 0 0 4) := by
  exact VF_of P_mixed Try.func46 rfl rfl (by kernel_rfl) <| Sq <| Rg <| Vs (Bx 0 rfl) <| Vs (Bx 1 rfl) <| Vs (Al 2 TZ27 rfl) <| Vs (As rfl) <| Nx <| Sq <| Sq <| Rg <| Vs (LdS TA27 TS27 rfl) <| Vs (LdS TA27 TS27 rfl) <| Vs (sq1 6 rfl (.buildS _ 2 _ 27 [.agg [vB (zN (p)), vS (zL (p)), vB (zN (q)), vS (zL (q))], .agg [vB (zN (0)), vS (zL (0)), vB (zN (s)), vS (zL (s))]] 4 _ [vB (zN (p)), vS (zL (p)), vB (zN (q)), vS (zL (q)), vB (zN (0)), vS (zL (0)), vB (zN (s)), vS (zL (s))] rfl TU95 TZ27 TS27 (List.cons_ne_nil _ _) (by decide) rfl rfl)) <| Vs (Cf rfl rfl (g62q ha hb) rfl) <| Vs (Mv rfl) <| Vs (Fa TF27_0 rfl) <| Vs (LdS TA24 TS24 rfl) <| Vs (Kb (show decide (0 = 0) = true from (decide_eq_true rfl)) (Cf rfl rfl (g51 (z := 0) inT) rfl)) <| Vs (Pk rfl) <| Nx <| Cy rfl <| Sq <| Rg <| Vs (Bd TQ27 rfl) <| Vs (StS TS27 rfl) <| Vs (As rfl) <| Nx <| Re <| Tr <| Fi (l := [.agg [boolB (false), u32S ([]), boolB (false), u32S ([])], numB .i64 (4)]) (Rc (resVar_cell rfl rfl TA27 TS27 (Nat.le_of_ble_eq_true rfl) rfl) (Rc (resVar_tmp rfl rfl) Rn)) (by rw [rR, qB_zero]; rfl)
end Go.VL

/- Walks over the Go functions, printed by a program of this session over the kit's print, and by hand. -/
set_option linter.unusedVariables false
set_option linter.unusedSimpArgs false
namespace Go.VL
open Go.Proofs
theorem g63 {p q r s : Int} (hp : inB p = true) (hq : inB q = true) (hr : inB r = true) (hs : inB s = true) (q0 : 0 < q) (s0 : 0 < s) : VF Try.prog 63 [.agg [boolB (zN (p)), u32S (zL (p)), boolB (zN (q)), u32S (zL (q))], .agg [boolB (zN (r)), u32S (zL (r)), boolB (zN (s)), u32S (zL (s))]] (numB .i64 (cmp3 (p * s) (r * q))) := by
  refine VF_of P_mixed Try.func63 rfl rfl (by kernel_rfl) <| Sq <| Rg <| Vs (Bx 0 rfl) <| Vs (Bx 1 rfl) <| Vs (As rfl) <| Nx <| Sq <| Rd (by kernel_rfl) <| Vl (Fa TF27_0 rfl) <| Vl (LdS TA24 TS24 rfl) <| Vl (Fa TF27_1 rfl) <| Vl (LdS TA24 TS24 rfl) <| Vl (Fa TF27_0 rfl) <| Vl (LdS TA24 TS24 rfl) <| Vl (Fa TF27_1 rfl) <| Vl (LdS TA24 TS24 rfl) <| Vl (Al 11 TZ24 rfl) <| Vl (Al 12 TZ24 rfl) <| Vl (Al 13 TZ24 rfl) <| Vl (Al 14 TZ24 rfl) <| Vl (StS TS24 rfl) <| Vl (StS TS24 rfl) <| Vl (StS TS24 rfl) <| Vl (StS TS24 rfl) <| ?_
  refine VLog.nil ⟨by kernel_rfl, ?_⟩
  refine Tg <| Sq <| Rg <| Vs (As rfl) <| Nx <| Bk <| VCode.loop (α := (Int) × (Int) × (Int) × (Int) × (Int)) (fun x_ => match x_ with | (n, d, m, f, g) => (15, sl [(5, .ptr 11 (0)), (6, .ptr 12 (0)), (7, .ptr 13 (0)), (8, .ptr 14 (0)), (9, vI .i64 (g))], en [(11, ⟨2, [vB (zN (n)), vS (zL (n))], true⟩), (12, ⟨2, [vB (zN (d)), vS (zL (d))], true⟩), (13, ⟨2, [vB (zN (m)), vS (zL (m))], true⟩), (14, ⟨2, [vB (zN (f)), vS (zL (f))], true⟩)])) (fun x_ => match x_ with | (n, d, m, f, g) => CmpI (cmp3 (p * s) (r * q)) n d m f g) (fun x_ => match x_ with | (n, d, m, f, g) => d.toNat) (p, q, r, s, 1) (CmpI.start q0 s0 hp hq hr hs rfl) Wk ?_
  rintro ⟨n, d, m, f, g⟩ hok
  obtain ⟨in1, in2, in3, in4⟩ := hok.i
  have m1 := fmod_in' in1 in2 hok.pd
  have m2 := fmod_in' in3 in4 hok.pf
  have k1 := fdiv_in in1 (Int.ne_of_gt hok.pd)
  have k2 := fdiv_in in3 (Int.ne_of_gt hok.pf)
  have z1 := hok.pd
  have z2 := hok.pf
  have z3 := (fm_range (n := n) hok.pd).2
  have z4 := (fm_range (n := n) hok.pd).1
  have z5 := hok.g
  change VCode _ _ _ 15 (sl _) (en _) _
  refine Sq <| Bk <| Sq <| Rg <| Vs (LdS TA24 TS24 rfl) <| Vs (LdS TA24 TS24 rfl) <| Vs (C0 rfl rfl (c18 (x := n) (y := d) inT inT (Int.ne_of_gt hok.pd))) <| Vs (Mv rfl) <| Vs (Xt rfl) <| Vs (Xt rfl) <| Vs (Xt rfl) <| Vs (Al 22 TZ24 rfl) <| Vs (Al 23 TZ24 rfl) <| Vs (StS TS24 rfl) <| Vs (StS TS24 rfl) <| Vs (As rfl) <| Nx <| Sq <| Rg <| Vs (LdS TA24 TS24 rfl) <| Vs (LdS TA24 TS24 rfl) <| Vs (C0 rfl rfl (c18 (x := m) (y := f) inT inT (Int.ne_of_gt hok.pf))) <| Vs (Mv rfl) <| Vs (Xt rfl) <| Vs (Xt rfl) <| Vs (Xt rfl) <| Vs (Al 34 TZ24 rfl) <| Vs (Al 35 TZ24 rfl) <| Vs (StS TS24 rfl) <| Vs (StS TS24 rfl) <| Vs (As rfl) <| Nx <| Sq <| Sq <| Rg <| Vs (LdS TA24 TS24 rfl) <| Vs (LdS TA24 TS24 rfl) <| Vs (C0 rfl rfl (c33 (x := (n).fdiv (d)) (y := (m).fdiv (f)) inT inT)) <| Vs (Mv rfl) <| Vs (Xt rfl) <| Vs (Xt rfl) <| Vs (As rfl) <| Vs (As rfl) <| Nx <| Sq <| Rg <| Vs (Mv rfl) <| Vs (Bi rfl) <| Nx <| Cd rfl (fun hc1 => ?_) (fun hc1 => ?_)
  · replace hc1 := bne_iff_ne.1 hc1
    exact Sq <| Rg <| Vs (Mv rfl) <| Vs (Mv rfl) <| Vs (Bo rfl (muI (h := (hok.rng _ _)))) <| Vs (As rfl) <| Nx <| Re <| Tr <| Iq <| Tr <| Or <| Iq <| Fi (l := [numB .i64 ((g * cmp3 ((n).fdiv (d)) ((m).fdiv (f))))]) (Rc (resVar_tmp rfl rfl) Rn) (by rw [← hok.part hc1]; rfl)
  · replace hc1 := bne_eq_false_iff_eq.1 hc1
    refine Ks <| Tg <| Sq <| Bk <| Sq <| Rg <| Vs (LdS TA24 TS24 rfl) <| Vs (Cf rfl rfl (g51 (z := (n).fmod (d)) inT) rfl) <| Vs (Mv rfl) <| Sp 56 rfl (fun hc2 => ?_) (fun hc2 => ?_)
    · replace hc2 := of_decide_eq_true hc2
      refine Vs (LdS TA24 TS24 rfl) <| Vs (Cf rfl rfl (g51 (z := (m).fmod (f)) inT) rfl) <| Vs (Pk rfl) <| Vs (As rfl) <| Nx <| Cd rfl (fun hc3 => ?_) (fun hc3 => ?_)
      · replace hc3 := of_decide_eq_true hc3
        exact Sq <| Rg <| Vs (As rfl) <| Nx <| Re <| Iq <| Tr <| Iq <| Tr <| Or <| Iq <| Fi (l := [numB .i64 (0)]) (Rc (resVar_tmp rfl rfl) Rn) (congrArg (numB .i64) (hok.both hc1 hc2 hc3).symm)
      · replace hc3 := of_decide_eq_false hc3
        refine Sq <| Rg <| Vs (LdS TA24 TS24 rfl) <| Vs (Cf rfl rfl (g51 (z := (n).fmod (d)) inT) rfl) <| Vs (As rfl) <| Nx <| Cd rfl (fun hc4 => ?_) (fun hc4 => ?_)
        · replace hc4 := of_decide_eq_true hc4
          exact Sq <| Rg <| Vs (Mv rfl) <| Vs (Uo rfl nvI) <| Vs (As rfl) <| Nx <| Re <| Iq <| Tr <| Iq <| Tr <| Or <| Iq <| Fi (l := [numB .i64 ((-g))]) (Rc (resVar_tmp rfl rfl) Rn) (congrArg (numB .i64) (hok.left hc1 hc2 hc3).symm)
        · replace hc4 := of_decide_eq_false hc4
          exact absurd hc2 hc4
    · replace hc2 := of_decide_eq_false hc2
      refine Sk rfl <| Sk rfl <| Vs (Pk rfl) <| Vs (As rfl) <| Nx <| Cz rfl <| Sq <| Rg <| Vs (LdS TA24 TS24 rfl) <| Vs (Cf rfl rfl (g51 (z := (n).fmod (d)) inT) rfl) <| Vs (As rfl) <| Nx <| Cd rfl (fun hc5 => ?_) (fun hc5 => ?_)
      · replace hc5 := of_decide_eq_true hc5
        exact absurd hc5 hc2
      · replace hc5 := of_decide_eq_false hc5
        refine Sq <| Rg <| Vs (LdS TA24 TS24 rfl) <| Vs (Cf rfl rfl (g51 (z := (m).fmod (f)) inT) rfl) <| Vs (As rfl) <| Nx <| Cd rfl (fun hc6 => ?_) (fun hc6 => ?_)
        · replace hc6 := of_decide_eq_true hc6
          exact Sq <| Rg <| Vs (Mv rfl) <| Vs (As rfl) <| Nx <| Re <| Iq <| Tr <| Iq <| Tr <| Or <| Iq <| Fi (l := [numB .i64 (g)]) (Rc (resVar_tmp rfl rfl) Rn) (congrArg (numB .i64) (hok.right hc1 hc2 hc6).symm)
        · replace hc6 := of_decide_eq_false hc6
          refine Ks <| Ig <| Tg <| Rd (by kernel_rfl) <| Vl (LdS TA24 TS24 rfl) <| Vl (LdS TA24 TS24 rfl) <| Vl (LdS TA24 TS24 rfl) <| Vl (LdS TA24 TS24 rfl) <| Vl (StS TS24 rfl) <| Vl (StS TS24 rfl) <| Vl (StS TS24 rfl) <| Vl (StS TS24 rfl) <| ?_
          refine VLog.nil ⟨by kernel_rfl, ?_⟩
          exact Ig <| Tg <| Rg <| Vs (Mv rfl) <| Vs (Uo rfl nvI) <| Vs (As rfl) <| VList.nil <| Go (d, n.fmod d, f, m.fmod f, -g) (hok.next hc1 hc2 hc6) Wk
end Go.VL

/- Walks over the Go functions, printed by a program of this session over the kit's print, and by hand. -/
set_option linter.unusedVariables false
set_option linter.unusedSimpArgs false
namespace Go.VL
open Go.Proofs
theorem g36i (n : Bool) (A : List Int) (m : Bool) (D : List Int) (hA : A.length ≤ 9223372036854775807) (hD : D.length ≤ 9223372036854775807) (oA : ok32 A) (oD : ok32 D) (h : vR n A m D = false) : VF Try.prog 36 [.agg [boolB (n), u32S (A), boolB (m), u32S (D)]] (numB .i64 0) := by
  exact VF_of P_mixed Try.func36 rfl rfl (by kernel_rfl) <| Sq <| Rg <| Vs (Bx 0 rfl) <| Vs (As rfl) <| Nx <| Sq <| Bk <| Sq <| Rg <| Vs (LdS TA27 TS27 rfl) <| Vs (Kb (show vR n A m D = false from h) (Cf rfl rfl (g20 n A m D hA hD oA oD) rfl)) <| Vs (Un rfl) <| Vs (Mv rfl) <| Sk rfl <| Sk rfl <| Sk rfl <| Vs (Pk rfl) <| Vs (As rfl) <| Nx <| Cy rfl <| Sq <| Rg <| Vs (As rfl) <| Nx <| Re <| Iq <| Tr <| Fi (l := [numB .i64 (0)]) (Rc (resVar_tmp rfl rfl) Rn) rfl
theorem g36 {p q : Int} (ha : okR p q) : VF Try.prog 36 [.agg [boolB (zN (p)), u32S (zL (p)), boolB (zN (q)), u32S (zL (q))]] (numB .i64 (cmp3 p 0)) := by
  obtain ⟨q0, g0, hp, hq⟩ := ha
  refine VF_of P_mixed Try.func36 rfl rfl (by kernel_rfl) <| Sq <| Rg <| Vs (Bx 0 rfl) <| Vs (As rfl) <| Nx <| Sq <| Bk <| Sq <| Rg <| Vs (LdS TA27 TS27 rfl) <| Vs (Cf rfl rfl (g20q ⟨q0, g0, hp, hq⟩) rfl) <| Vs (Un rfl) <| Vs (Mv rfl) <| Vs (Fa TF27_0 rfl) <| Vs (LdS TA24 TS24 rfl) <| Vs (Cf rfl rfl (g51 (z := p) inT) rfl) <| Vs (Pk rfl) <| Vs (As rfl) <| Nx <| Cd rfl (fun hc1 => ?_) (fun hc1 => ?_)
  · replace hc1 := of_decide_eq_true hc1
    exact Sq <| Rg <| Vs (As rfl) <| Nx <| Re <| Iq <| Tr <| Fi (l := [numB .i64 (0)]) (Rc (resVar_tmp rfl rfl) Rn) (sgn_zero hc1)
  · replace hc1 := of_decide_eq_false hc1
    refine Sq <| Rg <| Vs (Fa TF27_0 rfl) <| Vs (Fa TF24_0 rfl) <| Vs (Ld TA4 rfl) <| Vs (As rfl) <| Nx <| Cd rfl (fun hc2 => ?_) (fun hc2 => ?_)
    · replace hc2 := hc2
      exact Sq <| Rg <| Vs (As rfl) <| Nx <| Re <| Iq <| Tr <| Fi (l := [numB .i64 ((-1))]) (Rc (resVar_tmp rfl rfl) Rn) (sgn_neg hc2)
    · replace hc2 := hc2
      exact Ks <| Ig <| Tg <| Sq <| Rg <| Vs (As rfl) <| Nx <| Re <| Fi (l := [numB .i64 (1)]) (Rc (resVar_tmp rfl rfl) Rn) (sgn_pos hp hc1 hc2)
theorem g30i (n : Bool) (A : List Int) (m : Bool) (D : List Int) (n2 : Bool) (A2 : List Int) (m2 : Bool) (D2 : List Int) (hA : A.length ≤ 9223372036854775807) (hD : D.length ≤ 9223372036854775807) (hA2 : A2.length ≤ 9223372036854775807) (hD2 : D2.length ≤ 9223372036854775807) (oA : ok32 A) (oD : ok32 D) (oA2 : ok32 A2) (oD2 : ok32 D2) (h : (vR n A m D && vR n2 A2 m2 D2) = false) : VF Try.prog 30 [.agg [boolB (n), u32S (A), boolB (m), u32S (D)], .agg [boolB (n2), u32S (A2), boolB (m2), u32S (D2)]] (.tup [numB .i64 0, numB .i64 1]) := by
  exact VF_of P_mixed Try.func30 rfl rfl (by kernel_rfl) <| Sq <| Rg <| Vs (Bx 0 rfl) <| Vs (Bx 1 rfl) <| Vs (As rfl) <| Vs (As rfl) <| Nx <| Sq <| Sq <| Rg <| Vs (LdS TA27 TS27 rfl) <| Vs (LdS TA27 TS27 rfl) <| Vs (sq1 6 rfl (.buildS _ 2 _ 27 [.agg [vB (n), vS (A), vB (m), vS (D)], .agg [vB (n2), vS (A2), vB (m2), vS (D2)]] 4 _ [vB (n), vS (A), vB (m), vS (D), vB (n2), vS (A2), vB (m2), vS (D2)] rfl TU95 TZ27 TS27 (List.cons_ne_nil _ _) (by decide) rfl rfl)) <| Vs (Kb (show (vR n A m D && vR n2 A2 m2 D2) = false from h) (Cf rfl rfl (g62 n A m D n2 A2 m2 D2 hA hD hA2 hD2 oA oD oA2 oD2) rfl)) <| Vs (Un rfl) <| Nx <| Cy rfl <| Sq <| Rg <| Vs (As rfl) <| Vs (As rfl) <| Nx <| Re <| Tr <| Fi (l := [numB .i64 (0), numB .i64 (1)]) (Rc (resVar_tmp rfl rfl) (Rc (resVar_tmp rfl rfl) Rn)) rfl
theorem g30 {p q r s : Int} (ha : okR p q) (hb : okR r s) : VF Try.prog 30 [.agg [boolB (zN (p)), u32S (zL (p)), boolB (zN (q)), u32S (zL (q))], .agg [boolB (zN (r)), u32S (zL (r)), boolB (zN (s)), u32S (zL (s))]] (.tup [numB .i64 (cmp3 (p * s) (r * q)), numB .i64 0]) := by
  obtain ⟨q0, g0, hp, hq⟩ := ha
  obtain ⟨s0, g1, hr, hs⟩ := hb
  exact VF_of P_mixed Try.func30 rfl rfl (by kernel_rfl) <| Sq <| Rg <| Vs (Bx 0 rfl) <| Vs (Bx 1 rfl) <| Vs (As rfl) <| Vs (As rfl) <| Nx <| Sq <| Sq <| Rg <| Vs (LdS TA27 TS27 rfl) <| Vs (LdS TA27 TS27 rfl) <| Vs (sq1 6 rfl (.buildS _ 2 _ 27 [.agg [vB (zN (p)), vS (zL (p)), vB (zN (q)), vS (zL (q))], .agg [vB (zN (r)), vS (zL (r)), vB (zN (s)), vS (zL (s))]] 4 _ [vB (zN (p)), vS (zL (p)), vB (zN (q)), vS (zL (q)), vB (zN (r)), vS (zL (r)), vB (zN (s)), vS (zL (s))] rfl TU95 TZ27 TS27 (List.cons_ne_nil _ _) (by decide) rfl rfl)) <| Vs (Cf rfl rfl (g62q ⟨q0, g0, hp, hq⟩ ⟨s0, g1, hr, hs⟩) rfl) <| Vs (Un rfl) <| Nx <| Cz rfl <| Ks <| Tg <| Sq <| Rg <| Vs (LdS TA27 TS27 rfl) <| Vs (LdS TA27 TS27 rfl) <| Vs (Cf rfl rfl (g63 (p := p) (q := q) (r := r) (s := s) inT inT inT inT (by first | omega | assumption | (simp; done) | (simp; omega)) (by first | omega | assumption | (simp; done) | (simp; omega))) rfl) <| Vs (As rfl) <| Vs (As rfl) <| Nx <| Re <| Fi (l := [numB .i64 (cmp3 ((p) * (s)) ((r) * (q))), numB .i64 (0)]) (Rc (resVar_tmp rfl rfl) (Rc (resVar_tmp rfl rfl) Rn)) rfl
theorem g32i (n : Bool) (A : List Int) (m : Bool) (D : List Int) (hA : A.length ≤ 9223372036854775807) (hD : D.length ≤ 9223372036854775807) (oA : ok32 A) (oD : ok32 D) (k : Int) (h : vR n A m D = false) : VF Try.prog 32 [.agg [boolB (n), u32S (A), boolB (m), u32S (D)], numB .i64 (k)] (.tup [intB false [], numB .i64 1]) := by
  exact VF_of P_mixed Try.func32 rfl rfl (by kernel_rfl) <| Sq <| Rg <| Vs (Bx 0 rfl) <| Vs (Al 1 TZ24 rfl) <| Vs (As rfl) <| Nx <| Sq <| Sq <| Rg <| Vs (LdS TA27 TS27 rfl) <| Vs (Kb (show vR n A m D = false from h) (Cf rfl rfl (g20 n A m D hA hD oA oD) rfl)) <| Vs (Un rfl) <| Nx <| Cy rfl <| Sq <| Rg <| Vs (Bd TQ24 rfl) <| Vs (StS TS24 rfl) <| Vs (As rfl) <| Nx <| Re <| Tr <| Fi (l := [.agg [boolB (false), u32S ([])], numB .i64 (1)]) (Rc (resVar_cell rfl rfl TA24 TS24 (Nat.le_of_ble_eq_true rfl) rfl) (Rc (resVar_tmp rfl rfl) Rn)) rfl
theorem g32 {p q : Int} (ha : okR p q) {k : Int} (k0 : -9223372036854775808 ≤ k) (k1 : k ≤ 9223372036854775807) : VF Try.prog 32 [.agg [boolB (zN (p)), u32S (zL (p)), boolB (zN (q)), u32S (zL (q))], numB .i64 (k)] (zR (flZ p q k)) := by
  obtain ⟨q0, g0, hp, hq⟩ := ha
  have q1 : q ≠ 0 := Int.ne_of_gt q0
  have k2 := fdiv_in hp q1
  refine VF_of P_mixed Try.func32 rfl rfl (by kernel_rfl) <| Sq <| Rg <| Vs (Bx 0 rfl) <| Vs (Al 1 TZ24 rfl) <| Vs (As rfl) <| Nx <| Sq <| Sq <| Rg <| Vs (LdS TA27 TS27 rfl) <| Vs (Cf rfl rfl (g20q ⟨q0, g0, hp, hq⟩) rfl) <| Vs (Un rfl) <| Nx <| Cz rfl <| Ks <| Tg <| Sq <| Sq <| Rg <| Vs (Mv rfl) <| Vs (Bi rfl) <| Nx <| Cd rfl (fun hc1 => ?_) (fun hc1 => ?_)
  · replace hc1 := of_decide_eq_true hc1
    exact Sq <| Rg <| Vs (Fa TF27_0 rfl) <| Vs (LdS TA24 TS24 rfl) <| Vs (Fa TF27_1 rfl) <| Vs (LdS TA24 TS24 rfl) <| Vs (C0 rfl rfl (c18 (x := p) (y := q) inT inT (q1))) <| Vs (Mv rfl) <| Vs (Xt rfl) <| Vs (Xt rfl) <| Vs (Xt rfl) <| Vs (Al 17 TZ24 rfl) <| Vs (Al 18 TZ24 rfl) <| Vs (StS TS24 rfl) <| Vs (StS TS24 rfl) <| Vs (As rfl) <| Nx <| Sq <| Rg <| Vs (LdS TA24 TS24 rfl) <| Vs (Mv rfl) <| Vs (C0 rfl rfl (c27 (x := (p).fdiv (q)) (y := k) inT (by first | omega | assumption | (simp; done) | (simp; omega)) (by first | omega | assumption | (simp; done) | (simp; omega)))) <| Vs (Xt rfl) <| Vs (Xt rfl) <| Vs (StS TS24 rfl) <| Vs (As rfl) <| Nx <| Re <| Tr <| Fi (l := [.agg [boolB (zN (shZ ((p).fdiv (q)) (k))), u32S (zL (shZ ((p).fdiv (q)) (k)))], numB .i64 (zE (shZ ((p).fdiv (q)) (k)))]) (Rc (resVar_cell rfl rfl TA24 TS24 (Nat.le_of_ble_eq_true rfl) rfl) (Rc (resVar_tmp rfl rfl) Rn)) (fl_low hc1)
  · replace hc1 := of_decide_eq_false hc1
    refine Ks <| Tg <| Sq <| Rg <| Vs (Fa TF27_0 rfl) <| Vs (LdS TA24 TS24 rfl) <| Vs (Mv rfl) <| Vs (C0 rfl rfl (c27 (x := p) (y := k) inT (by first | omega | assumption | (simp; done) | (simp; omega)) (by first | omega | assumption | (simp; done) | (simp; omega)))) <| Vs (Mv rfl) <| Vs (Xt rfl) <| Vs (Xt rfl) <| Vs (Al 15 TZ24 rfl) <| Vs (StS TS24 rfl) <| Vs (As rfl) <| Nx <| Sq <| Sq <| Rg <| Vs (Mv rfl) <| Vs (Bi rfl) <| Nx <| Cd rfl (fun hc2 => ?_) (fun hc2 => ?_)
    · replace hc2 := bne_iff_ne.1 hc2
      exact Sq <| Rg <| Vs (Bd TQ24 rfl) <| Vs (Mv rfl) <| Vs (StS TS24 rfl) <| Vs (As rfl) <| Nx <| Re <| Tr <| Fi (l := [.agg [boolB (false), u32S ([])], numB .i64 (zE (shZ (p) (k)))]) (Rc (resVar_cell rfl rfl TA24 TS24 (Nat.le_of_ble_eq_true rfl) rfl) (Rc (resVar_tmp rfl rfl) Rn)) (fl_out hc1 hc2)
    · replace hc2 := bne_eq_false_iff_eq.1 hc2
      exact Ks <| Tg <| Sq <| Rg <| Vs (LdS TA24 TS24 rfl) <| Vs (Fa TF27_1 rfl) <| Vs (LdS TA24 TS24 rfl) <| Vs (C0 rfl rfl (c18 (x := shZ (p) (k)) (y := q) (zE_in.1 hc2) inT (q1))) <| Vs (Mv rfl) <| Vs (Xt rfl) <| Vs (Xt rfl) <| Vs (Xt rfl) <| Vs (Al 28 TZ24 rfl) <| Vs (Al 29 TZ24 rfl) <| Vs (StS TS24 rfl) <| Vs (StS TS24 rfl) <| Vs (As rfl) <| Nx <| Sq <| Rg <| Vs (LdS TA24 TS24 rfl) <| Vs (Mv rfl) <| Vs (StS TS24 rfl) <| Vs (As rfl) <| Nx <| Re <| Fi (l := [.agg [boolB (zN ((shZ (p) (k)).fdiv (q))), u32S (zL ((shZ (p) (k)).fdiv (q)))], numB .i64 (0)]) (Rc (resVar_cell rfl rfl TA24 TS24 (Nat.le_of_ble_eq_true rfl) rfl) (Rc (resVar_tmp rfl rfl) Rn)) (fl_in hc1 hc2 q1)
theorem g34i (n : Bool) (A : List Int) (m : Bool) (D : List Int) (hA : A.length ≤ 9223372036854775807) (hD : D.length ≤ 9223372036854775807) (oA : ok32 A) (oD : ok32 D) (h : vR n A m D = false) : VF Try.prog 34 [.agg [boolB (n), u32S (A), boolB (m), u32S (D)]] (.tup [qB 0 0, boolB false, numB .i64 1]) := by
  exact VF_of P_mixed Try.func34 rfl rfl (by kernel_rfl) <| Sq <| Rg <| Vs (Bx 0 rfl) <| Vs (Al 1 TZ27 rfl) <| Vs (As rfl) <| Vs (As rfl) <| Nx <| Sq <| Bk <| Sq <| Rg <| Vs (LdS TA27 TS27 rfl) <| Vs (Kb (show vR n A m D = false from h) (Cf rfl rfl (g20 n A m D hA hD oA oD) rfl)) <| Vs (Un rfl) <| Vs (As rfl) <| Nx <| Cy rfl <| Sq <| Rg <| Vs (Bd TQ27 rfl) <| Vs (StS TS27 rfl) <| Vs (As rfl) <| Vs (As rfl) <| Nx <| Re <| Iq <| Tr <| Fi (l := [.agg [boolB (false), u32S ([]), boolB (false), u32S ([])], boolB (false), numB .i64 (1)]) (Rc (resVar_cell rfl rfl TA27 TS27 (Nat.le_of_ble_eq_true rfl) rfl) (Rc (resVar_tmp rfl rfl) (Rc (resVar_tmp rfl rfl) Rn))) (by rw [qB_zero]; rfl)
theorem g34 {p q : Int} (ha : okR p q) : VF Try.prog 34 [.agg [boolB (zN (p)), u32S (zL (p)), boolB (zN (q)), u32S (zL (q))]] (sqRR p q) := by
  obtain ⟨q0, g0, hp, hq⟩ := ha
  refine VF_of P_mixed Try.func34 rfl rfl (by kernel_rfl) <| Sq <| Rg <| Vs (Bx 0 rfl) <| Vs (Al 1 TZ27 rfl) <| Vs (As rfl) <| Vs (As rfl) <| Nx <| Sq <| Bk <| Sq <| Rg <| Vs (LdS TA27 TS27 rfl) <| Vs (Cf rfl rfl (g20q ⟨q0, g0, hp, hq⟩) rfl) <| Vs (Un rfl) <| Vs (As rfl) <| Nx <| Cz rfl <| Sq <| Rg <| Vs (Fa TF27_0 rfl) <| Vs (Fa TF24_0 rfl) <| Vs (Ld TA4 rfl) <| Vs (As rfl) <| Nx <| Cd rfl (fun hc1 => ?_) (fun hc1 => ?_)
  · replace hc1 := hc1
    exact Sq <| Rg <| Vs (Bd TQ27 rfl) <| Vs (StS TS27 rfl) <| Vs (As rfl) <| Vs (As rfl) <| Nx <| Re <| Iq <| Tr <| Fi (l := [.agg [boolB (false), u32S ([]), boolB (false), u32S ([])], boolB (false), numB .i64 (5)]) (Rc (resVar_cell rfl rfl TA27 TS27 (Nat.le_of_ble_eq_true rfl) rfl) (Rc (resVar_tmp rfl rfl) (Rc (resVar_tmp rfl rfl) Rn))) (sq_neg (by have := zN_lt hc1; omega))
  · replace hc1 := hc1
    refine Ks <| Ig <| Tg <| Sq <| Rg <| Vs (Fa TF27_0 rfl) <| Vs (LdS TA24 TS24 rfl) <| Vs (C0 rfl rfl (c44 (x := p) inT (zero_le hp hc1))) <| Vs (Mv rfl) <| Vs (Xt rfl) <| Vs (Xt rfl) <| Vs (Xt rfl) <| Vs (Al 19 TZ24 rfl) <| Vs (StS TS24 rfl) <| Vs (As rfl) <| Vs (As rfl) <| Nx <| Sq <| Rg <| Vs (Fa TF27_1 rfl) <| Vs (LdS TA24 TS24 rfl) <| Vs (C0 rfl rfl (c44 (x := q) inT (Int.le_of_lt q0))) <| Vs (Mv rfl) <| Vs (Xt rfl) <| Vs (Xt rfl) <| Vs (Xt rfl) <| Vs (Al 30 TZ24 rfl) <| Vs (StS TS24 rfl) <| Vs (As rfl) <| Vs (As rfl) <| Nx <| Sq <| Sq <| Rg <| Vs (Mv rfl) <| Vs (Un rfl) <| Vs (Mv rfl) <| Sp 37 rfl (fun hc2 => ?_) (fun hc2 => ?_)
    · replace hc2 := of_decide_eq_false (bnot_t hc2)
      exact Sk rfl <| Sk rfl <| Vs (Pk rfl) <| Nx <| Cy rfl <| Sq <| Rg <| Vs (Bd TQ27 rfl) <| Vs (StS TS27 rfl) <| Vs (As rfl) <| Vs (As rfl) <| Nx <| Re <| Tr <| Fi (l := [.agg [boolB (false), u32S ([]), boolB (false), u32S ([])], boolB (false), numB .i64 (0)]) (Rc (resVar_cell rfl rfl TA27 TS27 (Nat.le_of_ble_eq_true rfl) rfl) (Rc (resVar_tmp rfl rfl) (Rc (resVar_tmp rfl rfl) Rn))) (sq_no (zero_le hp hc1) (fun h => hc2 h.1))
    · replace hc2 := of_decide_eq_true (bnot_f hc2)
      refine Vs (Mv rfl) <| Vs (Un rfl) <| Vs (Pk rfl) <| Nx <| Cd rfl (fun hc3 => ?_) (fun hc3 => ?_)
      · replace hc3 := of_decide_eq_false (bnot_t hc3)
        exact Sq <| Rg <| Vs (Bd TQ27 rfl) <| Vs (StS TS27 rfl) <| Vs (As rfl) <| Vs (As rfl) <| Nx <| Re <| Tr <| Fi (l := [.agg [boolB (false), u32S ([]), boolB (false), u32S ([])], boolB (false), numB .i64 (0)]) (Rc (resVar_cell rfl rfl TA27 TS27 (Nat.le_of_ble_eq_true rfl) rfl) (Rc (resVar_tmp rfl rfl) (Rc (resVar_tmp rfl rfl) Rn))) (sq_no (zero_le hp hc1) (fun h => hc3 h.2))
      · replace hc3 := of_decide_eq_true (bnot_f hc3)
        exact Ks <| Tg <| Sq <| Rg <| Vs (LdS TA24 TS24 rfl) <| Vs (LdS TA24 TS24 rfl) <| Vs (Bd TQ27 rfl) <| Vs (StS TS27 rfl) <| Vs (As rfl) <| Vs (As rfl) <| Nx <| Re <| Fi (l := [.agg [boolB (zN (isq (p))), u32S (zL (isq (p))), boolB (zN (isq (q))), u32S (zL (isq (q)))], boolB (true), numB .i64 (0)]) (Rc (resVar_cell rfl rfl TA27 TS27 (Nat.le_of_ble_eq_true rfl) rfl) (Rc (resVar_tmp rfl rfl) (Rc (resVar_tmp rfl rfl) Rn))) (sq_yes (zero_le hp hc1) hc2 hc3)
theorem g16i (n : Bool) (A : List Int) (m : Bool) (D : List Int) (hA : A.length ≤ 9223372036854775807) (hD : D.length ≤ 9223372036854775807) (h : (validB n A && validB m D) = false) : VF Try.prog 16 [.agg [boolB (n), u32S (A)], .agg [boolB (m), u32S (D)]] (rR 0 0 1) := by
  refine VF_of P_mixed Try.func16 rfl rfl (by kernel_rfl) <| Sq <| Rg <| Vs (Bx 0 rfl) <| Vs (Bx 1 rfl) <| Vs (Al 2 TZ27 rfl) <| Vs (As rfl) <| Nx <| Sq <| Bk <| Sq <| Rg <| Vs (LdS TA24 TS24 rfl) <| Vs (Cf rfl rfl (f36 n A hA) rfl) <| Vs (Un rfl) <| Vs (Mv rfl) <| Sp 11 rfl (fun hc1 => ?_) (fun hc1 => ?_)
  · replace hc1 := (bnot_t hc1)
    exact Sk rfl <| Sk rfl <| Sk rfl <| Vs (Pk rfl) <| Vs (As rfl) <| Nx <| Cy rfl <| Sq <| Rg <| Vs (Bd TQ27 rfl) <| Vs (StS TS27 rfl) <| Vs (As rfl) <| Nx <| Re <| Iq <| Tr <| Fi (l := [.agg [boolB (false), u32S ([]), boolB (false), u32S ([])], numB .i64 (1)]) (Rc (resVar_cell rfl rfl TA27 TS27 (Nat.le_of_ble_eq_true rfl) rfl) (Rc (resVar_tmp rfl rfl) Rn)) (by rw [rR, qB_zero]; rfl)
  · replace hc1 := (bnot_f hc1)
    refine Vs (LdS TA24 TS24 rfl) <| Vs (Cf rfl rfl (f36 m D hD) rfl) <| Vs (Un rfl) <| Vs (Pk rfl) <| Vs (As rfl) <| Nx <| Cd rfl (fun hc2 => ?_) (fun hc2 => ?_)
    · replace hc2 := (bnot_t hc2)
      exact Sq <| Rg <| Vs (Bd TQ27 rfl) <| Vs (StS TS27 rfl) <| Vs (As rfl) <| Nx <| Re <| Iq <| Tr <| Fi (l := [.agg [boolB (false), u32S ([]), boolB (false), u32S ([])], numB .i64 (1)]) (Rc (resVar_cell rfl rfl TA27 TS27 (Nat.le_of_ble_eq_true rfl) rfl) (Rc (resVar_tmp rfl rfl) Rn)) (by rw [rR, qB_zero]; rfl)
    · replace hc2 := (bnot_f hc2)
      simp [hc1, hc2] at h
theorem g16 {x y : Int} (hx : inB x = true) (hy : inB y = true) : VF Try.prog 16 [.agg [boolB (zN (x)), u32S (zL (x))], .agg [boolB (zN (y)), u32S (zL (y))]] (rR (mkN x y) (mkD x y) (mkE y)) := by
  refine VF_of P_mixed Try.func16 rfl rfl (by kernel_rfl) <| Sq <| Rg <| Vs (Bx 0 rfl) <| Vs (Bx 1 rfl) <| Vs (Al 2 TZ27 rfl) <| Vs (As rfl) <| Nx <| Sq <| Bk <| Sq <| Rg <| Vs (LdS TA24 TS24 rfl) <| Vs (Cf rfl rfl (c36 (x)) rfl) <| Vs (Un rfl) <| Vs (Mv rfl) <| Vs (LdS TA24 TS24 rfl) <| Vs (Cf rfl rfl (c36 (y)) rfl) <| Vs (Un rfl) <| Vs (Pk rfl) <| Vs (As rfl) <| Nx <| Cz rfl <| Sq <| Rg <| Vs (LdS TA24 TS24 rfl) <| Vs (Cf rfl rfl (g51 (z := y) inT) rfl) <| Vs (As rfl) <| Nx <| Cd rfl (fun hc1 => ?_) (fun hc1 => ?_)
  · replace hc1 := of_decide_eq_true hc1
    exact Sq <| Rg <| Vs (Bd TQ27 rfl) <| Vs (StS TS27 rfl) <| Vs (As rfl) <| Nx <| Re <| Iq <| Tr <| Fi (l := [.agg [boolB (false), u32S ([]), boolB (false), u32S ([])], numB .i64 (4)]) (Rc (resVar_cell rfl rfl TA27 TS27 (Nat.le_of_ble_eq_true rfl) rfl) (Rc (resVar_tmp rfl rfl) Rn)) (mkR0 hc1)
  · replace hc1 := of_decide_eq_false hc1
    refine Ks <| Ig <| Tg <| Sq <| Rg <| Vs (LdS TA24 TS24 rfl) <| Vs (LdS TA24 TS24 rfl) <| Vs (C0 rfl rfl (g52 (x := x) (y := y) inT inT (hc1))) <| Vs (Al 19 TZ27 rfl) <| Vs (StS TS27 rfl) <| Nx <| Sq <| Rd (by kernel_rfl) <| Vl (Fa TF27_0 rfl) <| Vl (LdS TA24 TS24 rfl) <| Vl (C0 rfl rfl (g53 (rdN (x) (y)))) <| Vl (Fa TF27_1 rfl) <| Vl (LdS TA24 TS24 rfl) <| Vl (C0 rfl rfl (g53 (rdD (x) (y)))) <| Vl (Bd TQ27 rfl) <| Vl (StS TS27 rfl) <| Vl (As rfl) <| ?_
    refine VLog.nil ⟨by kernel_rfl, ?_⟩
    exact Tg <| Re <| Fi (l := [.agg [boolB (zN (rdN (x) (y))), u32S (zL (rdN (x) (y))), boolB (zN (rdD (x) (y))), u32S (zL (rdD (x) (y)))], numB .i64 (0)]) (Rc (resVar_cell rfl rfl TA27 TS27 (Nat.le_of_ble_eq_true rfl) rfl) (Rc (resVar_tmp rfl rfl) Rn)) (mkR1 hc1)
theorem g18 {k d : Int} (k0 : -9223372036854775808 ≤ k) (k1 : k ≤ 9223372036854775807) (d0 : -9223372036854775808 ≤ d) (d1 : d ≤ 9223372036854775807) : VF Try.prog 18 [numB .i64 (k), numB .i64 (d)] (rR (mkN k d) (mkD k d) (mkE d)) := by
  have i1 := in_i64 k0 k1
  have i2 := in_i64 d0 d1
  exact VF_of P_mixed Try.func18 rfl rfl (by kernel_rfl) <| Sq <| Rg <| Vs (Al 0 TZ27 rfl) <| Vs (As rfl) <| Nx <| Sq <| Rg <| Vs (Mv rfl) <| Vs (C0 rfl rfl (c28 (n := k) (by first | omega | assumption | (simp; done) | (simp; omega)) (by first | omega | assumption | (simp; done) | (simp; omega)))) <| Vs (Mv rfl) <| Vs (C0 rfl rfl (c28 (n := d) (by first | omega | assumption | (simp; done) | (simp; omega)) (by first | omega | assumption | (simp; done) | (simp; omega)))) <| Vs (C0 rfl rfl (g16 (x := k) (y := d) inT inT)) <| Vs (Xt rfl) <| Vs (Xt rfl) <| Vs (StS TS27 rfl) <| Vs (As rfl) <| Nx <| Re <| Fi (l := [.agg [boolB (zN (mkN (k) (d))), u32S (zL (mkN (k) (d))), boolB (zN (mkD (k) (d))), u32S (zL (mkD (k) (d)))], numB .i64 (mkE (d))]) (Rc (resVar_cell rfl rfl TA27 TS27 (Nat.le_of_ble_eq_true rfl) rfl) (Rc (resVar_tmp rfl rfl) Rn)) rfl
end Go.VL

/- Walks over the Go functions, printed by a program of this session over the kit's print, and by hand. -/
set_option linter.unusedVariables false
set_option linter.unusedSimpArgs false
namespace Go.VL
open Go.Proofs
theorem g25i (n : Bool) (A : List Int) (m : Bool) (D : List Int) (hA : A.length ≤ 9223372036854775807) (hD : D.length ≤ 9223372036854775807) (oA : ok32 A) (oD : ok32 D) (h : vR n A m D = false) : VF Try.prog 25 [.agg [boolB (n), u32S (A), boolB (m), u32S (D)]] (.tup [.lit (.string noneB), numB .i64 1]) := by
  exact VF_of P_mixed Try.func25 rfl rfl (by kernel_rfl) <| Sq <| Rg <| Vs (Bx 0 rfl) <| Vs (As rfl) <| Vs (As rfl) <| Nx <| Sq <| Sq <| Rg <| Vs (LdS TA27 TS27 rfl) <| Vs (Kb (show vR n A m D = false from h) (Cf rfl rfl (g20 n A m D hA hD oA oD) rfl)) <| Vs (Un rfl) <| Nx <| Cy rfl <| Sq <| Rg <| Vs (As rfl) <| Vs (As rfl) <| Nx <| Re <| Tr <| Fi (l := [.lit (.string ((⟨#[]⟩ : ByteArray))), numB .i64 (1)]) (Rc (resVar_tmp rfl rfl) (Rc (resVar_tmp rfl rfl) Rn)) rfl
theorem g25 {p q : Int} (ha : okR p q) : VF Try.prog 25 [.agg [boolB (zN (p)), u32S (zL (p)), boolB (zN (q)), u32S (zL (q))]] (.tup [.lit (.string (txQ p q)), numB .i64 0]) := by
  obtain ⟨q0, g0, hp, hq⟩ := ha
  refine VF_of P_mixed Try.func25 rfl rfl (by kernel_rfl) <| Sq <| Rg <| Vs (Bx 0 rfl) <| Vs (As rfl) <| Vs (As rfl) <| Nx <| Sq <| Sq <| Rg <| Vs (LdS TA27 TS27 rfl) <| Vs (Cf rfl rfl (g20q ⟨q0, g0, hp, hq⟩) rfl) <| Vs (Un rfl) <| Nx <| Cz rfl <| Ks <| Tg <| Sq <| Rg <| Vs (Fa TF27_0 rfl) <| Vs (LdS TA24 TS24 rfl) <| Vs (Cf rfl rfl (c22 (x := p) inT) rfl) <| Vs (Mv rfl) <| Vs (Xt rfl) <| Vs (Xt rfl) <| Vs (As rfl) <| Vs (As rfl) <| Nx <| Sq <| Sq <| Rg <| Vs (Mv rfl) <| Vs (Bi (c := .bool false) rfl) <| Vs (Mv rfl) <| Vs (Fa TF27_1 rfl) <| Vs (LdS TA24 TS24 rfl) <| Vs (Cf rfl rfl (g58 (z := q) inT) rfl) <| Vs (Pk rfl) <| Nx <| Cd rfl (fun hc1 => ?_) (fun hc1 => ?_)
  · replace hc1 := of_decide_eq_true hc1
    exact Sq <| Rg <| Vs (Mv rfl) <| Vs (Mv rfl) <| Vs (As rfl) <| Vs (As rfl) <| Nx <| Re <| Tr <| Fi (l := [.lit (.string (txB (p))), numB .i64 (0)]) (Rc (resVar_tmp rfl rfl) (Rc (resVar_tmp rfl rfl) Rn)) (txQ_one hc1)
  · replace hc1 := of_decide_eq_false hc1
    exact Ks <| Tg <| Sq <| Rg <| Vs (Fa TF27_1 rfl) <| Vs (LdS TA24 TS24 rfl) <| Vs (Cf rfl rfl (c22 (x := q) inT) rfl) <| Vs (Mv rfl) <| Vs (Xt rfl) <| Vs (Xt rfl) <| Vs (As rfl) <| Vs (As rfl) <| Nx <| Sq <| Sq <| Rg <| Vs (Mv rfl) <| Vs (Bi (c := .bool false) rfl) <| Nx <| Cz rfl <| Ks <| Tg <| Sq <| Rg <| Vs (Mv rfl) <| Vs (Bo (c := .string (txB (p) ++ (⟨#[47]⟩ : ByteArray))) rfl (bop_str_add (tx_add1 hp))) <| Vs (Mv rfl) <| Vs (Bo (c := .string (txB (p) ++ (⟨#[47]⟩ : ByteArray) ++ txB (q))) rfl (bop_str_add (tx_add2 hp hq))) <| Vs (As rfl) <| Vs (As rfl) <| Nx <| Re <| Fi (l := [.lit (.string (txB (p) ++ (⟨#[47]⟩ : ByteArray) ++ txB (q))), numB .i64 (0)]) (Rc (resVar_tmp rfl rfl) (Rc (resVar_tmp rfl rfl) Rn)) (txQ_two hc1)
theorem N_indexByte (str : ByteArray) (c : Int) : NF Try.prog 135 [.string str, .int .u8 c] (.int .i64 (Lib.indexByte str.data.toList c.toNat.toUInt8)) := by
  refine ⟨rfl, fun W => ?_⟩
  show (callFunc 135 #[.string str, .int .u8 c]).run Try.prog W = _
  rw [run_callFunc_extern Try.func135 (by kernel_rfl) (by kernel_rfl) (by kernel_rfl) (e := Extern.BytealgIndexByte.indexByte) (by kernel_rfl), Lib.run_indexByteString]
  rfl
theorem g131 (s : ByteArray) (c : Int) : VF Try.prog 131 [.lit (.string (s)), numB .u8 (c)] (numB .i64 (Lib.indexByte s.data.toList c.toNat.toUInt8)) := by
  exact VF_of P_mixed Try.func131 rfl rfl (by kernel_rfl) <| Sq <| Rg <| Vs (As rfl) <| Nx <| Sq <| Rg <| Vs (Mv rfl) <| Vs (Mv rfl) <| Vs (Cn rfl (N_indexByte _ _)) <| Vs (As rfl) <| Nx <| Re <| Fi (l := [numB .i64 (Lib.indexByte (s).data.toList (c).toNat.toUInt8)]) (Rc (resVar_tmp rfl rfl) Rn) rfl
theorem g129 (s : ByteArray) : VF Try.prog 129 [.lit (.string (s)), .lit (.string ((⟨#[47]⟩ : ByteArray)))] (numB .i64 (ixB s)) := by
  refine VF_of P_mixed Try.func129 rfl rfl (by kernel_rfl) <| Sq <| Rg <| Vs (As rfl) <| Nx <| Sq <| Rg <| Vs (Mv rfl) <| Vs (Lt TU9 rfl) <| Vs (As rfl) <| Nx <| Sq <| Bk <| Sq <| Rg <| Vs (Mv rfl) <| Vs (Kb (show ((((⟨#[47]⟩ : ByteArray)).size : Int) == 0) = false from rfl) (Bi rfl)) <| Vs (Mv rfl) <| Vs (Mv rfl) <| Vs (Mv rfl) <| Vs (Bi rfl) <| Vs (Pk rfl) <| Vs (As rfl) <| Nx <| Cd rfl (fun hc1 => ?_) (fun hc1 => ?_)
  · replace hc1 := strEq_t hc1
    exact Sq <| Rg <| Vs (As rfl) <| Nx <| Re <| Iq <| Tr <| Fi (l := [numB .i64 (0)]) (Rc (resVar_tmp rfl rfl) Rn) (by rw [← hc1]; rfl)
  · replace hc1 := strEq_f hc1
    exact Sq <| Rg <| Vs (Mv rfl) <| Vs (Kb (show ((((⟨#[47]⟩ : ByteArray)).size : Int) == 1) = true from rfl) (Bi rfl)) <| Vs (As rfl) <| Nx <| Cy rfl <| Sq <| Rg <| Vs (Mv rfl) <| Vs (Mv rfl) <| Vs (Ti (z := (47 : Int)) TU9 rfl rfl (h1 := (by decide))) <| Vs (Cf rfl rfl (g131 _ _) rfl) <| Vs (As rfl) <| Nx <| Re <| Iq <| Tr <| Fi (l := [numB .i64 (Lib.indexByte (s).data.toList ((47 : Int)).toNat.toUInt8)]) (Rc (resVar_tmp rfl rfl) Rn) rfl
theorem g111 (s : ByteArray) (hs : s.size ≤ 9223372036854775807) : VF Try.prog 111 [.lit (.string (s)), .lit (.string ((⟨#[47]⟩ : ByteArray)))] (cuR s) := by
  have hx := ixB_lt s
  refine VF_of P_mixed Try.func111 rfl rfl (by kernel_rfl) <| Sq <| Rg <| Vs (As rfl) <| Vs (As rfl) <| Vs (As rfl) <| Nx <| Sq <| Sq <| Rg <| Vs (Mv rfl) <| Vs (Mv rfl) <| Vs (Cf rfl rfl (g129 _) rfl) <| Vs (As rfl) <| Nx <| Sq <| Rg <| Vs (Mv rfl) <| Vs (Bi rfl) <| Nx <| Cd rfl (fun hc1 => ?_) (fun hc1 => ?_)
  · replace hc1 := of_decide_eq_true hc1
    refine Sq <| Rd (by kernel_rfl) <| Vl (Mv rfl) <| Vl (Mv rfl) <| Vl (Tt TU9 rfl) <| Vl (Mv rfl) <| Vl (Mv rfl) <| Vl (Mv rfl) <| Vl (Lt TU9 rfl) <| Vl (Bo (c := .int .i64 ((ixB s + 1))) rfl (adI (x := ixB s) (y := 1) (by omega))) <| Vl (Tf TU9 rfl) <| Vl (As rfl) <| Vl (As rfl) <| Vl (As rfl) <| ?_
    refine VLog.nil ⟨by kernel_rfl, ?_⟩
    exact Tg <| Re <| Tr <| Fi (l := [.lit (.string ((s).extract 0 (ixB (s)).toNat)), .lit (.string ((s).extract ((ixB s + 1)).toNat (s).size)), boolB (true)]) (Rc (resVar_tmp rfl rfl) (Rc (resVar_tmp rfl rfl) (Rc (resVar_tmp rfl rfl) Rn))) (cu_yes hc1)
  · replace hc1 := of_decide_eq_false hc1
    exact Ks <| Tg <| Sq <| Rg <| Vs (Mv rfl) <| Vs (As rfl) <| Vs (As rfl) <| Vs (As rfl) <| Nx <| Re <| Fi (l := [.lit (.string (s)), .lit (.string ((⟨#[]⟩ : ByteArray))), boolB (false)]) (Rc (resVar_tmp rfl rfl) (Rc (resVar_tmp rfl rfl) (Rc (resVar_tmp rfl rfl) Rn))) (cu_no hc1)
theorem g72 (s : ByteArray) (hs : s.size ≤ 9223372036854775807) : VF Try.prog 72 [.lit (.string (s)), .lit (.string ((⟨#[47]⟩ : ByteArray)))] (cuR s) := by
  exact VF_of P_mixed Try.func72 rfl rfl (by kernel_rfl) <| Sq <| Rg <| Vs (As rfl) <| Vs (As rfl) <| Vs (As rfl) <| Nx <| Sq <| Rg <| Vs (Mv rfl) <| Vs (Mv rfl) <| Vs (Cf rfl rfl (g111 _ hs) rfl) <| Vs (Xt rfl) <| Vs (Xt rfl) <| Vs (Xt rfl) <| Vs (As rfl) <| Vs (As rfl) <| Vs (As rfl) <| Nx <| Re <| Fi (l := [.lit (.string (cuA (s))), .lit (.string (cuB (s))), boolB (cuF (s))]) (Rc (resVar_tmp rfl rfl) (Rc (resVar_tmp rfl rfl) (Rc (resVar_tmp rfl rfl) Rn))) rfl
theorem c24 {s : ByteArray} (hs : s.size ≤ 9223372036854775807) : VF Try.prog 73 [.lit (.string s)] (.tup [iB (pW s), numB .i64 (pX s)]) := by
  have h := f24 s hs
  rw [prR_W] at h
  exact h
theorem g27 (s : ByteArray) (hs : s.size ≤ 9223372036854775807) : VF Try.prog 27 [.lit (.string (s))] (psR s) := by
  have hz := cu_size s
  have w1 := pW_in (cuA s)
  have w2 := pW_in (cuB s)
  refine VF_of P_mixed Try.func27 rfl rfl (by kernel_rfl) <| Sq <| Rg <| Vs (Al 0 TZ27 rfl) <| Vs (As rfl) <| Nx <| Sq <| Rg <| Vs (Mv rfl) <| Vs (Cf rfl rfl (g72 _ hs) rfl) <| Vs (Mv rfl) <| Vs (Xt rfl) <| Vs (Xt rfl) <| Vs (Xt rfl) <| Vs (As rfl) <| Vs (As rfl) <| Vs (As rfl) <| Nx <| Sq <| Rg <| Vs (Mv rfl) <| Vs (C0 rfl rfl (c24 (s := cuA (s)) (by first | omega | assumption | (simp; done) | (simp; omega)))) <| Vs (Mv rfl) <| Vs (Xt rfl) <| Vs (Xt rfl) <| Vs (Al 16 TZ24 rfl) <| Vs (StS TS24 rfl) <| Vs (As rfl) <| Nx <| Sq <| Sq <| Rg <| Vs (Mv rfl) <| Vs (Bi rfl) <| Nx <| Cd rfl (fun hc1 => ?_) (fun hc1 => ?_)
  · replace hc1 := bne_iff_ne.1 hc1
    exact Sq <| Rg <| Vs (Bd TQ27 rfl) <| Vs (Mv rfl) <| Vs (StS TS27 rfl) <| Vs (As rfl) <| Nx <| Re <| Tr <| Fi (l := [.agg [boolB (false), u32S ([]), boolB (false), u32S ([])], numB .i64 (pX (cuA (s)))]) (Rc (resVar_cell rfl rfl TA27 TS27 (Nat.le_of_ble_eq_true rfl) rfl) (Rc (resVar_tmp rfl rfl) Rn)) (ps_bad (ps1 hc1) hc1)
  · replace hc1 := bne_eq_false_iff_eq.1 hc1
    refine Ks <| Tg <| Sq <| Sq <| Rg <| Vs (Mv rfl) <| Vs (Un rfl) <| Nx <| Cd rfl (fun hc2 => ?_) (fun hc2 => ?_)
    · replace hc2 := (bnot_t hc2)
      refine Sq <| Rd (by kernel_rfl) <| Vl (LdS TA24 TS24 rfl) <| Vl (C0 rfl rfl (c28 (n := 1) (by first | omega | assumption | (simp; done) | (simp; omega)) (by first | omega | assumption | (simp; done) | (simp; omega)))) <| Vl (Bd TQ27 rfl) <| Vl (StS TS27 rfl) <| Vl (As rfl) <| ?_
      refine VLog.nil ⟨by kernel_rfl, ?_⟩
      exact Tg <| Re <| Tr <| Fi (l := [.agg [boolB (zN (pW (cuA (s)))), u32S (zL (pW (cuA (s)))), boolB (zN (1)), u32S (zL (1))], numB .i64 (0)]) (Rc (resVar_cell rfl rfl TA27 TS27 (Nat.le_of_ble_eq_true rfl) rfl) (Rc (resVar_tmp rfl rfl) Rn)) (ps2 hc1 hc2)
    · replace hc2 := (bnot_f hc2)
      refine Ks <| Tg <| Sq <| Rg <| Vs (Mv rfl) <| Vs (C0 rfl rfl (c24 (s := cuB (s)) (by first | omega | assumption | (simp; done) | (simp; omega)))) <| Vs (Mv rfl) <| Vs (Xt rfl) <| Vs (Xt rfl) <| Vs (Al 28 TZ24 rfl) <| Vs (StS TS24 rfl) <| Vs (As rfl) <| Nx <| Sq <| Sq <| Rg <| Vs (Mv rfl) <| Vs (Bi rfl) <| Nx <| Cd rfl (fun hc3 => ?_) (fun hc3 => ?_)
      · replace hc3 := bne_iff_ne.1 hc3
        exact Sq <| Rg <| Vs (Bd TQ27 rfl) <| Vs (Mv rfl) <| Vs (StS TS27 rfl) <| Vs (As rfl) <| Nx <| Re <| Tr <| Fi (l := [.agg [boolB (false), u32S ([]), boolB (false), u32S ([])], numB .i64 (pX (cuB (s)))]) (Rc (resVar_cell rfl rfl TA27 TS27 (Nat.le_of_ble_eq_true rfl) rfl) (Rc (resVar_tmp rfl rfl) Rn)) (ps_bad (ps3 hc1 hc2 hc3) hc3)
      · replace hc3 := bne_eq_false_iff_eq.1 hc3
        refine Ks <| Tg <| Sq <| Rg <| Vs (LdS TA24 TS24 rfl) <| Vs (LdS TA24 TS24 rfl) <| Vs (Bd TQ27 rfl) <| Vs (Al 36 TZ27 rfl) <| Vs (StS TS27 rfl) <| Nx <| Sq <| Sq <| Rg <| Vs (LdS TA24 TS24 rfl) <| Vs (Cf rfl rfl (g58 (z := pW (cuB (s))) inT) rfl) <| Vs (Mv rfl) <| Sp 45 rfl (fun hc4 => ?_) (fun hc4 => ?_)
        · replace hc4 := of_decide_eq_true hc4
          exact Sk rfl <| Sk rfl <| Sk rfl <| Vs (Pk rfl) <| Nx <| Cy rfl <| Sq <| Rg <| Vs (Bd TQ27 rfl) <| Vs (StS TS27 rfl) <| Vs (As rfl) <| Nx <| Re <| Tr <| Fi (l := [.agg [boolB (false), u32S ([]), boolB (false), u32S ([])], numB .i64 (3)]) (Rc (resVar_cell rfl rfl TA27 TS27 (Nat.le_of_ble_eq_true rfl) rfl) (Rc (resVar_tmp rfl rfl) Rn)) (ps_bad (ps4 hc1 hc2 hc3 (.inl hc4)) (by decide))
        · replace hc4 := of_decide_eq_false hc4
          refine Vs (LdS TA27 TS27 rfl) <| Vs (Cf rfl rfl (g20v (x := pW (cuA (s))) (y := pW (cuB (s))) inT inT) rfl) <| Vs (Un rfl) <| Vs (Pk rfl) <| Nx <| Cd rfl (fun hc5 => ?_) (fun hc5 => ?_)
          · replace hc5 := (bnot_t hc5)
            exact Sq <| Rg <| Vs (Bd TQ27 rfl) <| Vs (StS TS27 rfl) <| Vs (As rfl) <| Nx <| Re <| Tr <| Fi (l := [.agg [boolB (false), u32S ([]), boolB (false), u32S ([])], numB .i64 (3)]) (Rc (resVar_cell rfl rfl TA27 TS27 (Nat.le_of_ble_eq_true rfl) rfl) (Rc (resVar_tmp rfl rfl) Rn)) (ps_bad (ps4 hc1 hc2 hc3 (.inr hc5)) (by decide))
          · replace hc5 := (bnot_f hc5)
            exact Ks <| Tg <| Sq <| Rg <| Vs (LdS TA27 TS27 rfl) <| Vs (StS TS27 rfl) <| Vs (As rfl) <| Nx <| Re <| Fi (l := [.agg [boolB (zN (pW (cuA (s)))), u32S (zL (pW (cuA (s)))), boolB (zN (pW (cuB (s)))), u32S (zL (pW (cuB (s))))], numB .i64 (0)]) (Rc (resVar_cell rfl rfl TA27 TS27 (Nat.le_of_ble_eq_true rfl) rfl) (Rc (resVar_tmp rfl rfl) Rn)) (ps5 hc1 hc2 hc3 hc4 hc5)
end Go.VL

/- Walks over the Go functions, printed by a program of this session over the kit's print, and by hand. -/
set_option linter.unusedVariables false
set_option linter.unusedSimpArgs false
namespace Go.VL
open Go.Proofs
theorem g64 {p q r s : Int} (hp : inB p = true) (hq : inB q = true) (hr : inB r = true) (hs : inB s = true) (p0 : 0 ≤ p) (q0 : 0 < q) (s0 : 0 ≤ s) (lt : p * s < r * q) : VF Try.prog 64 [.agg [boolB (zN (p)), u32S (zL (p)), boolB (zN (q)), u32S (zL (q))], .agg [boolB (zN (r)), u32S (zL (r)), boolB (zN (s)), u32S (zL (s))]] (poR (cfQ p q r s)) := by
  refine VF_of P_mixed Try.func64 rfl rfl (by kernel_rfl) <| Sq <| Rg <| Vs (Bx 0 rfl) <| Vs (Bx 1 rfl) <| Vs (Al 2 TZ27 rfl) <| Vs (As rfl) <| Nx <| VCode.scope <| Sq <| Rd (by kernel_rfl) <| Vl (Fa TF27_0 rfl) <| Vl (LdS TA24 TS24 rfl) <| Vl (Fa TF27_1 rfl) <| Vl (LdS TA24 TS24 rfl) <| Vl (Fa TF27_0 rfl) <| Vl (LdS TA24 TS24 rfl) <| Vl (Fa TF27_1 rfl) <| Vl (LdS TA24 TS24 rfl) <| Vl (Al 12 TZ24 rfl) <| Vl (Al 13 TZ24 rfl) <| Vl (Al 14 TZ24 rfl) <| Vl (Al 15 TZ24 rfl) <| Vl (StS TS24 rfl) <| Vl (StS TS24 rfl) <| Vl (StS TS24 rfl) <| Vl (StS TS24 rfl) <| ?_
  refine VLog.nil ⟨by kernel_rfl, ?_⟩
  refine Tg <| Sq <| Rg <| Vs (C0 rfl rfl (c28 (n := 1) (by first | omega | assumption | (simp; done) | (simp; omega)) (by first | omega | assumption | (simp; done) | (simp; omega)))) <| Vs (Al 21 TZ24 rfl) <| Vs (StS TS24 rfl) <| Nx <| Sq <| Rg <| Vs (An rfl) <| Nx <| Sq <| VCode.label <| Tg <| VCode.join (α := (List Int) × (Nat)) (fun x_ => match x_ with | (L, mm) => (91, sl [(4, .ptr 2 (0)), (10, .ptr 21 (0)), (11, .own 90 (mm))], en [(2, ⟨4, [vB (false), vS ([]), vB (false), vS ([])], true⟩), (21, ⟨2, [vB (zN (1)), vS (zL (1))], true⟩), (90, rowT 2 fZ (L))])) (fun x_ => match x_ with | (L, mm) => (cfP ((q + s).toNat + 1) p q r s = some L ∧ L.length = mm) ∧ 0 < mm ∧ mm ≤ 8194 ∧ ∀ z ∈ L, inB z = true) ?_ ?_
  · skip
    refine Bk <| VCode.loop (α := ((Int) × (Int) × (Int) × (Int)) ⊕ ((List Int) × (Nat) × (Int) × (Int) × (Int) × (Int))) (fun x_ => match x_ with | .inl (n, d, m, f) => (22, sl [(4, .ptr 2 (0)), (6, .ptr 12 (0)), (7, .ptr 13 (0)), (8, .ptr 14 (0)), (9, .ptr 15 (0)), (10, .ptr 21 (0)), (11, .b .nil)], en [(2, ⟨4, [vB (false), vS ([]), vB (false), vS ([])], true⟩), (12, ⟨2, [vB (zN (n)), vS (zL (n))], true⟩), (13, ⟨2, [vB (zN (d)), vS (zL (d))], true⟩), (14, ⟨2, [vB (zN (m)), vS (zL (m))], true⟩), (15, ⟨2, [vB (zN (f)), vS (zL (f))], true⟩), (21, ⟨2, [vB (zN (1)), vS (zL (1))], true⟩)]) | .inr (L, mm, n, d, m, f) => (91, sl [(4, .ptr 2 (0)), (6, .ptr 12 (0)), (7, .ptr 13 (0)), (8, .ptr 14 (0)), (9, .ptr 15 (0)), (10, .ptr 21 (0)), (11, .own 90 (mm))], en [(2, ⟨4, [vB (false), vS ([]), vB (false), vS ([])], true⟩), (12, ⟨2, [vB (zN (n)), vS (zL (n))], true⟩), (13, ⟨2, [vB (zN (d)), vS (zL (d))], true⟩), (14, ⟨2, [vB (zN (m)), vS (zL (m))], true⟩), (15, ⟨2, [vB (zN (f)), vS (zL (f))], true⟩), (21, ⟨2, [vB (zN (1)), vS (zL (1))], true⟩), (90, rowT 2 fZ (L))])) (fun x_ => match x_ with | .inl (n, d, m, f) => PosI (cfP ((q + s).toNat + 1) p q r s) [] n d m f | .inr (L, mm, n, d, m, f) => PosI (cfP ((q + s).toNat + 1) p q r s) L n d m f ∧ L.length = mm) (fun x_ => match x_ with | .inl (n, d, m, f) => (d + f).toNat | .inr (L, mm, n, d, m, f) => (d + f).toNat) (.inl (p, q, r, s)) (PosI.start p0 q0 s0 lt hp hq hr hs) Wk ?_
    rintro (⟨n, d, m, f⟩ | ⟨L, mm, n, d, m, f⟩) hok
    · change VCode _ _ _ 22 (sl _) (en _) _
      have z1 := hok.pd
      obtain ⟨i1, i2, i3, i4⟩ := hok.i
      have iq := fdiv_in i1 (Int.ne_of_gt hok.pd)
      obtain ⟨im, is⟩ := hok.more
      have hl := hok.len
      have z2 := hok.pf
      refine Bk <| Sq <| Rg <| Vs (LdS TA24 TS24 rfl) <| Vs (LdS TA24 TS24 rfl) <| Vs (C0 rfl rfl (c18 (x := n) (y := d) inT inT (by first | with_reducible assumption | omega))) <| Vs (Mv rfl) <| Vs (Xt rfl) <| Vs (Xt rfl) <| Vs (Xt rfl) <| Vs (Al 29 TZ24 rfl) <| Vs (Al 30 TZ24 rfl) <| Vs (StS TS24 rfl) <| Vs (StS TS24 rfl) <| Vs (As rfl) <| Nx <| Sq <| Rg <| Vs (LdS TA24 TS24 rfl) <| Vs (LdS TA24 TS24 rfl) <| Vs (C0 rfl rfl (c38 (x := (n).fdiv (d)) (y := 1) inT inT)) <| Vs (Mv rfl) <| Vs (Xt rfl) <| Vs (Xt rfl) <| Vs (Al 40 TZ24 rfl) <| Vs (StS TS24 rfl) <| Vs (As rfl) <| Nx <| Sq <| Sq <| Rg <| Vs (Mv rfl) <| Vs (Bi rfl) <| Nx <| Cd rfl (fun hc1 => ?_) (fun hc1 => ?_)
      · replace hc1 := bne_iff_ne.1 hc1
        exact Sq <| Rg <| Vs (Bd TQ27 rfl) <| Vs (Mv rfl) <| Vs (StS TS27 rfl) <| Vs (As rfl) <| Nx <| Re <| Tr <| Iq <| Or <| Iq <| Jr <| Fi (l := [.agg [boolB (false), u32S ([]), boolB (false), u32S ([])], numB .i64 (zE (((n).fdiv (d)) + (1)))]) (Rc (resVar_cell rfl rfl TA27 TS27 (Nat.le_of_ble_eq_true rfl) rfl) (Rc (resVar_tmp rfl rfl) Rn)) (po_none (show cfQ p q r s = none by rw [cfQ, hok.none' hc1]; rfl) hc1 (zE_or _))
      · replace hc1 := bne_eq_false_iff_eq.1 hc1
        have iN := zE_in.1 hc1
        refine Ks <| Tg <| Sq <| Bk <| Sq <| Sq <| Rg <| Vs (LdS TA24 TS24 rfl) <| Vs (Cf rfl rfl (g51 (z := f) inT) rfl) <| Vs (As rfl) <| Nx <| Cd rfl (fun hc2 => ?_) (fun hc2 => ?_)
        · replace hc2 := of_decide_eq_true hc2
          refine Ks <| Tg <| Cd rfl (fun hc3 => ?_) (fun hc3 => ?_)
          · replace hc3 := of_decide_eq_true hc3
            exact Sq <| Rg <| Vs (Mv rfl) <| Vs (LdS TA24 TS24 rfl) <| Vs (sq1 50 rfl (.buildS _ 1 _ 24 [.agg [vB (zN (((n).fdiv (d)) + (1))), vS (zL (((n).fdiv (d)) + (1)))]] 2 _ [vB (zN (((n).fdiv (d)) + (1))), vS (zL (((n).fdiv (d)) + (1)))] rfl TU96 TZ24 TS24 (List.cons_ne_nil _ _) (by decide) rfl rfl)) <| Vs (An1 51 TU96 TS24 TB24 TN24 (x1 := ((n).fdiv (d)) + (1)) (f := fZ) rfl fZ_len) <| Vs (As rfl) <| Nx <| Ke <| Io <| Te <| Io <| Oe <| Ih <| Jg ([((n).fdiv (d)) + (1)], 1) ⟨⟨hok.done hc1 (.inl hc2), rfl⟩, by decide, by decide, one_in iN⟩ (Wt [(90, 51)])
          · replace hc3 := of_decide_eq_false hc3
            exact absurd hc2 hc3
        · replace hc2 := of_decide_eq_false hc2
          refine Rg <| Vs (LdS TA24 TS24 rfl) <| Vs (LdS TA24 TS24 rfl) <| Vs (Bd TQ27 rfl) <| Vs (LdS TA24 TS24 rfl) <| Vs (LdS TA24 TS24 rfl) <| Vs (Bd TQ27 rfl) <| Vs (Cf rfl rfl (g63 (p := ((n).fdiv (d)) + (1)) (q := 1) (r := m) (s := f) inT inT inT inT (by first | omega | assumption | (simp; done) | (simp; omega)) (by first | omega | assumption | (simp; done) | (simp; omega))) rfl) <| Vs (Bi rfl) <| Vs (As rfl) <| Nx <| Cd rfl (fun hc4 => ?_) (fun hc4 => ?_)
          · replace hc4 := of_decide_eq_true hc4
            exact Sq <| Rg <| Vs (Mv rfl) <| Vs (LdS TA24 TS24 rfl) <| Vs (sq1 59 rfl (.buildS _ 1 _ 24 [.agg [vB (zN (((n).fdiv (d)) + (1))), vS (zL (((n).fdiv (d)) + (1)))]] 2 _ [vB (zN (((n).fdiv (d)) + (1))), vS (zL (((n).fdiv (d)) + (1)))] rfl TU96 TZ24 TS24 (List.cons_ne_nil _ _) (by decide) rfl rfl)) <| Vs (An1 60 TU96 TS24 TB24 TN24 (x1 := ((n).fdiv (d)) + (1)) (f := fZ) rfl fZ_len) <| Vs (As rfl) <| Nx <| Ke <| Io <| Te <| Io <| Oe <| Ih <| Jg ([((n).fdiv (d)) + (1)], 1) ⟨⟨hok.done hc1 (.inr (by have h9 := cmp3_lt.1 hc4; rwa [Int.mul_one] at h9)), rfl⟩, by decide, by decide, one_in iN⟩ (Wt [(90, 60)])
          · replace hc4 := of_decide_eq_false hc4
            refine Ks <| Ig <| Tg <| Sq <| Rg <| Vs (Mv rfl) <| Vs (LdS TA24 TS24 rfl) <| Vs (sq1 59 rfl (.buildS _ 1 _ 24 [.agg [vB (zN ((n).fdiv (d))), vS (zL ((n).fdiv (d)))]] 2 _ [vB (zN ((n).fdiv (d))), vS (zL ((n).fdiv (d)))] rfl TU96 TZ24 TS24 (List.cons_ne_nil _ _) (by decide) rfl rfl)) <| Vs (An1 60 TU96 TS24 TB24 TN24 (x1 := (n).fdiv (d)) (f := fZ) rfl fZ_len) <| Vs (As rfl) <| Nx <| Sq <| Rg <| Vs (LdS TA24 TS24 rfl) <| Vs (LdS TA24 TS24 rfl) <| Vs (C0 rfl rfl (c29 (x := (n).fdiv (d)) (y := f) inT inT)) <| Vs (Mv rfl) <| Vs (Xt rfl) <| Vs (Xt rfl) <| Vs (Al 68 TZ24 rfl) <| Vs (StS TS24 rfl) <| Vs (As rfl) <| Nx <| Sq <| Rg <| Vs (LdS TA24 TS24 rfl) <| Vs (LdS TA24 TS24 rfl) <| Vs (C0 rfl rfl (c40 (x := m) (y := ((n).fdiv (d)) * (f)) inT inT)) <| Vs (Mv rfl) <| Vs (Xt rfl) <| Vs (Xt rfl) <| Vs (Al 77 TZ24 rfl) <| Vs (StS TS24 rfl) <| Vs (As rfl) <| Nx <| Rd (by kernel_rfl) <| Vl (LdS TA24 TS24 rfl) <| Vl (LdS TA24 TS24 rfl) <| Vl (LdS TA24 TS24 rfl) <| Vl (LdS TA24 TS24 rfl) <| Vl (StS TS24 rfl) <| Vl (StS TS24 rfl) <| Vl (StS TS24 rfl) <| Vl (StS TS24 rfl) <| ?_
            refine VLog.nil ⟨by kernel_rfl, ?_⟩
            exact Ig <| Go (.inr ([(n).fdiv (d)], 1, f, m - n.fdiv d * f, d, n.fmod d)) ⟨hok.next hc1 hc2 (fun h9 => hc4 (cmp3_lt.2 (by rw [Int.mul_one]; exact h9))), rfl⟩ (Wt [(90, 60)]) (hok.mu (fun h9 => hc4 (cmp3_lt.2 (by rw [Int.mul_one]; exact h9))))
    · change VCode _ _ _ 91 (sl _) (en _) _
      obtain ⟨hok, hm⟩ := hok
      have z1 := hok.pd
      obtain ⟨i1, i2, i3, i4⟩ := hok.i
      have iq := fdiv_in i1 (Int.ne_of_gt hok.pd)
      obtain ⟨im, is⟩ := hok.more
      have hl := hok.len
      have z2 := hok.pf
      refine Bk <| Sq <| Rg <| Vs (LdS TA24 TS24 rfl) <| Vs (LdS TA24 TS24 rfl) <| Vs (C0 rfl rfl (c18 (x := n) (y := d) inT inT (by first | with_reducible assumption | omega))) <| Vs (Mv rfl) <| Vs (Xt rfl) <| Vs (Xt rfl) <| Vs (Xt rfl) <| Vs (Al 98 TZ24 rfl) <| Vs (Al 99 TZ24 rfl) <| Vs (StS TS24 rfl) <| Vs (StS TS24 rfl) <| Vs (As rfl) <| Nx <| Sq <| Rg <| Vs (LdS TA24 TS24 rfl) <| Vs (LdS TA24 TS24 rfl) <| Vs (C0 rfl rfl (c38 (x := (n).fdiv (d)) (y := 1) inT inT)) <| Vs (Mv rfl) <| Vs (Xt rfl) <| Vs (Xt rfl) <| Vs (Al 109 TZ24 rfl) <| Vs (StS TS24 rfl) <| Vs (As rfl) <| Nx <| Sq <| Sq <| Rg <| Vs (Mv rfl) <| Vs (Bi rfl) <| Nx <| Cd rfl (fun hc5 => ?_) (fun hc5 => ?_)
      · replace hc5 := bne_iff_ne.1 hc5
        exact Sq <| Rg <| Vs (Bd TQ27 rfl) <| Vs (Mv rfl) <| Vs (StS TS27 rfl) <| Vs (As rfl) <| Nx <| Re <| Tr <| Iq <| Or <| Iq <| Jr <| Fi (l := [.agg [boolB (false), u32S ([]), boolB (false), u32S ([])], numB .i64 (zE (((n).fdiv (d)) + (1)))]) (Rc (resVar_cell rfl rfl TA27 TS27 (Nat.le_of_ble_eq_true rfl) rfl) (Rc (resVar_tmp rfl rfl) Rn)) (po_none (show cfQ p q r s = none by rw [cfQ, hok.none' hc5]; rfl) hc5 (zE_or _))
      · replace hc5 := bne_eq_false_iff_eq.1 hc5
        have iN := zE_in.1 hc5
        refine Ks <| Tg <| Sq <| Bk <| Sq <| Sq <| Rg <| Vs (LdS TA24 TS24 rfl) <| Vs (Cf rfl rfl (g51 (z := f) inT) rfl) <| Vs (As rfl) <| Nx <| Cd rfl (fun hc6 => ?_) (fun hc6 => ?_)
        · replace hc6 := of_decide_eq_true hc6
          refine Ks <| Tg <| Cd rfl (fun hc7 => ?_) (fun hc7 => ?_)
          · replace hc7 := of_decide_eq_true hc7
            exact Sq <| Rg <| Vs (Mv rfl) <| Vs (LdS TA24 TS24 rfl) <| Vs (sq1 119 rfl (.buildS _ 1 _ 24 [.agg [vB (zN (((n).fdiv (d)) + (1))), vS (zL (((n).fdiv (d)) + (1)))]] 2 _ [vB (zN (((n).fdiv (d)) + (1))), vS (zL (((n).fdiv (d)) + (1)))] rfl TU96 TZ24 TS24 (List.cons_ne_nil _ _) (by decide) rfl rfl)) <| Vs (Ao1 120 TU96 TS24 TB24 TN24 (x1 := ((n).fdiv (d)) + (1)) (f := fZ) rfl fZ_len) <| Vs (As rfl) <| Nx <| Ke <| Io <| Te <| Io <| Oe <| Ih <| Jg ((L) ++ [((n).fdiv (d)) + (1)], (mm) + 1) ⟨⟨hok.done hc5 (.inl hc6), by simp [hm]⟩, by omega, by omega, app_in hok.ins iN⟩ (Wt [(90, 120)])
          · replace hc7 := of_decide_eq_false hc7
            exact absurd hc6 hc7
        · replace hc6 := of_decide_eq_false hc6
          refine Rg <| Vs (LdS TA24 TS24 rfl) <| Vs (LdS TA24 TS24 rfl) <| Vs (Bd TQ27 rfl) <| Vs (LdS TA24 TS24 rfl) <| Vs (LdS TA24 TS24 rfl) <| Vs (Bd TQ27 rfl) <| Vs (Cf rfl rfl (g63 (p := ((n).fdiv (d)) + (1)) (q := 1) (r := m) (s := f) inT inT inT inT (by first | omega | assumption | (simp; done) | (simp; omega)) (by first | omega | assumption | (simp; done) | (simp; omega))) rfl) <| Vs (Bi rfl) <| Vs (As rfl) <| Nx <| Cd rfl (fun hc8 => ?_) (fun hc8 => ?_)
          · replace hc8 := of_decide_eq_true hc8
            exact Sq <| Rg <| Vs (Mv rfl) <| Vs (LdS TA24 TS24 rfl) <| Vs (sq1 128 rfl (.buildS _ 1 _ 24 [.agg [vB (zN (((n).fdiv (d)) + (1))), vS (zL (((n).fdiv (d)) + (1)))]] 2 _ [vB (zN (((n).fdiv (d)) + (1))), vS (zL (((n).fdiv (d)) + (1)))] rfl TU96 TZ24 TS24 (List.cons_ne_nil _ _) (by decide) rfl rfl)) <| Vs (Ao1 129 TU96 TS24 TB24 TN24 (x1 := ((n).fdiv (d)) + (1)) (f := fZ) rfl fZ_len) <| Vs (As rfl) <| Nx <| Ke <| Io <| Te <| Io <| Oe <| Ih <| Jg ((L) ++ [((n).fdiv (d)) + (1)], (mm) + 1) ⟨⟨hok.done hc5 (.inr (by have h9 := cmp3_lt.1 hc8; rwa [Int.mul_one] at h9)), by simp [hm]⟩, by omega, by omega, app_in hok.ins iN⟩ (Wt [(90, 129)])
          · replace hc8 := of_decide_eq_false hc8
            refine Ks <| Ig <| Tg <| Sq <| Rg <| Vs (Mv rfl) <| Vs (LdS TA24 TS24 rfl) <| Vs (sq1 128 rfl (.buildS _ 1 _ 24 [.agg [vB (zN ((n).fdiv (d))), vS (zL ((n).fdiv (d)))]] 2 _ [vB (zN ((n).fdiv (d))), vS (zL ((n).fdiv (d)))] rfl TU96 TZ24 TS24 (List.cons_ne_nil _ _) (by decide) rfl rfl)) <| Vs (Ao1 129 TU96 TS24 TB24 TN24 (x1 := (n).fdiv (d)) (f := fZ) rfl fZ_len) <| Vs (As rfl) <| Nx <| Sq <| Rg <| Vs (LdS TA24 TS24 rfl) <| Vs (LdS TA24 TS24 rfl) <| Vs (C0 rfl rfl (c29 (x := (n).fdiv (d)) (y := f) inT inT)) <| Vs (Mv rfl) <| Vs (Xt rfl) <| Vs (Xt rfl) <| Vs (Al 137 TZ24 rfl) <| Vs (StS TS24 rfl) <| Vs (As rfl) <| Nx <| Sq <| Rg <| Vs (LdS TA24 TS24 rfl) <| Vs (LdS TA24 TS24 rfl) <| Vs (C0 rfl rfl (c40 (x := m) (y := ((n).fdiv (d)) * (f)) inT inT)) <| Vs (Mv rfl) <| Vs (Xt rfl) <| Vs (Xt rfl) <| Vs (Al 146 TZ24 rfl) <| Vs (StS TS24 rfl) <| Vs (As rfl) <| Nx <| Rd (by kernel_rfl) <| Vl (LdS TA24 TS24 rfl) <| Vl (LdS TA24 TS24 rfl) <| Vl (LdS TA24 TS24 rfl) <| Vl (LdS TA24 TS24 rfl) <| Vl (StS TS24 rfl) <| Vl (StS TS24 rfl) <| Vl (StS TS24 rfl) <| Vl (StS TS24 rfl) <| ?_
            refine VLog.nil ⟨by kernel_rfl, ?_⟩
            exact Ig <| Go (.inr ((L) ++ [(n).fdiv (d)], (mm) + 1, f, m - n.fdiv d * f, d, n.fmod d)) ⟨hok.next hc5 hc6 (fun h9 => hc8 (cmp3_lt.2 (by rw [Int.mul_one]; exact h9))), by simp [hm]⟩ (Wt [(90, 129)]) (hok.mu (fun h9 => hc8 (cmp3_lt.2 (by rw [Int.mul_one]; exact h9))))
  · rintro ⟨L, mm⟩ hok
    obtain ⟨⟨hR, hm⟩, m0, m1, hi⟩ := hok
    change VCode _ _ _ 91 (sl _) (en _) _
    refine Sq <| Rd (by kernel_rfl) <| Vl (Mv rfl) <| Vl (Mv rfl) <| Vl (Lo TU96 rfl) <| Vl (Bo rfl suI) <| Vl (IT TU96 TS24 rfl) <| Vl (LT fZ_len TA24 TS24 rfl (gd (d := 0) (by first | omega | (simp; done) | (simp; omega))) rfl) <| Vl (LdS TA24 TS24 rfl) <| Vl (Al 98 TZ24 rfl) <| Vl (Al 99 TZ24 rfl) <| Vl (StS TS24 rfl) <| Vl (StS TS24 rfl) <| ?_
    refine VLog.nil ⟨by kernel_rfl, ?_⟩
    refine Tg <| Sq <| Sq <| Rg <| Vs (Mv rfl) <| Vs (Lo TU96 rfl) <| Vs (Bo rfl suI) <| Vs (As rfl) <| Nx <| Bk <| VCode.loop (α := (Int) × (Int) × (Int)) (fun x_ => match x_ with | (i, a, b) => (100, sl [(4, .ptr 2 (0)), (11, .own 90 (mm)), (21, .ptr 98 (0)), (22, .ptr 99 (0)), (23, vI .i64 (i))], en [(2, ⟨4, [vB (false), vS ([]), vB (false), vS ([])], true⟩), (90, rowT 2 fZ (L)), (98, ⟨2, [vB (zN (a)), vS (zL (a))], true⟩), (99, ⟨2, [vB (zN (b)), vS (zL (b))], true⟩)])) (fun x_ => match x_ with | (i, a, b) => FoldI (cfL (cfP ((q + s).toNat + 1) p q r s)) L (i + 1).toNat a b ∧ -1 ≤ i ∧ i < L.length) (fun x_ => match x_ with | (i, a, b) => (i + 1).toNat) ((((mm : Nat) : Int) - 2), L.getD ((((mm : Nat) : Int) - 1)).toNat 0, 1) ⟨fold0 hR hm m0 hi, by omega, by omega⟩ (Wt []) ?_
    rintro ⟨i, a, b⟩ hok2
    obtain ⟨hF, i0, i1⟩ := hok2
    obtain ⟨ia, ib⟩ := hF.i
    have ie := getD_in hi i.toNat
    change VCode _ _ _ 100 (sl _) (en _) _
    refine Sq <| Sq <| Rg <| Vs (Mv rfl) <| Vs (Bi rfl) <| Nx <| Cd rfl (fun hc9 => ?_) (fun hc9 => ?_)
    · replace hc9 := of_decide_eq_true hc9
      have hF1 := foldi (i := i) (by omega) hF
      refine Ks <| Tg <| Sq <| Bk <| Sq <| Rd (by kernel_rfl) <| Vl (Mv rfl) <| Vl (Mv rfl) <| Vl (IT TU96 TS24 rfl) <| Vl (LT fZ_len TA24 TS24 rfl (gd (d := 0) (by first | omega | (simp; done) | (simp; omega))) rfl) <| Vl (LdS TA24 TS24 rfl) <| Vl (C0 rfl rfl (c29 (x := (L).getD ((i).toNat) 0) (y := a) inT inT)) <| Vl (Mv rfl) <| Vl (Xt rfl) <| Vl (Xt rfl) <| Vl (Al 111 TZ24 rfl) <| Vl (StS TS24 rfl) <| Vl (As rfl) <| ?_
      refine VLog.nil ⟨by kernel_rfl, ?_⟩
      refine Tg <| Sq <| Sq <| Rg <| Vs (Mv rfl) <| Vs (Bi rfl) <| Nx <| Cd rfl (fun hc10 => ?_) (fun hc10 => ?_)
      · replace hc10 := bne_iff_ne.1 hc10
        exact Sq <| Rg <| Vs (Bd TQ27 rfl) <| Vs (Mv rfl) <| Vs (StS TS27 rfl) <| Vs (As rfl) <| Nx <| Re <| Tr <| Iq <| Tr <| Or <| Iq <| Tr <| Fi (l := [.agg [boolB (false), u32S ([]), boolB (false), u32S ([])], numB .i64 (zE (((L).getD ((i).toNat) 0) * (a)))]) (Rc (resVar_cell rfl rfl TA27 TS27 (Nat.le_of_ble_eq_true rfl) rfl) (Rc (resVar_tmp rfl rfl) Rn)) (po_none (show cfQ p q r s = none from hF1.no1 hc10) hc10 (zE_or _))
      · replace hc10 := bne_eq_false_iff_eq.1 hc10
        have iT := zE_in.1 hc10
        refine Ks <| Tg <| Sq <| Rg <| Vs (LdS TA24 TS24 rfl) <| Vs (LdS TA24 TS24 rfl) <| Vs (C0 rfl rfl (c38 (x := ((L).getD ((i).toNat) 0) * (a)) (y := b) inT inT)) <| Vs (Mv rfl) <| Vs (Xt rfl) <| Vs (Xt rfl) <| Vs (StS TS24 rfl) <| Vs (As rfl) <| Nx <| Sq <| Sq <| Rg <| Vs (Mv rfl) <| Vs (Bi rfl) <| Nx <| Cd rfl (fun hc11 => ?_) (fun hc11 => ?_)
        · replace hc11 := bne_iff_ne.1 hc11
          exact Sq <| Rg <| Vs (Bd TQ27 rfl) <| Vs (Mv rfl) <| Vs (StS TS27 rfl) <| Vs (As rfl) <| Nx <| Re <| Tr <| Iq <| Tr <| Or <| Iq <| Tr <| Fi (l := [.agg [boolB (false), u32S ([]), boolB (false), u32S ([])], numB .i64 (zE ((((L).getD ((i).toNat) 0) * (a)) + (b)))]) (Rc (resVar_cell rfl rfl TA27 TS27 (Nat.le_of_ble_eq_true rfl) rfl) (Rc (resVar_tmp rfl rfl) Rn)) (po_none (show cfQ p q r s = none from hF1.no2 hc10 hc11) hc11 (zE_or _))
        · replace hc11 := bne_eq_false_iff_eq.1 hc11
          exact Ks <| Tg <| Rg <| Vs (LdS TA24 TS24 rfl) <| Vs (LdS TA24 TS24 rfl) <| Vs (StS TS24 rfl) <| Vs (StS TS24 rfl) <| VList.nil <| Ig <| Tg <| Rg <| Vs (Mv rfl) <| Vs (Bo rfl suI) <| Vs (As rfl) <| VList.nil <| Go (i - 1, (L).getD ((i)).toNat 0 * a + b, a) ⟨foldn (hF1.next hc10 hc11), by omega, by omega⟩ (Wt [])
    · replace hc9 := of_decide_eq_false hc9
      exact Ke <| Te <| Oe <| Ih <| Tg <| Sq <| Rg <| Vs (LdS TA24 TS24 rfl) <| Vs (LdS TA24 TS24 rfl) <| Vs (Bd TQ27 rfl) <| Vs (StS TS27 rfl) <| Vs (As rfl) <| Nx <| Re <| Fi (l := [.agg [boolB (zN (a)), u32S (zL (a)), boolB (zN (b)), u32S (zL (b))], numB .i64 (0)]) (Rc (resVar_cell rfl rfl TA27 TS27 (Nat.le_of_ble_eq_true rfl) rfl) (Rc (resVar_tmp rfl rfl) Rn)) (po_some (show cfQ p q r s = some (a, b) from foldz (i := i) (by omega) hF))
end Go.VL

/- Walks over the Go functions, printed by a program of this session over the kit's print, and by hand. -/
set_option linter.unusedVariables false
set_option linter.unusedSimpArgs false
namespace Go.VL
open Go.Proofs
theorem g23i (n : Bool) (A : List Int) (m : Bool) (D : List Int) (n2 : Bool) (A2 : List Int) (m2 : Bool) (D2 : List Int) (hA : A.length ≤ 9223372036854775807) (hD : D.length ≤ 9223372036854775807) (hA2 : A2.length ≤ 9223372036854775807) (hD2 : D2.length ≤ 9223372036854775807) (oA : ok32 A) (oD : ok32 D) (oA2 : ok32 A2) (oD2 : ok32 D2) (h : (vR n A m D && vR n2 A2 m2 D2) = false) : VF Try.prog 23 [.agg [boolB (n), u32S (A), boolB (m), u32S (D)], .agg [boolB (n2), u32S (A2), boolB (m2), u32S (D2)]] (rR 0 0 1) := by
  exact VF_of P_mixed Try.func23 rfl rfl (by kernel_rfl) <| Sq <| Rg <| Vs (Bx 0 rfl) <| Vs (Bx 1 rfl) <| Vs (Al 2 TZ27 rfl) <| Vs (As rfl) <| Nx <| Sq <| Sq <| Rg <| Vs (LdS TA27 TS27 rfl) <| Vs (LdS TA27 TS27 rfl) <| Vs (sq1 6 rfl (.buildS _ 2 _ 27 [.agg [vB (n), vS (A), vB (m), vS (D)], .agg [vB (n2), vS (A2), vB (m2), vS (D2)]] 4 _ [vB (n), vS (A), vB (m), vS (D), vB (n2), vS (A2), vB (m2), vS (D2)] rfl TU95 TZ27 TS27 (List.cons_ne_nil _ _) (by decide) rfl rfl)) <| Vs (Kb (show (vR n A m D && vR n2 A2 m2 D2) = false from h) (Cf rfl rfl (g62 n A m D n2 A2 m2 D2 hA hD hA2 hD2 oA oD oA2 oD2) rfl)) <| Vs (Un rfl) <| Vs (Mv rfl) <| Sk rfl <| Sk rfl <| Sk rfl <| Sk rfl <| Vs (Pk rfl) <| Nx <| Cy rfl <| Sq <| Rg <| Vs (Bd TQ27 rfl) <| Vs (StS TS27 rfl) <| Vs (As rfl) <| Nx <| Re <| Tr <| Fi (l := [.agg [boolB (false), u32S ([]), boolB (false), u32S ([])], numB .i64 (1)]) (Rc (resVar_cell rfl rfl TA27 TS27 (Nat.le_of_ble_eq_true rfl) rfl) (Rc (resVar_tmp rfl rfl) Rn)) (by rw [rR, qB_zero]; rfl)
theorem g23 {p q r s : Int} (ha : okR p q) (hb : okR r s) : VF Try.prog 23 [.agg [boolB (zN (p)), u32S (zL (p)), boolB (zN (q)), u32S (zL (q))], .agg [boolB (zN (r)), u32S (zL (r)), boolB (zN (s)), u32S (zL (s))]] (siR p q r s) := by
  obtain ⟨q0, g0, hp, hq⟩ := ha
  obtain ⟨s0, g1, hr, hs⟩ := hb
  refine VF_of P_mixed Try.func23 rfl rfl (by kernel_rfl) <| Sq <| Rg <| Vs (Bx 0 rfl) <| Vs (Bx 1 rfl) <| Vs (Al 2 TZ27 rfl) <| Vs (As rfl) <| Nx <| Sq <| Sq <| Rg <| Vs (LdS TA27 TS27 rfl) <| Vs (LdS TA27 TS27 rfl) <| Vs (sq1 6 rfl (.buildS _ 2 _ 27 [.agg [vB (zN (p)), vS (zL (p)), vB (zN (q)), vS (zL (q))], .agg [vB (zN (r)), vS (zL (r)), vB (zN (s)), vS (zL (s))]] 4 _ [vB (zN (p)), vS (zL (p)), vB (zN (q)), vS (zL (q)), vB (zN (r)), vS (zL (r)), vB (zN (s)), vS (zL (s))] rfl TU95 TZ27 TS27 (List.cons_ne_nil _ _) (by decide) rfl rfl)) <| Vs (Cf rfl rfl (g62q ⟨q0, g0, hp, hq⟩ ⟨s0, g1, hr, hs⟩) rfl) <| Vs (Un rfl) <| Vs (Mv rfl) <| Vs (LdS TA27 TS27 rfl) <| Vs (LdS TA27 TS27 rfl) <| Vs (Cf rfl rfl (g63 (p := p) (q := q) (r := r) (s := s) inT inT inT inT (by first | omega | assumption | (simp; done) | (simp; omega)) (by first | omega | assumption | (simp; done) | (simp; omega))) rfl) <| Vs (Bi rfl) <| Vs (Pk rfl) <| Nx <| Cd rfl (fun hc1 => ?_) (fun hc1 => ?_)
  · replace hc1 := of_decide_eq_true hc1
    exact Sq <| Rg <| Vs (Bd TQ27 rfl) <| Vs (StS TS27 rfl) <| Vs (As rfl) <| Nx <| Re <| Tr <| Fi (l := [.agg [boolB (false), u32S ([]), boolB (false), u32S ([])], numB .i64 (1)]) (Rc (resVar_cell rfl rfl TA27 TS27 (Nat.le_of_ble_eq_true rfl) rfl) (Rc (resVar_tmp rfl rfl) Rn)) (si_no hc1)
  · replace hc1 := of_decide_eq_false hc1
    refine Ks <| Tg <| Sq <| Rd (by kernel_rfl) <| Vl (LdS TA27 TS27 rfl) <| Vl (Cf rfl rfl (g36 (p := p) (q := q) (⟨q0, g0, hp, hq⟩)) rfl) <| Vl (LdS TA27 TS27 rfl) <| Vl (Cf rfl rfl (g36 (p := r) (q := s) (⟨s0, g1, hr, hs⟩)) rfl) <| Vl (As rfl) <| Vl (As rfl) <| ?_
    refine VLog.nil ⟨by kernel_rfl, ?_⟩
    refine Tg <| Sq <| Bk <| Sq <| Rg <| Vs (Mv rfl) <| Vs (Bi rfl) <| Vs (Mv rfl) <| Sp 29 rfl (fun hc2 => ?_) (fun hc2 => ?_)
    · replace hc2 := of_decide_eq_true hc2
      refine Vs (Mv rfl) <| Vs (Bi rfl) <| Vs (Pk rfl) <| Vs (As rfl) <| Nx <| Cd rfl (fun hc3 => ?_) (fun hc3 => ?_)
      · replace hc3 := of_decide_eq_true hc3
        exact Sq <| Rg <| Vs (C0 rfl rfl (g18 (k := 0) (d := 1) (by first | omega | assumption | (simp; done) | (simp; omega)) (by first | omega | assumption | (simp; done) | (simp; omega)) (by first | omega | assumption | (simp; done) | (simp; omega)) (by first | omega | assumption | (simp; done) | (simp; omega)))) <| Vs (Xt rfl) <| Vs (Xt rfl) <| Vs (StS TS27 rfl) <| Vs (As rfl) <| Nx <| Re <| Iq <| Tr <| Fi (l := [.agg [boolB (zN (mkN (0) (1))), u32S (zL (mkN (0) (1))), boolB (zN (mkD (0) (1))), u32S (zL (mkD (0) (1)))], numB .i64 (mkE (1))]) (Rc (resVar_cell rfl rfl TA27 TS27 (Nat.le_of_ble_eq_true rfl) rfl) (Rc (resVar_tmp rfl rfl) Rn)) (si_mid (si_lt hc1) hc2 hc3)
      · replace hc3 := of_decide_eq_false hc3
        refine Sq <| Rg <| Vs (Mv rfl) <| Vs (Bi rfl) <| Vs (As rfl) <| Nx <| Cd rfl (fun hc4 => ?_) (fun hc4 => ?_)
        · replace hc4 := of_decide_eq_true hc4
          refine Sq <| Rd (by kernel_rfl) <| Vl (Fa TF27_0 rfl) <| Vl (LdS TA24 TS24 rfl) <| Vl (C0 rfl rfl (g65 (r))) <| Vl (Fa TF27_1 rfl) <| Vl (LdS TA24 TS24 rfl) <| Vl (Bd TQ27 rfl) <| Vl (Fa TF27_0 rfl) <| Vl (LdS TA24 TS24 rfl) <| Vl (C0 rfl rfl (g65 (p))) <| Vl (Fa TF27_1 rfl) <| Vl (LdS TA24 TS24 rfl) <| Vl (Bd TQ27 rfl) <| Vl (C0 rfl rfl (g64 (p := -(r)) (q := s) (r := -(p)) (s := q) inT inT inT inT (by have := mt cmp3_gt.2 hc3; omega) (by first | omega | assumption | (simp; done) | (simp; omega)) (Int.le_of_lt q0) (turn_lt (si_lt hc1)))) <| Vl (Mv rfl) <| Vl (Xt rfl) <| Vl (Xt rfl) <| Vl (Al 47 TZ27 rfl) <| Vl (StS TS27 rfl) <| Vl (As rfl) <| ?_
          refine VLog.nil ⟨by kernel_rfl, ?_⟩
          refine Tg <| Sq <| Sq <| Rg <| Vs (Mv rfl) <| Vs (Bi rfl) <| Nx <| Cd rfl (fun hc5 => ?_) (fun hc5 => ?_)
          · replace hc5 := bne_iff_ne.1 hc5
            exact Sq <| Rg <| Vs (Bd TQ27 rfl) <| Vs (Mv rfl) <| Vs (StS TS27 rfl) <| Vs (As rfl) <| Nx <| Re <| Tr <| Iq <| Tr <| Fi (l := [.agg [boolB (false), u32S ([]), boolB (false), u32S ([])], numB .i64 (poE (cfQ (-(r)) (s) (-(p)) (q)))]) (Rc (resVar_cell rfl rfl TA27 TS27 (Nat.le_of_ble_eq_true rfl) rfl) (Rc (resVar_tmp rfl rfl) Rn)) (si_neg1 (si_lt hc1) hc2 hc3 hc5)
          · replace hc5 := bne_eq_false_iff_eq.1 hc5
            refine Ks <| Tg <| Sq <| Rd (by kernel_rfl) <| Vl (Fa TF27_0 rfl) <| Vl (LdS TA24 TS24 rfl) <| Vl (C0 rfl rfl (g65 (poN (cfQ (-(r)) (s) (-(p)) (q))))) <| Vl (Fa TF27_1 rfl) <| Vl (LdS TA24 TS24 rfl) <| Vl (Bd TQ27 rfl) <| Vl (StS TS27 rfl) <| Vl (As rfl) <| ?_
            refine VLog.nil ⟨by kernel_rfl, ?_⟩
            exact Tg <| Re <| Iq <| Tr <| Fi (l := [.agg [boolB (zN (-(poN (cfQ (-(r)) (s) (-(p)) (q))))), u32S (zL (-(poN (cfQ (-(r)) (s) (-(p)) (q))))), boolB (zN (poD (cfQ (-(r)) (s) (-(p)) (q)))), u32S (zL (poD (cfQ (-(r)) (s) (-(p)) (q))))], numB .i64 (0)]) (Rc (resVar_cell rfl rfl TA27 TS27 (Nat.le_of_ble_eq_true rfl) rfl) (Rc (resVar_tmp rfl rfl) Rn)) (si_neg2 (si_lt hc1) hc2 hc3 hc5)
        · replace hc4 := of_decide_eq_false hc4
          exact absurd hc2 hc4
    · replace hc2 := of_decide_eq_false hc2
      refine Sk rfl <| Sk rfl <| Vs (Pk rfl) <| Vs (As rfl) <| Nx <| Cz rfl <| Sq <| Rg <| Vs (Mv rfl) <| Vs (Bi rfl) <| Vs (As rfl) <| Nx <| Cd rfl (fun hc6 => ?_) (fun hc6 => ?_)
      · replace hc6 := of_decide_eq_true hc6
        exact absurd hc6 hc2
      · replace hc6 := of_decide_eq_false hc6
        exact Ks <| Ig <| Tg <| Sq <| Rg <| Vs (LdS TA27 TS27 rfl) <| Vs (LdS TA27 TS27 rfl) <| Vs (C0 rfl rfl (g64 (p := p) (q := q) (r := r) (s := s) inT inT inT inT (by have h9 := mt cmp3_lt.2 hc2; omega) (by first | omega | assumption | (simp; done) | (simp; omega)) (Int.le_of_lt s0) (si_lt hc1))) <| Vs (Xt rfl) <| Vs (Xt rfl) <| Vs (StS TS27 rfl) <| Vs (As rfl) <| Nx <| Re <| Fi (l := [.agg [boolB (zN (poN (cfQ (p) (q) (r) (s)))), u32S (zL (poN (cfQ (p) (q) (r) (s)))), boolB (zN (poD (cfQ (p) (q) (r) (s)))), u32S (zL (poD (cfQ (p) (q) (r) (s))))], numB .i64 (poE (cfQ (p) (q) (r) (s)))]) (Rc (resVar_cell rfl rfl TA27 TS27 (Nat.le_of_ble_eq_true rfl) rfl) (Rc (resVar_tmp rfl rfl) Rn)) (si_pos (si_lt hc1) hc2)
end Go.VL

/- Walks over the Go functions, printed by a program of this session over the kit's print, and by hand. -/
set_option linter.unusedVariables false
set_option linter.unusedSimpArgs false
namespace Go.VL
open Go.Proofs
theorem g55r (n : Bool) (L : List Int) : VF Try.prog 55 [.agg [boolB (n), u32S (L)]] (boolB ((L.length : Int) == 0)) := by
  exact VF_of P_mixed Try.func55 rfl rfl (by kernel_rfl) <| Sq <| Rg <| Vs (Bx 0 rfl) <| Vs (As rfl) <| Nx <| Sq <| Rg <| Vs (Fa TF24_1 rfl) <| Vs (Ld TA22 rfl) <| Vs (Ls TK22 rfl) <| Vs (Bi rfl) <| Vs (As rfl) <| Nx <| Re <| Fi (l := [boolB ((((L).length : Int) == 0))]) (Rc (resVar_tmp rfl rfl) Rn) rfl
theorem g55 {z : Int} (h : inB z = true) : VF Try.prog 55 [iB z] (boolB (decide (z = 0))) := by
  have := g55r (zN z) (zL z)
  rw [nil_z h] at this
  exact this
theorem g61r (n : Bool) (L : List Int) (hL : L.length ≤ 9223372036854775807) : VF Try.prog 61 [.agg [boolB (n), u32S (L)]] (boolB (oneZ n L)) := by
  refine VF_of P_mixed Try.func61 rfl rfl (by kernel_rfl) <| Sq <| Rg <| Vs (Bx 0 rfl) <| Vs (As rfl) <| Nx <| Sq <| Rg <| Vs (Fa TF24_0 rfl) <| Vs (Ld TA4 rfl) <| Vs (Un rfl) <| Vs (Mv rfl) <| Sp 6 rfl (fun hc1 => ?_) (fun hc1 => ?_)
  · replace hc1 := bnot_t hc1
    refine Vs (Fa TF24_1 rfl) <| Vs (Ld TA22 rfl) <| Vs (Ls TK22 rfl) <| Vs (Bi rfl) <| Vs (Pk rfl) <| Vs (Mv rfl) <| Sp 12 rfl (fun hc2 => ?_) (fun hc2 => ?_)
    · replace hc2 := eq_of_beq hc2
      exact Vs (Fa TF24_1 rfl) <| Vs (Ld TA22 rfl) <| Vs (IxN (q := 0) TK22 rfl) <| Vs (Lq TA77 rfl) <| Vs (Bi rfl) <| Vs (Pk rfl) <| Vs (As rfl) <| Nx <| Re <| Fi (l := [boolB (((L).getD 0 0 == 1))]) (Rc (resVar_tmp rfl rfl) Rn) (by unfold oneZ; simp [*, oneB])
    · replace hc2 := ne_of_beq_false hc2
      exact Sk rfl <| Sk rfl <| Sk rfl <| Sk rfl <| Sk rfl <| Vs (Pk rfl) <| Vs (As rfl) <| Nx <| Re <| Fi (l := [boolB (false)]) (Rc (resVar_tmp rfl rfl) Rn) (by unfold oneZ; rw [beq_no hc2]; simp [oneB])
  · replace hc1 := bnot_f hc1
    exact Sk rfl <| Sk rfl <| Sk rfl <| Sk rfl <| Vs (Pk rfl) <| Vs (Mv rfl) <| Sk rfl <| Sk rfl <| Sk rfl <| Sk rfl <| Sk rfl <| Vs (Pk rfl) <| Vs (As rfl) <| Nx <| Re <| Fi (l := [boolB (false)]) (Rc (resVar_tmp rfl rfl) Rn) (by unfold oneZ; simp [*, oneB])
theorem g61 {z : Int} (h : inB z = true) : VF Try.prog 61 [iB z] (boolB (decide (z = 1))) := by
  have := g61r (zN z) (zL z) (len_zL' z)
  rw [one_z h] at this
  exact this
theorem g21v {x y : Int} (hx : inB x = true) (hy : inB y = true) : VF Try.prog 21 [.agg [boolB (zN (x)), u32S (zL (x)), boolB (zN (y)), u32S (zL (y))]] (boolB (decide (0 < y ∧ Int.gcd x y = 1))) := by
  refine VF_of P_mixed Try.func21 rfl rfl (by kernel_rfl) <| Sq <| Rg <| Vs (Bx 0 rfl) <| Vs (As rfl) <| Nx <| Sq <| Rg <| Vs (Fa TF27_0 rfl) <| Vs (LdS TA24 TS24 rfl) <| Vs (Cf rfl rfl (d26 (x)) rfl) <| Vs (As rfl) <| Nx <| Sq <| Rg <| Vs (Fa TF27_1 rfl) <| Vs (LdS TA24 TS24 rfl) <| Vs (Cf rfl rfl (d26 (y)) rfl) <| Vs (As rfl) <| Nx <| Sq <| Sq <| Rg <| Vs (Mv rfl) <| Vs (Un rfl) <| Vs (Mv rfl) <| Vs (Mv rfl) <| Vs (Un rfl) <| Vs (Pk rfl) <| Vs (Mv rfl) <| Vs (Fa TF27_1 rfl) <| Vs (Fa TF24_0 rfl) <| Vs (Ld TA4 rfl) <| Vs (Pk rfl) <| Vs (Mv rfl) <| Sp 24 rfl (fun hc1 => ?_) (fun hc1 => ?_)
  · replace hc1 := hc1
    have hy0 := zN_lt hc1
    exact Sk rfl <| Sk rfl <| Sk rfl <| Vs (Pk rfl) <| Nx <| Cy rfl <| Sq <| Rg <| Vs (As rfl) <| Nx <| Re <| Tr <| Fi (l := [boolB (false)]) (Rc (resVar_tmp rfl rfl) Rn) (rvF (by omega))
  · replace hc1 := hc1
    have hy0 := zN_ge hy hc1
    refine Vs (Fa TF27_1 rfl) <| Vs (LdS TA24 TS24 rfl) <| Vs (Cf rfl rfl (g55 (z := y) inT) rfl) <| Vs (Pk rfl) <| Nx <| Cd rfl (fun hc2 => ?_) (fun hc2 => ?_)
    · replace hc2 := of_decide_eq_true hc2
      exact Sq <| Rg <| Vs (As rfl) <| Nx <| Re <| Tr <| Fi (l := [boolB (false)]) (Rc (resVar_tmp rfl rfl) Rn) (rvF (by omega))
    · replace hc2 := of_decide_eq_false hc2
      exact Ks <| Tg <| Sq <| Rg <| Vs (Fa TF27_0 rfl) <| Vs (LdS TA24 TS24 rfl) <| Vs (Fa TF27_1 rfl) <| Vs (LdS TA24 TS24 rfl) <| Vs (C0 rfl rfl (d32 (x := x) (y := y) inT inT)) <| Vs (Mv rfl) <| Vs (Xt rfl) <| Vs (Xt rfl) <| Vs (Al 34 TZ24 rfl) <| Vs (StS TS24 rfl) <| Vs (As rfl) <| Nx <| Sq <| Rg <| Vs (LdS TA24 TS24 rfl) <| Vs (Cf rfl rfl (g61 (z := rdG (x) (y)) inT) rfl) <| Vs (As rfl) <| Nx <| Re <| Fi (l := [boolB (decide (rdG (x) (y) = 1))]) (Rc (resVar_tmp rfl rfl) Rn) (rvG (by omega))
theorem g21i (n : Bool) (A : List Int) (m : Bool) (D : List Int) (hA : A.length ≤ 9223372036854775807) (hD : D.length ≤ 9223372036854775807) (h : (validB n A && validB m D) = false) : VF Try.prog 21 [.agg [boolB (n), u32S (A), boolB (m), u32S (D)]] (boolB false) := by
  refine VF_of P_mixed Try.func21 rfl rfl (by kernel_rfl) <| Sq <| Rg <| Vs (Bx 0 rfl) <| Vs (As rfl) <| Nx <| Sq <| Rg <| Vs (Fa TF27_0 rfl) <| Vs (LdS TA24 TS24 rfl) <| Vs (Cf rfl rfl (f26 n A hA) rfl) <| Vs (As rfl) <| Nx <| Sq <| Rg <| Vs (Fa TF27_1 rfl) <| Vs (LdS TA24 TS24 rfl) <| Vs (Cf rfl rfl (f26 m D hD) rfl) <| Vs (As rfl) <| Nx <| Sq <| Sq <| Rg <| Vs (Mv rfl) <| Vs (Un rfl) <| Vs (Mv rfl) <| Sp 15 rfl (fun hc1 => ?_) (fun hc1 => ?_)
  · replace hc1 := (bnot_t hc1)
    exact Sk rfl <| Sk rfl <| Vs (Pk rfl) <| Vs (Mv rfl) <| Sk rfl <| Sk rfl <| Sk rfl <| Vs (Pk rfl) <| Vs (Mv rfl) <| Sk rfl <| Sk rfl <| Sk rfl <| Vs (Pk rfl) <| Nx <| Cy rfl <| Sq <| Rg <| Vs (As rfl) <| Nx <| Re <| Tr <| Fi (l := [boolB (false)]) (Rc (resVar_tmp rfl rfl) Rn) rfl
  · replace hc1 := (bnot_f hc1)
    refine Vs (Mv rfl) <| Vs (Un rfl) <| Vs (Pk rfl) <| Vs (Mv rfl) <| Sp 19 rfl (fun hc2 => ?_) (fun hc2 => ?_)
    · replace hc2 := (bnot_t hc2)
      exact Sk rfl <| Sk rfl <| Sk rfl <| Vs (Pk rfl) <| Vs (Mv rfl) <| Sk rfl <| Sk rfl <| Sk rfl <| Vs (Pk rfl) <| Nx <| Cy rfl <| Sq <| Rg <| Vs (As rfl) <| Nx <| Re <| Tr <| Fi (l := [boolB (false)]) (Rc (resVar_tmp rfl rfl) Rn) rfl
    · replace hc2 := (bnot_f hc2)
      simp [hc1, hc2] at h
theorem g21 (n : Bool) (A : List Int) (m : Bool) (D : List Int) (hA : A.length ≤ 9223372036854775807) (hD : D.length ≤ 9223372036854775807) (oA : ok32 A) (oD : ok32 D) : VF Try.prog 21 [ratB n A m D] (boolB (vR n A m D)) := by
  cases h : (validB n A && validB m D) with
  | false =>
    have e : vR n A m D = false := by unfold vR; rw [h]; rfl
    rw [e]
    exact g21i n A m D hA hD h
  | true =>
    rw [Bool.and_eq_true] at h
    obtain ⟨x, e1, e2, hx⟩ := as_z oA h.1
    obtain ⟨y, e3, e4, hy⟩ := as_z oD h.2
    rw [e1, e2, e3, e4, vR_z hx hy]
    exact g21v hx hy
theorem g21q {p q : Int} (h : okR p q) : VF Try.prog 21 [qB p q] (boolB true) := by
  have := g21v h.2.2.1 h.2.2.2
  rw [decide_eq_true ⟨h.1, h.2.1⟩] at this
  exact this
theorem g38r (n : Bool) (A : List Int) (m : Bool) (B : List Int) (hA : A.length ≤ 9223372036854775807) (hB : B.length ≤ 9223372036854775807) : VF Try.prog 38 [.agg [boolB (n), u32S (A)], .agg [boolB (m), u32S (B)]] (boolB (sameB n A m B)) := by
  refine VF_of P_mixed Try.func38 rfl rfl (by kernel_rfl) <| Sq <| Rg <| Vs (Bx 0 rfl) <| Vs (Bx 1 rfl) <| Vs (As rfl) <| Nx <| VCode.join (α := (Unit)) (fun u => (2, sl [(2, .ptr 0 (0)), (3, .ptr 1 (0))], en [(0, ⟨2, [vB (n), vS (A)], true⟩), (1, ⟨2, [vB (m), vS (B)], true⟩)])) (fun u => n = m ∧ A.length = B.length) ?_ ?_
  · skip
    refine Sq <| Rg <| Vs (Fa TF24_0 rfl) <| Vs (Ld TA4 rfl) <| Vs (Fa TF24_0 rfl) <| Vs (Ld TA4 rfl) <| Vs (Bb TU4 rfl) <| Vs (Mv rfl) <| Sp 11 rfl (fun hc1 => ?_) (fun hc1 => ?_)
    · replace hc1 := ne_of_beq_false (bnot_t hc1)
      exact Sk rfl <| Sk rfl <| Sk rfl <| Sk rfl <| Sk rfl <| Sk rfl <| Sk rfl <| Vs (Pk rfl) <| Nx <| Cy rfl <| Sq <| Rg <| Vs (As rfl) <| Nx <| Re <| Jr <| Fi (l := [boolB (false)]) (Rc (resVar_tmp rfl rfl) Rn) (by rw [sameB_sign (by assumption)]; rfl)
    · replace hc1 := eq_of_beq (bnot_f hc1)
      refine Vs (Fa TF24_1 rfl) <| Vs (Ld TA22 rfl) <| Vs (Ls TK22 rfl) <| Vs (Fa TF24_1 rfl) <| Vs (Ld TA22 rfl) <| Vs (Ls TK22 rfl) <| Vs (Bi rfl) <| Vs (Pk rfl) <| Nx <| Cd rfl (fun hc2 => ?_) (fun hc2 => ?_)
      · replace hc2 := bne_iff_ne.1 hc2
        exact Sq <| Rg <| Vs (As rfl) <| Nx <| Re <| Jr <| Fi (l := [boolB (false)]) (Rc (resVar_tmp rfl rfl) Rn) (by rw [sameB_len (by omega)]; rfl)
      · replace hc2 := bne_eq_false_iff_eq.1 hc2
        exact Ks <| Jg (()) ⟨by assumption, by omega⟩ Wk
  · intro u hok
    obtain ⟨hnm, hlen⟩ := hok
    change VCode _ _ _ 2 (sl _) (en _) _
    refine Sq <| Sq <| Rg <| Vs (As rfl) <| Nx <| Bk <| VCode.loop (α := (Nat)) (fun i => (2, sl [(2, .ptr 0 (0)), (3, .ptr 1 (0)), (5, vI .i64 ((i : Int)))], en [(0, ⟨2, [vB (n), vS (A)], true⟩), (1, ⟨2, [vB (m), vS (B)], true⟩)])) (fun i => i ≤ A.length ∧ ∀ j, j < i → A.getD j 0 = B.getD j 0) (fun i => A.length - i) (0) ⟨by omega, fun j hj => by omega⟩ Wk ?_
    intro i hok
    change VCode _ _ _ 2 (sl _) (en _) _
    refine Sq <| Sq <| Rg <| Vs (Mv rfl) <| Vs (Fa TF24_1 rfl) <| Vs (Ld TA22 rfl) <| Vs (Ls TK22 rfl) <| Vs (Bi rfl) <| Nx <| Cd rfl (fun hc3 => ?_) (fun hc3 => ?_)
    · replace hc3 := of_decide_eq_true hc3
      refine Ks <| Tg <| Sq <| Bk <| Sq <| Rd (by kernel_rfl) <| Vl (Fa TF24_1 rfl) <| Vl (Ld TA22 rfl) <| Vl (Mv rfl) <| Vl (IxN TK22 rfl) <| Vl (Lq TA77 rfl) <| Vl (Fa TF24_1 rfl) <| Vl (Ld TA22 rfl) <| Vl (Mv rfl) <| Vl (IxN TK22 rfl) <| Vl (Lq TA77 rfl) <| Vl (Bi rfl) <| ?_
      refine VLog.nil ⟨by kernel_rfl, ?_⟩
      refine Tg <| Cd rfl (fun hc4 => ?_) (fun hc4 => ?_)
      · replace hc4 := bne_iff_ne.1 hc4
        exact Sq <| Rg <| Vs (As rfl) <| Nx <| Re <| Iq <| Tr <| Or <| Iq <| Tr <| Fi (l := [boolB (false)]) (Rc (resVar_tmp rfl rfl) Rn) (by rw [sameB_at (i := i) (by omega)]; rfl)
      · replace hc4 := bne_eq_false_iff_eq.1 hc4
        exact Ks <| Ig <| Tg <| Rg <| Vs (Mv rfl) <| Vs (Bo rfl adI) <| Vs (As rfl) <| VList.nil <| Go (i + 1) ⟨by omega, fun j hj => by rcases Nat.lt_or_eq_of_le (Nat.le_of_lt_succ hj) with h | h; exact hok.2 j h; subst h; omega⟩ Wk
    · replace hc3 := of_decide_eq_false hc3
      exact Ke <| Te <| Oe <| Ih <| Tg <| Sq <| Rg <| Vs (As rfl) <| Nx <| Re <| Fi (l := [boolB (true)]) (Rc (resVar_tmp rfl rfl) Rn) (by rw [sameB_yes hnm hlen (fun j hj => hok.2 j (by omega))]; rfl)
theorem g38 {x y : Int} (hx : inB x = true) (hy : inB y = true) : VF Try.prog 38 [iB x, iB y] (boolB (decide (x = y))) := by
  have := g38r (zN x) (zL x) (zN y) (zL y) (len_zL' _) (len_zL' _)
  rwa [same_zz hx hy] at this
theorem g22 {p q r s : Int} (hp : inB p = true) (hq : inB q = true) (hr : inB r = true) (hs : inB s = true) : VF Try.prog 22 [.agg [boolB (zN (p)), u32S (zL (p)), boolB (zN (q)), u32S (zL (q))], .agg [boolB (zN (r)), u32S (zL (r)), boolB (zN (s)), u32S (zL (s))]] (boolB (decide (p = r ∧ q = s))) := by
  refine VF_of P_mixed Try.func22 rfl rfl (by kernel_rfl) <| Sq <| Rg <| Vs (Bx 0 rfl) <| Vs (Bx 1 rfl) <| Vs (As rfl) <| Nx <| Sq <| Rg <| Vs (Fa TF27_0 rfl) <| Vs (LdS TA24 TS24 rfl) <| Vs (Fa TF27_0 rfl) <| Vs (LdS TA24 TS24 rfl) <| Vs (Cf rfl rfl (g38 (x := p) (y := r) inT inT) rfl) <| Vs (Mv rfl) <| Sp 10 rfl (fun hc1 => ?_) (fun hc1 => ?_)
  · replace hc1 := of_decide_eq_true hc1
    exact Vs (Fa TF27_1 rfl) <| Vs (LdS TA24 TS24 rfl) <| Vs (Fa TF27_1 rfl) <| Vs (LdS TA24 TS24 rfl) <| Vs (Cf rfl rfl (g38 (x := q) (y := s) inT inT) rfl) <| Vs (Pk rfl) <| Vs (As rfl) <| Nx <| Re <| Fi (l := [boolB (decide (q = s))]) (Rc (resVar_tmp rfl rfl) Rn) (and_yes hc1)
  · replace hc1 := of_decide_eq_false hc1
    exact Sk rfl <| Sk rfl <| Sk rfl <| Sk rfl <| Sk rfl <| Vs (Pk rfl) <| Vs (As rfl) <| Nx <| Re <| Fi (l := [boolB (false)]) (Rc (resVar_tmp rfl rfl) Rn) (and_no hc1)
theorem g76 (n : Bool) (A : List Int) (m : Bool) (D : List Int) (hA : A.length ≤ 9223372036854775807) (hD : D.length ≤ 9223372036854775807) (k : Int) : VF Try.prog 76 [.agg [boolB (n), u32S (A), boolB (m), u32S (D)], numB .i64 (k)] (boolB (decide ((A.length : Int) ≤ k ∧ (D.length : Int) ≤ k))) := by
  refine VF_of P_mixed Try.func76 rfl rfl (by kernel_rfl) <| Sq <| Rg <| Vs (Bx 0 rfl) <| Vs (As rfl) <| Nx <| Sq <| Rg <| Vs (Fa TF27_0 rfl) <| Vs (Fa TF24_1 rfl) <| Vs (Ld TA22 rfl) <| Vs (Ls TK22 rfl) <| Vs (Mv rfl) <| Vs (Bi rfl) <| Vs (Mv rfl) <| Sp 11 rfl (fun hc1 => ?_) (fun hc1 => ?_)
  · replace hc1 := of_decide_eq_true hc1
    exact Vs (Fa TF27_1 rfl) <| Vs (Fa TF24_1 rfl) <| Vs (Ld TA22 rfl) <| Vs (Ls TK22 rfl) <| Vs (Mv rfl) <| Vs (Bi rfl) <| Vs (Pk rfl) <| Vs (As rfl) <| Nx <| Re <| Fi (l := [boolB (decide (((D).length : Int) ≤ k))]) (Rc (resVar_tmp rfl rfl) Rn) (and_yes hc1)
  · replace hc1 := of_decide_eq_false hc1
    exact Sk rfl <| Sk rfl <| Sk rfl <| Sk rfl <| Sk rfl <| Sk rfl <| Vs (Pk rfl) <| Vs (As rfl) <| Nx <| Re <| Fi (l := [boolB (false)]) (Rc (resVar_tmp rfl rfl) Rn) (and_no hc1)
theorem g45 {k d : Int} (k0 : -9223372036854775808 ≤ k) (k1 : k ≤ 9223372036854775807) (d0 : -9223372036854775808 ≤ d) (d1 : d ≤ 9223372036854775807) : VF Try.prog 45 [numB .i64 (k), numB .i64 (d)] (qB (mkN k d) (mkD k d)) := by
  exact VF_of P_mixed Try.func45 rfl rfl (by kernel_rfl) <| Sq <| Rg <| Vs (Al 0 TZ27 rfl) <| Nx <| Sq <| Rg <| Vs (Mv rfl) <| Vs (Mv rfl) <| Vs (C0 rfl rfl (g18 (k := k) (d := d) (by first | omega | assumption | (simp; done) | (simp; omega)) (by first | omega | assumption | (simp; done) | (simp; omega)) (by first | omega | assumption | (simp; done) | (simp; omega)) (by first | omega | assumption | (simp; done) | (simp; omega)))) <| Vs (Mv rfl) <| Vs (Xt rfl) <| Vs (Xt rfl) <| Vs (Al 7 TZ27 rfl) <| Vs (StS TS27 rfl) <| Vs (As rfl) <| Nx <| Sq <| Rg <| Vs (LdS TA27 TS27 rfl) <| Vs (StS TS27 rfl) <| Nx <| Re <| Fi (l := [.agg [boolB (zN (mkN (k) (d))), u32S (zL (mkN (k) (d))), boolB (zN (mkD (k) (d))), u32S (zL (mkD (k) (d)))]]) (Rc (resVar_cell rfl rfl TA27 TS27 (Nat.le_of_ble_eq_true rfl) rfl) Rn) rfl
end Go.VL

/- Walks over the Go functions, printed by a program of this session over the kit's print, and by hand. -/
set_option linter.unusedVariables false
set_option linter.unusedSimpArgs false
namespace Go.VL
open Go.Proofs
theorem okR_lit {p q : Int} (h : (decide (0 < q) && decide (Int.gcd p q = 1) && inB p && inB q) = true) : okR p q := by
  simp only [Bool.and_eq_true, decide_eq_true_eq] at h
  exact ⟨h.1.1.1, h.1.1.2, h.1.2, h.2⟩
theorem g45k (k d : Int) {n m : Int} (hb : -9223372036854775808 ≤ k ∧ k ≤ 9223372036854775807 ∧ -9223372036854775808 ≤ d ∧ d ≤ 9223372036854775807) (hn : mkN k d = n) (hm : mkD k d = m) : VF Try.prog 45 [numB .i64 k, numB .i64 d] (qB n m) := by
  subst hn; subst hm; exact g45 hb.1 hb.2.1 hb.2.2.1 hb.2.2.2
theorem g39k {p q r s n d : Int} (ha : okR p q) (hb : okR r s) (hk : addOk p q r s = true) (hn : rdN (p * s + r * q) (q * s) = n) (hd : rdD (p * s + r * q) (q * s) = d) : VF Try.prog 39 [qB p q, qB r s] (rR n d 0) := by
  have h := g39 ha hb
  rw [hk] at h; subst hn; subst hd; exact h
theorem g44k {p q r s n d : Int} (ha : okR p q) (hb : okR r s) (hk : subOk p q r s = true) (hn : rdN (p * s - r * q) (q * s) = n) (hd : rdD (p * s - r * q) (q * s) = d) : VF Try.prog 44 [qB p q, qB r s] (rR n d 0) := by
  have h := g44 ha hb
  rw [hk] at h; subst hn; subst hd; exact h
theorem g40k {p q r s n d : Int} (ha : okR p q) (hb : okR r s) (hk : mulOk p q r s = true) (hn : rdN (p * r) (q * s) = n) (hd : rdD (p * r) (q * s) = d) : VF Try.prog 40 [qB p q, qB r s] (rR n d 0) := by
  have h := g40 ha hb
  rw [hk] at h; subst hn; subst hd; exact h
theorem g46k {p q r s n d : Int} (ha : okR p q) (hb : okR r s) (h0 : r ≠ 0) (hk : mulOk p q s r = true) (hn : rdN (p * s) (q * r) = n) (hd : rdD (p * s) (q * r) = d) : VF Try.prog 46 [qB p q, qB r s] (rR n d 0) := by
  have h := g46 ha hb h0
  rw [hk] at h; subst hn; subst hd; exact h
theorem g32k {p q k n : Int} (ha : okR p q) (k0 : -9223372036854775808 ≤ k) (k1 : k ≤ 9223372036854775807) (hn : flZ p q k = n) (hi : inB n = true) : VF Try.prog 32 [qB p q, numB .i64 k] (.tup [iB n, numB .i64 0]) := by
  have h := g32 ha k0 k1
  rw [hn, zR_in hi] at h; exact h
theorem g34k {p q n d e : Int} {t : Bool} (ha : okR p q) (hn : sqQn p q = n) (hd : sqQd p q = d) (ht : sqQo p q = t) (he : sqQe p = e) : VF Try.prog 34 [qB p q] (.tup [qB n d, boolB t, numB .i64 e]) := by
  subst hn; subst hd; subst ht; subst he; exact g34 ha
theorem g23k {p q r s n d : Int} (ha : okR p q) (hb : okR r s) (h : p * s < r * q) (hn : siQ p q r s = some (n, d)) : VF Try.prog 23 [qB p q, qB r s] (rR n d 0) := by
  have h1 := g23 ha hb
  rw [siR, if_pos h, hn] at h1; exact h1
theorem g25k {p q : Int} {t : ByteArray} (ha : okR p q) (ht : txQ p q = t) : VF Try.prog 25 [qB p q] (.tup [.lit (.string t), numB .i64 0]) := by
  subst ht; exact g25 ha
theorem g27k {s : ByteArray} {n d e : Int} (hs : s.size ≤ 9223372036854775807) (hn : psP s = n) (hd : psQ s = d) (he : psE s = e) : VF Try.prog 27 [.lit (.string s)] (rR n d e) := by
  subst hn; subst hd; subst he; exact g27 s hs
theorem g22t {p q : Int} (hp : inB p = true) (hq : inB q = true) : VF Try.prog 22 [qB p q, qB p q] (boolB true) := by
  have h := g22 hp hq hp hq
  rwa [decide_eq_true ⟨rfl, rfl⟩] at h
theorem g38t {x : Int} (hx : inB x = true) : VF Try.prog 38 [iB x, iB x] (boolB true) := by
  have h := g38 hx hx
  rwa [decide_eq_true rfl] at h
theorem g15  : VF Try.prog 15 [] (boolB true) := by
  refine VF_of P_mixed Try.func15 rfl rfl (by kernel_rfl) <| Sq <| Rg <| Vs (As rfl) <| Nx <| Sq <| Rg <| Vs (C0 rfl rfl (g45k (n := 1) (m := 2) (1) (2) (by decide) (by decide) (by decide))) <| Vs (C0 rfl rfl (g45k (n := 1) (m := 3) (1) (3) (by decide) (by decide) (by decide))) <| Vs (C0 rfl rfl (g39k (okR_lit (by decide +kernel)) (okR_lit (by decide +kernel)) (by decide +kernel) (n := 5) (d := 6) (by decide +kernel) (by decide +kernel))) <| Vs (Mv rfl) <| Vs (Xt rfl) <| Vs (Xt rfl) <| Vs (Al 7 TZ27 rfl) <| Vs (StS TS27 rfl) <| Vs (As rfl) <| Nx <| Sq <| Rg <| Vs (C0 rfl rfl (g45k (n := 3) (m := 4) (3) (4) (by decide) (by decide) (by decide))) <| Vs (C0 rfl rfl (g45k (n := -1) (m := 2) ((-1)) (2) (by decide) (by decide) (by decide))) <| Vs (C0 rfl rfl (g46k (okR_lit (by decide +kernel)) (okR_lit (by decide +kernel)) (by decide) (by decide +kernel) (n := -3) (d := 2) (by decide +kernel) (by decide +kernel))) <| Vs (Mv rfl) <| Vs (Xt rfl) <| Vs (Xt rfl) <| Vs (Al 16 TZ27 rfl) <| Vs (StS TS27 rfl) <| Vs (As rfl) <| Nx <| Sq <| Rg <| Vs (C0 rfl rfl (g45k (n := 3) (m := 4) (3) (4) (by decide) (by decide) (by decide))) <| Vs (C0 rfl rfl (g45k (n := 0) (m := 1) (0) (1) (by decide) (by decide) (by decide))) <| Vs (C0 rfl rfl (g46z (okR_lit (by decide +kernel)) (okR_lit (by decide +kernel)))) <| Vs (Mv rfl) <| Vs (Xt rfl) <| Vs (Xt rfl) <| Vs (Al 25 TZ27 rfl) <| Vs (StS TS27 rfl) <| Vs (As rfl) <| Nx <| Sq <| Rg <| Vs (C0 rfl rfl (g45k (n := -7) (m := 2) ((-7)) (2) (by decide) (by decide) (by decide))) <| Vs (C0 rfl rfl (g32k (okR_lit (by decide +kernel)) (by decide) (by decide) (n := -4) (by decide +kernel) (by decide +kernel))) <| Vs (Mv rfl) <| Vs (Xt rfl) <| Vs (Xt rfl) <| Vs (Al 33 TZ24 rfl) <| Vs (StS TS24 rfl) <| Vs (As rfl) <| Nx <| Sq <| Rg <| Vs (C0 rfl rfl (g45k (n := 9) (m := 4) (9) (4) (by decide) (by decide) (by decide))) <| Vs (C0 rfl rfl (g34k (okR_lit (by decide +kernel)) (n := 3) (d := 2) (e := 0) (t := true) (by decide +kernel) (by decide +kernel) (by decide +kernel) (by decide +kernel))) <| Vs (Mv rfl) <| Vs (Xt rfl) <| Vs (Xt rfl) <| Vs (Xt rfl) <| Vs (Al 42 TZ27 rfl) <| Vs (StS TS27 rfl) <| Vs (As rfl) <| Vs (As rfl) <| Nx <| Sq <| Rg <| Vs (C0 rfl rfl (g45k (n := 1) (m := 3) (1) (3) (by decide) (by decide) (by decide))) <| Vs (C0 rfl rfl (g45k (n := 1) (m := 2) (1) (2) (by decide) (by decide) (by decide))) <| Vs (C0 rfl rfl (g23k (okR_lit (by decide +kernel)) (okR_lit (by decide +kernel)) (by decide) (n := 2) (d := 5) (by decide +kernel))) <| ?_
  refine Vs (Mv rfl) <| Vs (Xt rfl) <| Vs (Xt rfl) <| Vs (Al 52 TZ27 rfl) <| Vs (StS TS27 rfl) <| Vs (As rfl) <| Nx <| Sq <| Rg <| Vs (C0 rfl rfl (g45k (n := -3) (m := 4) ((-3)) (4) (by decide) (by decide) (by decide))) <| Vs (C0 rfl rfl (g25k (t := (⟨#[45, 51, 47, 52]⟩ : ByteArray)) (okR_lit (by decide +kernel)) (by decide +kernel))) <| Vs (Mv rfl) <| Vs (Xt rfl) <| Vs (Xt rfl) <| Vs (As rfl) <| Vs (As rfl) <| Nx <| Sq <| Rg <| Vs (C0 rfl rfl (g27k (s := (⟨#[54, 47, 56]⟩ : ByteArray)) (by decide) (n := 0) (d := 0) (e := 3) (by decide +kernel) (by decide +kernel) (by decide +kernel))) <| Vs (Mv rfl) <| Vs (Xt rfl) <| Vs (Xt rfl) <| Vs (Al 66 TZ27 rfl) <| Vs (StS TS27 rfl) <| Vs (As rfl) <| Nx <| Sq <| Rg <| Vs (LdS TA27 TS27 rfl) <| Vs (C0 rfl rfl (g25k (t := (⟨#[50, 47, 53]⟩ : ByteArray)) (okR_lit (by decide +kernel)) (by decide +kernel))) <| Vs (Mv rfl) <| Vs (Xt rfl) <| Vs (Xt rfl) <| Vs (As rfl) <| Vs (As rfl) <| Nx <| Sq <| Rd (by kernel_rfl) <| Vl (Mv rfl) <| Vl (Bi (c := .bool true) rfl) <| Vl (Mv rfl) <| Vl (LdS TA27 TS27 rfl) <| Vl (C0 rfl rfl (g45k (n := 5) (m := 6) (5) (6) (by decide) (by decide) (by decide))) <| Vl (Cf rfl rfl (g22t (by decide +kernel) (by decide +kernel)) rfl) <| Vl (Pk rfl) <| Vl (Mv rfl) <| Vl (Mv rfl) <| Vl (Bi (c := .bool true) rfl) <| Vl (Pk rfl) <| Vl (Mv rfl) <| Vl (LdS TA27 TS27 rfl) <| Vl (C0 rfl rfl (g45k (n := -3) (m := 2) ((-3)) (2) (by decide) (by decide) (by decide))) <| Vl (Cf rfl rfl (g22t (by decide +kernel) (by decide +kernel)) rfl) <| Vl (Pk rfl) <| Vl (Mv rfl) <| Vl (Mv rfl) <| Vl (Bi (c := .bool true) rfl) <| Vl (Pk rfl) <| Vl (Mv rfl) <| Vl (Mv rfl) <| Vl (Bi (c := .bool true) rfl) <| Vl (Pk rfl) <| Vl (Mv rfl) <| Vl (LdS TA24 TS24 rfl) <| Vl (C0 rfl rfl (c28 (n := (-4)) (by first | omega | assumption | (simp; done) | (simp; omega)) (by first | omega | assumption | (simp; done) | (simp; omega)))) <| Vl (Cf rfl rfl (g38t (by decide +kernel)) rfl) <| Vl (Pk rfl) <| Vl (Mv rfl) <| Vl (Mv rfl) <| ?_
  refine Vl (Bi (c := .bool true) rfl) <| Vl (Pk rfl) <| Vl (Mv rfl) <| Vl (Mv rfl) <| Vl (Pk rfl) <| Vl (Mv rfl) <| Vl (LdS TA27 TS27 rfl) <| Vl (C0 rfl rfl (g45k (n := 3) (m := 2) (3) (2) (by decide) (by decide) (by decide))) <| Vl (Cf rfl rfl (g22t (by decide +kernel) (by decide +kernel)) rfl) <| Vl (Pk rfl) <| Vl (Mv rfl) <| Vl (Mv rfl) <| Vl (Bi (c := .bool true) rfl) <| Vl (Pk rfl) <| Vl (Mv rfl) <| Vl (Mv rfl) <| Vl (Bi (c := .bool true) rfl) <| Vl (Pk rfl) <| Vl (Mv rfl) <| Vl (Mv rfl) <| Vl (Bo (c := .bool true) rfl (bop_str_refl _)) <| Vl (Pk rfl) <| Vl (Mv rfl) <| Vl (Mv rfl) <| Vl (Bi (c := .bool true) rfl) <| Vl (Pk rfl) <| Vl (Mv rfl) <| Vl (Mv rfl) <| Vl (Bo (c := .bool true) rfl (bop_str_refl _)) <| Vl (Pk rfl) <| Vl (Mv rfl) <| Vl (Mv rfl) <| Vl (Bi (c := .bool true) rfl) <| Vl (Pk rfl) <| Vl (As rfl) <| ?_
  refine VLog.nil ⟨by kernel_rfl, ?_⟩
  exact Tg <| Re <| Fi (l := [boolB (true)]) (Rc (resVar_tmp rfl rfl) Rn) rfl
end Go.VL

/- Walks over the Go functions, printed by a program of this session over the kit's print, and by hand. -/
set_option linter.unusedVariables false
set_option linter.unusedSimpArgs false
namespace Go.VL
open Go.Proofs
theorem g29 (n : Bool) (A : List Int) (m : Bool) (D : List Int) (n2 : Bool) (A2 : List Int) (m2 : Bool) (D2 : List Int) (n3 : Bool) (A3 : List Int) (m3 : Bool) (D3 : List Int) (hA : A.length ≤ 9223372036854775807) (hD : D.length ≤ 9223372036854775807) (hA2 : A2.length ≤ 9223372036854775807) (hD2 : D2.length ≤ 9223372036854775807) (hA3 : A3.length ≤ 9223372036854775807) (hD3 : D3.length ≤ 9223372036854775807) (oA : ok32 A) (oD : ok32 D) (oA2 : ok32 A2) (oD2 : ok32 D2) (oA3 : ok32 A3) (oD3 : ok32 D3) (k : Int) : VF Try.prog 29 [.agg [boolB (n), u32S (A), boolB (m), u32S (D)], .agg [boolB (n2), u32S (A2), boolB (m2), u32S (D2)], .agg [boolB (n3), u32S (A3), boolB (m3), u32S (D3)], numB .i64 (k)] (boolB (v3 n A m D n2 A2 m2 D2 n3 A3 m3 D3 k)) := by
  refine VF_of P_mixed Try.func29 rfl rfl (by kernel_rfl) <| Sq <| Rg <| Vs (Bx 0 rfl) <| Vs (Bx 1 rfl) <| Vs (Bx 2 rfl) <| Vs (As rfl) <| Nx <| Sq <| Sq <| Rg <| Vs (LdS TA27 TS27 rfl) <| Vs (Mv rfl) <| Vs (Cf rfl rfl (g76 n A m D hA hD k) rfl) <| Vs (Un rfl) <| Vs (Mv rfl) <| Sp 16 rfl (fun hc1 => ?_) (fun hc1 => ?_)
  · replace hc1 := (bnot_t hc1)
    exact Sk rfl <| Sk rfl <| Sk rfl <| Sk rfl <| Vs (Pk rfl) <| Vs (Mv rfl) <| Sk rfl <| Sk rfl <| Sk rfl <| Sk rfl <| Vs (Pk rfl) <| Nx <| Cy rfl <| Sq <| Rg <| Vs (As rfl) <| Nx <| Re <| Tr <| Fi (l := [boolB (false)]) (Rc (resVar_tmp rfl rfl) Rn) (v3_a hc1)
  · replace hc1 := (bnot_f hc1)
    refine Vs (LdS TA27 TS27 rfl) <| Vs (Mv rfl) <| Vs (Cf rfl rfl (g76 n2 A2 m2 D2 hA2 hD2 k) rfl) <| Vs (Un rfl) <| Vs (Pk rfl) <| Vs (Mv rfl) <| Sp 22 rfl (fun hc2 => ?_) (fun hc2 => ?_)
    · replace hc2 := (bnot_t hc2)
      exact Sk rfl <| Sk rfl <| Sk rfl <| Sk rfl <| Vs (Pk rfl) <| Nx <| Cy rfl <| Sq <| Rg <| Vs (As rfl) <| Nx <| Re <| Tr <| Fi (l := [boolB (false)]) (Rc (resVar_tmp rfl rfl) Rn) (v3_b hc1 hc2)
    · replace hc2 := (bnot_f hc2)
      refine Vs (LdS TA27 TS27 rfl) <| Vs (Mv rfl) <| Vs (Cf rfl rfl (g76 n3 A3 m3 D3 hA3 hD3 k) rfl) <| Vs (Un rfl) <| Vs (Pk rfl) <| Nx <| Cd rfl (fun hc3 => ?_) (fun hc3 => ?_)
      · replace hc3 := (bnot_t hc3)
        exact Sq <| Rg <| Vs (As rfl) <| Nx <| Re <| Tr <| Fi (l := [boolB (false)]) (Rc (resVar_tmp rfl rfl) Rn) (v3_c hc1 hc2 hc3)
      · replace hc3 := (bnot_f hc3)
        refine Ks <| Tg <| Sq <| Rg <| Vs (LdS TA27 TS27 rfl) <| Vs (Cf rfl rfl (g21 n A m D hA hD oA oD) rfl) <| Vs (As rfl) <| Nx <| Sq <| Rg <| Vs (LdS TA27 TS27 rfl) <| Vs (Cf rfl rfl (g21 n2 A2 m2 D2 hA2 hD2 oA2 oD2) rfl) <| Vs (As rfl) <| Nx <| Sq <| Rg <| Vs (LdS TA27 TS27 rfl) <| Vs (Cf rfl rfl (g21 n3 A3 m3 D3 hA3 hD3 oA3 oD3) rfl) <| Vs (As rfl) <| Nx <| Sq <| Rg <| Vs (Mv rfl) <| Vs (Mv rfl) <| Sp 35 rfl (fun hc4 => ?_) (fun hc4 => ?_)
        · replace hc4 := hc4
          refine Vs (Mv rfl) <| Vs (Pk rfl) <| Vs (Mv rfl) <| Sp 38 rfl (fun hc5 => ?_) (fun hc5 => ?_)
          · replace hc5 := hc5
            exact Vs (Mv rfl) <| Vs (Pk rfl) <| Vs (As rfl) <| Nx <| Re <| Fi (l := [boolB (vR n3 A3 m3 D3)]) (Rc (resVar_tmp rfl rfl) Rn) (v3_d hc1 hc2 hc3 hc4 hc5)
          · replace hc5 := hc5
            exact Sk rfl <| Vs (Pk rfl) <| Vs (As rfl) <| Nx <| Re <| Fi (l := [boolB (false)]) (Rc (resVar_tmp rfl rfl) Rn) (v3_e hc4 hc5)
        · replace hc4 := hc4
          exact Sk rfl <| Vs (Pk rfl) <| Vs (Mv rfl) <| Sk rfl <| Vs (Pk rfl) <| Vs (As rfl) <| Nx <| Re <| Fi (l := [boolB (false)]) (Rc (resVar_tmp rfl rfl) Rn) (v3_f hc4)
section
variable {x y : Rat} {j k : Nat}
theorem x39 (hx : bdR j x) (hy : bdR k y) (h : j + k + 1 ≤ 4096 := by decide) : VF Try.prog 39 [qR x, qR y] (.tup [qR (x + y), numB .i64 0]) := by
  have e := g39 (okR_x hx (by omega)) (okR_x hy (by omega))
  rw [addOk_bd hx hy h, qN, qD, qF, if_pos rfl, if_pos rfl, if_pos rfl, rd_num (ds x y), rd_den (ds x y), add_rat] at e
  exact e
theorem x44 (hx : bdR j x) (hy : bdR k y) (h : j + k + 1 ≤ 4096 := by decide) : VF Try.prog 44 [qR x, qR y] (.tup [qR (x - y), numB .i64 0]) := by
  have e := g44 (okR_x hx (by omega)) (okR_x hy (by omega))
  rw [subOk_bd hx hy h, qN, qD, qF, if_pos rfl, if_pos rfl, if_pos rfl, rd_num (ds x y), rd_den (ds x y), sub_rat] at e
  exact e
theorem x40 (hx : bdR j x) (hy : bdR k y) (h : j + k ≤ 4096 := by decide) : VF Try.prog 40 [qR x, qR y] (.tup [qR (x * y), numB .i64 0]) := by
  have e := g40 (okR_x hx (by omega)) (okR_x hy (by omega))
  rw [mulOk_bd hx hy h, qN, qD, qF, if_pos rfl, if_pos rfl, if_pos rfl, rd_num (ds x y), rd_den (ds x y), mul_rat] at e
  exact e
theorem x46 (hx : bdR j x) (hy : bdR k y) (h0 : y ≠ 0) (h : j + k ≤ 4096 := by decide) : VF Try.prog 46 [qR x, qR y] (.tup [qR (x / y), numB .i64 0]) := by
  have h1 : nu y ≠ 0 := fun hc => h0 (nu_zero.1 hc)
  have e := g46 (okR_x hx (by omega)) (okR_x hy (by omega)) h1
  rw [divOk_bd hx hy h, qN, qD, qF, if_pos rfl, if_pos rfl, if_pos rfl, rd_num (Int.mul_ne_zero (dz x) h1), rd_den (Int.mul_ne_zero (dz x) h1), div_rat] at e
  exact e
theorem x46z (hx : bdR j x) (h : j ≤ 4096 := by decide) : VF Try.prog 46 [qR x, qR 0] (.tup [qB 0 0, numB .i64 4]) := g46z (okR_x hx h) (okR_of in_zero in_one)
theorem x30 (hx : bdR j x) (hy : bdR k y) (h1 : j ≤ 4096 := by decide) (h2 : k ≤ 4096 := by decide) : VF Try.prog 30 [qR x, qR y] (.tup [numB .i64 (cmpR x y), numB .i64 0]) := by
  have e := g30 (okR_x hx h1) (okR_x hy h2)
  rw [cmp_rat] at e
  exact e
theorem x36 (hx : bdR j x) (h1 : j ≤ 4096 := by decide) : VF Try.prog 36 [qR x] (numB .i64 (cmpR x 0)) := by
  have e := g36 (okR_x hx h1)
  have h := cmp_rat x 0
  rw [show nu (0 : Rat) = 0 from rfl, show de (0 : Rat) = 1 from rfl, Int.mul_one, Int.zero_mul] at h
  rw [h] at e
  exact e
theorem x22 (hx : bdR j x) (hy : bdR k y) (h1 : j ≤ 4096 := by decide) (h2 : k ≤ 4096 := by decide) : VF Try.prog 22 [qR x, qR y] (boolB (decide (x = y))) := by
  have e := g22 (bdZ_in hx.1 h1) (bdZ_in hx.2 h1) (bdZ_in hy.1 h2) (bdZ_in hy.2 h2)
  rw [same_x] at e
  exact e
/-- A number of two small integers. -/
theorem x45 (a b : Int) {z : Rat} (hz : Rat.divInt a b = z) (h0 : b ≠ 0) (ha : -9223372036854775808 ≤ a ∧ a ≤ 9223372036854775807) (hb : -9223372036854775808 ≤ b ∧ b ≤ 9223372036854775807) : VF Try.prog 45 [numB .i64 a, numB .i64 b] (qR z) := by
  have e := g45 ha.1 ha.2 hb.1 hb.2
  rw [mkN, mkD, if_neg h0, if_neg h0, rd_num h0, rd_den h0, hz] at e
  exact e
end
theorem x22t {x y : Rat} {j k : Nat} (hx : bdR j x) (hy : bdR k y) (h : x = y) (h1 : j ≤ 4096 := by decide) (h2 : k ≤ 4096 := by decide) : VF Try.prog 22 [qR x, qR y] (boolB true) := by
  have e := x22 hx hy h1 h2
  rwa [decide_eq_true h] at e
end Go.VL

/- From contracts by value to the given statements: arguments that are rationals. -/
set_option linter.unusedVariables false
set_option linter.unusedSimpArgs false
set_option maxRecDepth 100000
namespace Go.VL
open Go.ChangeShapes Go.WideShapes Go.ChangeAt Go.RowKit Go.ChangeMaps Go.Proofs
section
variable {H : Type} {enc : TypeId × Value → H} {W : World}
/-- An integer's cells, opened. -/
theorem open_intC {fuel : Nat} {l : List Value} {d : DataW H × List MemPlace} (hsz : l.length = 2) (hf : DataW.trod enc Try.prog W 0 (fun _ => true) true fuel 24 l = some d) :
    ∃ (b : Bool) (L : List Int) (u : Value), l = [.bool b, u] ∧ u.oneCell' = true ∧ RepB W (fun _ => True) (u32S L) u ∧ ok32 L ∧ L.length ≤ 9223372036854775807 := by
  obtain ⟨xs, n, rfl, hx, hlen, hxl, hxs⟩ := DataW.trod_struct Try.underlying24 hf
  have c24 : Try.prog.cellsOf 24 = 2 := by kernel_rfl
  have c4 : Try.prog.cellsOf 4 = 1 := by kernel_rfl
  have c22 : Try.prog.cellsOf 22 = 1 := by kernel_rfl
  have c51 : Try.prog.cellsOf 77 = 1 := by kernel_rfl
  have hxl2 : xs.length = 2 := by simpa using hxl
  have e0 : DataW.trod enc Try.prog W 0 (fun _ => true) true n 4 ((l.drop 0).take (Try.prog.cellsOf 4)) = xs[0]? := hxs 0 _ rfl
  have e1 : DataW.trod enc Try.prog W 0 (fun _ => true) true n 22 ((l.drop 1).take (Try.prog.cellsOf 22)) = xs[1]? := hxs 1 _ rfl
  rw [c4] at e0
  rw [c22] at e1
  have g0 : xs[0]? = some xs[0] := by simp
  have g1 : xs[1]? = some xs[1] := by simp
  rw [g0] at e0
  rw [g1] at e1
  obtain ⟨a, u, rfl⟩ : ∃ a u, l = [a, u] := by
    match l, hsz with
    | [a, u], _ => exact ⟨a, u, rfl⟩
  obtain ⟨b, hb, _⟩ := DataW.trod_bool Try.underlying4 e0
  simp at hb
  subst hb
  rcases open_ints (k := .u32) Try.underlying22 Try.underlying77 c51 e1 with ⟨h1, _⟩ | ⟨a, len, cap, zs, h1, _, hlc, hcm, hzl, _, hcell, hwf⟩
  · simp at h1
    exact ⟨b, [], u, rfl, by rw [h1]; rfl, by rw [h1]; exact .nilsl 1 (by omega), ok32_nil, by simp⟩
  · simp at h1
    have hzl' : zs.length = cap := by simpa using hzl
    have hm : maxLen ≤ 9223372036854775807 := by decide
    refine ⟨b, zs.take len, u, rfl, by rw [h1]; rfl, ?_, ?_, by simp; omega⟩
    · rw [h1]
      refine .sl a len cap 1 _ (fun j => .int .u32 (zs.getD j 0)) (by simp; omega) hlc hcm (by omega) (fun _ => trivial) (fun j hj => ?_) (fun j hj => rfl) (fun j x hj => ?_)
      · simp at hj
        exact hcell j (by omega)
      · simp only [List.getElem?_map, Option.map_eq_some_iff] at hj
        obtain ⟨q, hq, rfl⟩ := hj
        have hjl := (List.getElem?_eq_some_iff.1 hq).1
        simp at hjl
        rw [List.getElem?_take_of_lt (by omega), getD_get (by omega)] at hq
        injection hq with hq
        subst hq
        exact .lit _ rfl
    · intro x hx
      exact lit_u32 (hwf x (List.mem_of_mem_take hx))
theorem open_rat {v : Value} {d : DataW H} {p : List MemPlace} (hval : Value.okWide Try.prog W .any 0 27 v) (h : DataW.Trod enc Try.prog W 0 (fun _ => true) true 27 v d p) :
    ∃ (n : Bool) (A : List Int) (m : Bool) (D : List Int), RepB W (fun _ => True) (ratB n A m D) v ∧ (ok32 A ∧ ok32 D) ∧ A.length ≤ 9223372036854775807 ∧ D.length ≤ 9223372036854775807 := by
  obtain ⟨cs, rfl, hsz⟩ := okWide_struct Try.underlying27 hval
  obtain ⟨fuel, hf⟩ := h
  obtain ⟨xs, n, rfl, hx, hlen, hxl, hxs⟩ := DataW.trod_struct Try.underlying27 hf
  have c27 : Try.prog.cellsOf 27 = 4 := by kernel_rfl
  have c24 : Try.prog.cellsOf 24 = 2 := by kernel_rfl
  rw [c27] at hsz hlen
  have hcs : (Value.agg cs).cells = cs := rfl
  rw [hcs] at hlen hxs
  have hxl2 : xs.length = 2 := by simpa using hxl
  have e0 : DataW.trod enc Try.prog W 0 (fun _ => true) true n 24 ((cs.toList.drop 0).take (Try.prog.cellsOf 24)) = xs[0]? := hxs 0 _ rfl
  have e1 : DataW.trod enc Try.prog W 0 (fun _ => true) true n 24 ((cs.toList.drop 2).take (Try.prog.cellsOf 24)) = xs[1]? := hxs 1 _ rfl
  rw [c24] at e0 e1
  have g0 : xs[0]? = some xs[0] := by simp
  have g1 : xs[1]? = some xs[1] := by simp
  rw [g0] at e0
  rw [g1] at e1
  have hl : cs.toList.length = 4 := by simpa using hsz
  obtain ⟨b1, L1, u1, k1, o1, r1, q1, z1⟩ := open_intC (by rw [List.length_take, List.length_drop]; omega) e0
  obtain ⟨b2, L2, u2, k2, o2, r2, q2, z2⟩ := open_intC (by rw [List.length_take, List.length_drop]; omega) e1
  have hcl : cs.toList = [.bool b1, u1, .bool b2, u2] := by
    rw [List.drop_zero] at k1
    have e := List.take_append_drop 2 cs.toList
    rw [k1] at e
    rw [List.take_of_length_le (by simp; omega)] at k2
    rw [← e, k2]; rfl
  have hcs' : cs = #[.bool b1, u1, .bool b2, u2] := by rw [← Array.toArray_toList (xs := cs), hcl]
  subst hcs'
  refine ⟨b1, L1, b2, L2, ?_, ⟨q1, q2⟩, z1, z2⟩
  refine .agg [.lit (.bool b1), u32S L1, .lit (.bool b2), u32S L2] _ (fun j => match j with | 0 => .bool b1 | 1 => u1 | 2 => .bool b2 | _ => u2) rfl (fun j hj => ?_) (fun j hj => ?_) (fun j x hj => ?_)
  · match j, hj with
    | 0, _ => rfl
    | 1, _ => rfl
    | 2, _ => rfl
    | 3, _ => rfl
  · match j, hj with
    | 0, _ => rfl
    | 1, _ => exact o1
    | 2, _ => rfl
    | 3, _ => exact o2
  · match j, hj with
    | 0, hj => injection hj with hj; subst hj; exact .lit _ rfl
    | 1, hj => injection hj with hj; subst hj; exact r1
    | 2, hj => injection hj with hj; subst hj; exact .lit _ rfl
    | 3, hj => injection hj with hj; subst hj; exact r2
theorem T27 : Try.prog.readableRec 27 = true ∧ 27 < Try.prog.types.size := ⟨by kernel_rfl, of_decide_eq_true (by kernel_rfl)⟩
end
end Go.VL

/- Facts of the program's head that the rows ask for. -/
set_option linter.unusedVariables false
set_option maxRecDepth 100000
namespace Go.Proofs.Ytnabpemjcidhdaa
theorem init_lit : "harness a3ed93cfbafc448ebd7993602ffc180a213c1ccb971332751c57b20fe9d8a5fc cut at straightedge/straightedgelaw02.RationalMatchesMake straightedge/straightedgelaw02.RationalMatchesSimplest straightedge/straightedgelaw02.RationalMatchesText straightedge/straightedgelaw02.RationalTextRoundTrip straightedge/straightedgelaw02.RationalMatchesOrder straightedge/straightedgelaw02.RationalField straightedge/straightedgelaw02.RationalFloors straightedge/straightedgelaw02.RationalReverses straightedge/straightedgelaw02.RationalOrder straightedge/straightedgelaw02.RationalSquares straightedge/straightedgelaw02.RationalSimplestTurns straightedge/straightedgelaw02.RationalSimplestLeast" = String.ofList ([Char.ofNat 104, Char.ofNat 97, Char.ofNat 114, Char.ofNat 110, Char.ofNat 101, Char.ofNat 115, Char.ofNat 115, Char.ofNat 32, Char.ofNat 97, Char.ofNat 51, Char.ofNat 101, Char.ofNat 100, Char.ofNat 57, Char.ofNat 51, Char.ofNat 99, Char.ofNat 102, Char.ofNat 98, Char.ofNat 97, Char.ofNat 102, Char.ofNat 99, Char.ofNat 52, Char.ofNat 52, Char.ofNat 56, Char.ofNat 101, Char.ofNat 98, Char.ofNat 100, Char.ofNat 55, Char.ofNat 57, Char.ofNat 57, Char.ofNat 51, Char.ofNat 54, Char.ofNat 48, Char.ofNat 50, Char.ofNat 102, Char.ofNat 102, Char.ofNat 99, Char.ofNat 49, Char.ofNat 56, Char.ofNat 48, Char.ofNat 97, Char.ofNat 50, Char.ofNat 49, Char.ofNat 51, Char.ofNat 99, Char.ofNat 49, Char.ofNat 99, Char.ofNat 99, Char.ofNat 98, Char.ofNat 57, Char.ofNat 55, Char.ofNat 49, Char.ofNat 51, Char.ofNat 51, Char.ofNat 50, Char.ofNat 55, Char.ofNat 53, Char.ofNat 49, Char.ofNat 99, Char.ofNat 53, Char.ofNat 55, Char.ofNat 98, Char.ofNat 50, Char.ofNat 48, Char.ofNat 102, Char.ofNat 101, Char.ofNat 57, Char.ofNat 100, Char.ofNat 56, Char.ofNat 97, Char.ofNat 53, Char.ofNat 102, Char.ofNat 99, Char.ofNat 32, Char.ofNat 99, Char.ofNat 117, Char.ofNat 116] ++ Char.ofNat 32 :: [Char.ofNat 97, Char.ofNat 116, Char.ofNat 32, Char.ofNat 115, Char.ofNat 116, Char.ofNat 114, Char.ofNat 97, Char.ofNat 105, Char.ofNat 103, Char.ofNat 104, Char.ofNat 116, Char.ofNat 101, Char.ofNat 100, Char.ofNat 103, Char.ofNat 101, Char.ofNat 47, Char.ofNat 115, Char.ofNat 116, Char.ofNat 114, Char.ofNat 97, Char.ofNat 105, Char.ofNat 103, Char.ofNat 104, Char.ofNat 116, Char.ofNat 101, Char.ofNat 100, Char.ofNat 103, Char.ofNat 101, Char.ofNat 108, Char.ofNat 97, Char.ofNat 119, Char.ofNat 48, Char.ofNat 50, Char.ofNat 46, Char.ofNat 82, Char.ofNat 97, Char.ofNat 116, Char.ofNat 105, Char.ofNat 111, Char.ofNat 110, Char.ofNat 97, Char.ofNat 108, Char.ofNat 77, Char.ofNat 97, Char.ofNat 116, Char.ofNat 99, Char.ofNat 104, Char.ofNat 101, Char.ofNat 115, Char.ofNat 77, Char.ofNat 97, Char.ofNat 107, Char.ofNat 101, Char.ofNat 32, Char.ofNat 115, Char.ofNat 116, Char.ofNat 114, Char.ofNat 97, Char.ofNat 105, Char.ofNat 103, Char.ofNat 104, Char.ofNat 116, Char.ofNat 101, Char.ofNat 100, Char.ofNat 103, Char.ofNat 101, Char.ofNat 47, Char.ofNat 115, Char.ofNat 116, Char.ofNat 114, Char.ofNat 97, Char.ofNat 105, Char.ofNat 103, Char.ofNat 104, Char.ofNat 116, Char.ofNat 101, Char.ofNat 100, Char.ofNat 103, Char.ofNat 101, Char.ofNat 108, Char.ofNat 97, Char.ofNat 119, Char.ofNat 48, Char.ofNat 50, Char.ofNat 46, Char.ofNat 82, Char.ofNat 97, Char.ofNat 116, Char.ofNat 105, Char.ofNat 111, Char.ofNat 110, Char.ofNat 97, Char.ofNat 108, Char.ofNat 77, Char.ofNat 97, Char.ofNat 116, Char.ofNat 99, Char.ofNat 104, Char.ofNat 101, Char.ofNat 115, Char.ofNat 83, Char.ofNat 105, Char.ofNat 109, Char.ofNat 112, Char.ofNat 108, Char.ofNat 101, Char.ofNat 115, Char.ofNat 116, Char.ofNat 32, Char.ofNat 115, Char.ofNat 116, Char.ofNat 114, Char.ofNat 97, Char.ofNat 105, Char.ofNat 103, Char.ofNat 104, Char.ofNat 116, Char.ofNat 101, Char.ofNat 100, Char.ofNat 103, Char.ofNat 101, Char.ofNat 47, Char.ofNat 115, Char.ofNat 116, Char.ofNat 114, Char.ofNat 97, Char.ofNat 105, Char.ofNat 103, Char.ofNat 104, Char.ofNat 116, Char.ofNat 101, Char.ofNat 100, Char.ofNat 103, Char.ofNat 101, Char.ofNat 108, Char.ofNat 97, Char.ofNat 119, Char.ofNat 48, Char.ofNat 50, Char.ofNat 46, Char.ofNat 82, Char.ofNat 97, Char.ofNat 116, Char.ofNat 105, Char.ofNat 111, Char.ofNat 110, Char.ofNat 97, Char.ofNat 108, Char.ofNat 77, Char.ofNat 97, Char.ofNat 116, Char.ofNat 99, Char.ofNat 104, Char.ofNat 101, Char.ofNat 115, Char.ofNat 84, Char.ofNat 101, Char.ofNat 120, Char.ofNat 116, Char.ofNat 32, Char.ofNat 115, Char.ofNat 116, Char.ofNat 114, Char.ofNat 97, Char.ofNat 105, Char.ofNat 103, Char.ofNat 104, Char.ofNat 116, Char.ofNat 101, Char.ofNat 100, Char.ofNat 103, Char.ofNat 101, Char.ofNat 47, Char.ofNat 115, Char.ofNat 116, Char.ofNat 114, Char.ofNat 97, Char.ofNat 105, Char.ofNat 103, Char.ofNat 104, Char.ofNat 116, Char.ofNat 101, Char.ofNat 100, Char.ofNat 103, Char.ofNat 101, Char.ofNat 108, Char.ofNat 97, Char.ofNat 119, Char.ofNat 48, Char.ofNat 50, Char.ofNat 46, Char.ofNat 82, Char.ofNat 97, Char.ofNat 116, Char.ofNat 105, Char.ofNat 111, Char.ofNat 110, Char.ofNat 97, Char.ofNat 108, Char.ofNat 84, Char.ofNat 101, Char.ofNat 120, Char.ofNat 116, Char.ofNat 82, Char.ofNat 111, Char.ofNat 117, Char.ofNat 110, Char.ofNat 100, Char.ofNat 84, Char.ofNat 114, Char.ofNat 105, Char.ofNat 112, Char.ofNat 32, Char.ofNat 115, Char.ofNat 116, Char.ofNat 114, Char.ofNat 97, Char.ofNat 105, Char.ofNat 103, Char.ofNat 104, Char.ofNat 116, Char.ofNat 101, Char.ofNat 100, Char.ofNat 103, Char.ofNat 101, Char.ofNat 47, Char.ofNat 115, Char.ofNat 116, Char.ofNat 114, Char.ofNat 97, Char.ofNat 105, Char.ofNat 103, Char.ofNat 104, Char.ofNat 116, Char.ofNat 101, Char.ofNat 100, Char.ofNat 103, Char.ofNat 101, Char.ofNat 108, Char.ofNat 97, Char.ofNat 119, Char.ofNat 48, Char.ofNat 50, Char.ofNat 46, Char.ofNat 82, Char.ofNat 97, Char.ofNat 116, Char.ofNat 105, Char.ofNat 111, Char.ofNat 110, Char.ofNat 97, Char.ofNat 108, Char.ofNat 77, Char.ofNat 97, Char.ofNat 116, Char.ofNat 99, Char.ofNat 104, Char.ofNat 101, Char.ofNat 115, Char.ofNat 79, Char.ofNat 114, Char.ofNat 100, Char.ofNat 101, Char.ofNat 114, Char.ofNat 32, Char.ofNat 115, Char.ofNat 116, Char.ofNat 114, Char.ofNat 97, Char.ofNat 105, Char.ofNat 103, Char.ofNat 104, Char.ofNat 116, Char.ofNat 101, Char.ofNat 100, Char.ofNat 103, Char.ofNat 101, Char.ofNat 47, Char.ofNat 115, Char.ofNat 116, Char.ofNat 114, Char.ofNat 97, Char.ofNat 105, Char.ofNat 103, Char.ofNat 104, Char.ofNat 116, Char.ofNat 101, Char.ofNat 100, Char.ofNat 103, Char.ofNat 101, Char.ofNat 108, Char.ofNat 97, Char.ofNat 119, Char.ofNat 48, Char.ofNat 50, Char.ofNat 46, Char.ofNat 82, Char.ofNat 97, Char.ofNat 116, Char.ofNat 105, Char.ofNat 111, Char.ofNat 110, Char.ofNat 97, Char.ofNat 108, Char.ofNat 70, Char.ofNat 105, Char.ofNat 101, Char.ofNat 108, Char.ofNat 100, Char.ofNat 32, Char.ofNat 115, Char.ofNat 116, Char.ofNat 114, Char.ofNat 97, Char.ofNat 105, Char.ofNat 103, Char.ofNat 104, Char.ofNat 116, Char.ofNat 101, Char.ofNat 100, Char.ofNat 103, Char.ofNat 101, Char.ofNat 47, Char.ofNat 115, Char.ofNat 116, Char.ofNat 114, Char.ofNat 97, Char.ofNat 105, Char.ofNat 103, Char.ofNat 104, Char.ofNat 116, Char.ofNat 101, Char.ofNat 100, Char.ofNat 103, Char.ofNat 101, Char.ofNat 108, Char.ofNat 97, Char.ofNat 119, Char.ofNat 48, Char.ofNat 50, Char.ofNat 46, Char.ofNat 82, Char.ofNat 97, Char.ofNat 116, Char.ofNat 105, Char.ofNat 111, Char.ofNat 110, Char.ofNat 97, Char.ofNat 108, Char.ofNat 70, Char.ofNat 108, Char.ofNat 111, Char.ofNat 111, Char.ofNat 114, Char.ofNat 115, Char.ofNat 32, Char.ofNat 115, Char.ofNat 116, Char.ofNat 114, Char.ofNat 97, Char.ofNat 105, Char.ofNat 103, Char.ofNat 104, Char.ofNat 116, Char.ofNat 101, Char.ofNat 100, Char.ofNat 103, Char.ofNat 101, Char.ofNat 47, Char.ofNat 115, Char.ofNat 116, Char.ofNat 114, Char.ofNat 97, Char.ofNat 105, Char.ofNat 103, Char.ofNat 104, Char.ofNat 116, Char.ofNat 101, Char.ofNat 100, Char.ofNat 103, Char.ofNat 101, Char.ofNat 108, Char.ofNat 97, Char.ofNat 119, Char.ofNat 48, Char.ofNat 50, Char.ofNat 46, Char.ofNat 82, Char.ofNat 97, Char.ofNat 116, Char.ofNat 105, Char.ofNat 111, Char.ofNat 110, Char.ofNat 97, Char.ofNat 108, Char.ofNat 82, Char.ofNat 101, Char.ofNat 118, Char.ofNat 101, Char.ofNat 114, Char.ofNat 115, Char.ofNat 101, Char.ofNat 115, Char.ofNat 32, Char.ofNat 115, Char.ofNat 116, Char.ofNat 114, Char.ofNat 97, Char.ofNat 105, Char.ofNat 103, Char.ofNat 104, Char.ofNat 116, Char.ofNat 101, Char.ofNat 100, Char.ofNat 103, Char.ofNat 101, Char.ofNat 47, Char.ofNat 115, Char.ofNat 116, Char.ofNat 114, Char.ofNat 97, Char.ofNat 105, Char.ofNat 103, Char.ofNat 104, Char.ofNat 116, Char.ofNat 101, Char.ofNat 100, Char.ofNat 103, Char.ofNat 101, Char.ofNat 108, Char.ofNat 97, Char.ofNat 119, Char.ofNat 48, Char.ofNat 50, Char.ofNat 46, Char.ofNat 82, Char.ofNat 97, Char.ofNat 116, Char.ofNat 105, Char.ofNat 111, Char.ofNat 110, Char.ofNat 97, Char.ofNat 108, Char.ofNat 79, Char.ofNat 114, Char.ofNat 100, Char.ofNat 101, Char.ofNat 114, Char.ofNat 32, Char.ofNat 115, Char.ofNat 116, Char.ofNat 114, Char.ofNat 97, Char.ofNat 105, Char.ofNat 103, Char.ofNat 104, Char.ofNat 116, Char.ofNat 101, Char.ofNat 100, Char.ofNat 103, Char.ofNat 101, Char.ofNat 47, Char.ofNat 115, Char.ofNat 116, Char.ofNat 114, Char.ofNat 97, Char.ofNat 105, Char.ofNat 103, Char.ofNat 104, Char.ofNat 116, Char.ofNat 101, Char.ofNat 100, Char.ofNat 103, Char.ofNat 101, Char.ofNat 108, Char.ofNat 97, Char.ofNat 119, Char.ofNat 48, Char.ofNat 50, Char.ofNat 46, Char.ofNat 82, Char.ofNat 97, Char.ofNat 116, Char.ofNat 105, Char.ofNat 111, Char.ofNat 110, Char.ofNat 97, Char.ofNat 108, Char.ofNat 83, Char.ofNat 113, Char.ofNat 117, Char.ofNat 97, Char.ofNat 114, Char.ofNat 101, Char.ofNat 115, Char.ofNat 32, Char.ofNat 115, Char.ofNat 116, Char.ofNat 114, Char.ofNat 97, Char.ofNat 105, Char.ofNat 103, Char.ofNat 104, Char.ofNat 116, Char.ofNat 101, Char.ofNat 100, Char.ofNat 103, Char.ofNat 101, Char.ofNat 47, Char.ofNat 115, Char.ofNat 116, Char.ofNat 114, Char.ofNat 97, Char.ofNat 105, Char.ofNat 103, Char.ofNat 104, Char.ofNat 116, Char.ofNat 101, Char.ofNat 100, Char.ofNat 103, Char.ofNat 101, Char.ofNat 108, Char.ofNat 97, Char.ofNat 119, Char.ofNat 48, Char.ofNat 50, Char.ofNat 46, Char.ofNat 82, Char.ofNat 97, Char.ofNat 116, Char.ofNat 105, Char.ofNat 111, Char.ofNat 110, Char.ofNat 97, Char.ofNat 108, Char.ofNat 83, Char.ofNat 105, Char.ofNat 109, Char.ofNat 112, Char.ofNat 108, Char.ofNat 101, Char.ofNat 115, Char.ofNat 116, Char.ofNat 84, Char.ofNat 117, Char.ofNat 114, Char.ofNat 110, Char.ofNat 115, Char.ofNat 32, Char.ofNat 115, Char.ofNat 116, Char.ofNat 114, Char.ofNat 97, Char.ofNat 105, Char.ofNat 103, Char.ofNat 104, Char.ofNat 116, Char.ofNat 101, Char.ofNat 100, Char.ofNat 103, Char.ofNat 101, Char.ofNat 47, Char.ofNat 115, Char.ofNat 116, Char.ofNat 114, Char.ofNat 97, Char.ofNat 105, Char.ofNat 103, Char.ofNat 104, Char.ofNat 116, Char.ofNat 101, Char.ofNat 100, Char.ofNat 103, Char.ofNat 101, Char.ofNat 108, Char.ofNat 97, Char.ofNat 119, Char.ofNat 48, Char.ofNat 50, Char.ofNat 46, Char.ofNat 82, Char.ofNat 97, Char.ofNat 116, Char.ofNat 105, Char.ofNat 111, Char.ofNat 110, Char.ofNat 97, Char.ofNat 108, Char.ofNat 83, Char.ofNat 105, Char.ofNat 109, Char.ofNat 112, Char.ofNat 108, Char.ofNat 101, Char.ofNat 115, Char.ofNat 116, Char.ofNat 76, Char.ofNat 101, Char.ofNat 97, Char.ofNat 115, Char.ofNat 116]) := rfl
theorem init_gen (X : List Char) : behindMainWord (wordsSigns ([Char.ofNat 104, Char.ofNat 97, Char.ofNat 114, Char.ofNat 110, Char.ofNat 101, Char.ofNat 115, Char.ofNat 115, Char.ofNat 32, Char.ofNat 97, Char.ofNat 51, Char.ofNat 101, Char.ofNat 100, Char.ofNat 57, Char.ofNat 51, Char.ofNat 99, Char.ofNat 102, Char.ofNat 98, Char.ofNat 97, Char.ofNat 102, Char.ofNat 99, Char.ofNat 52, Char.ofNat 52, Char.ofNat 56, Char.ofNat 101, Char.ofNat 98, Char.ofNat 100, Char.ofNat 55, Char.ofNat 57, Char.ofNat 57, Char.ofNat 51, Char.ofNat 54, Char.ofNat 48, Char.ofNat 50, Char.ofNat 102, Char.ofNat 102, Char.ofNat 99, Char.ofNat 49, Char.ofNat 56, Char.ofNat 48, Char.ofNat 97, Char.ofNat 50, Char.ofNat 49, Char.ofNat 51, Char.ofNat 99, Char.ofNat 49, Char.ofNat 99, Char.ofNat 99, Char.ofNat 98, Char.ofNat 57, Char.ofNat 55, Char.ofNat 49, Char.ofNat 51, Char.ofNat 51, Char.ofNat 50, Char.ofNat 55, Char.ofNat 53, Char.ofNat 49, Char.ofNat 99, Char.ofNat 53, Char.ofNat 55, Char.ofNat 98, Char.ofNat 50, Char.ofNat 48, Char.ofNat 102, Char.ofNat 101, Char.ofNat 57, Char.ofNat 100, Char.ofNat 56, Char.ofNat 97, Char.ofNat 53, Char.ofNat 102, Char.ofNat 99, Char.ofNat 32, Char.ofNat 99, Char.ofNat 117, Char.ofNat 116] ++ Char.ofNat 32 :: X)) = [Char.ofNat 99, Char.ofNat 117, Char.ofNat 116] :: wordsSigns X := by rfl
theorem init_words : ∃ R, behindMainWord (wordsSigns Try.pinned.checked.prog.initOrder.toList) = [Char.ofNat 99, Char.ofNat 117, Char.ofNat 116] :: R :=
  ⟨_, (congrArg (fun l => behindMainWord (wordsSigns l)) ((congrArg String.toList init_lit).trans String.toList_ofList)).trans (init_gen _)⟩
theorem strip (R : List (List Char)) : stripLifts liftWords ([Char.ofNat 99, Char.ofNat 117, Char.ofNat 116] :: R) = ([], [Char.ofNat 99, Char.ofNat 117, Char.ofNat 116] :: R) := by rfl
theorem may_gen (P : Program) (R : List (List Char)) (h : behindMainWord (wordsSigns P.initOrder.toList) = [Char.ofNat 99, Char.ofNat 117, Char.ofNat 116] :: R) (h1 : P.laysLater = false) (h2 : P.bearsReflect = false) (h3 : P.doorFits [] = true) : P.mayEnter = true := by
  unfold Program.mayEnter
  rw [h]
  simp only [strip]
  rw [h1, h2, h3]
  rfl
theorem lifts_gen (P : Program) (R : List (List Char)) (h : behindMainWord (wordsSigns P.initOrder.toList) = [Char.ofNat 99, Char.ofNat 117, Char.ofNat 116] :: R) : P.liftsFinal = false := by
  unfold Program.liftsFinal Program.headLifts
  rw [h]
  simp only [strip]
  rfl
theorem make_gen (P : Program) (R : List (List Char)) (h : behindMainWord (wordsSigns P.initOrder.toList) = [Char.ofNat 99, Char.ofNat 117, Char.ofNat 116] :: R) : P.make = some .cut := by
  unfold Program.make
  rw [h]
  rfl
theorem head_may : Try.pinned.checked.prog.mayEnter = true := by
  obtain ⟨R, h⟩ := init_words
  exact may_gen _ R h (by kernel_rfl) (by kernel_rfl) (by kernel_rfl)
theorem head_lifts : Try.pinned.checked.prog.liftsFinal = false := by
  obtain ⟨R, h⟩ := init_words
  exact lifts_gen _ R h
theorem head_make : Try.pinned.checked.prog.make = some .cut := by
  obtain ⟨R, h⟩ := init_words
  exact make_gen _ R h
end Go.Proofs.Ytnabpemjcidhdaa

/- Plain laws of rationals: the order. No program. -/
set_option linter.unusedVariables false
set_option linter.unusedSimpArgs false
namespace Go.VL
section
variable {a b c x y : Rat}
theorem cmpR_lt : cmpR a b < 0 ↔ a < b := by unfold cmpR; split; simp [*]; split <;> simp [*]
theorem cmpR_eq : cmpR a b = 0 ↔ a = b := by
  unfold cmpR
  split
  · rename_i h
    constructor
    · intro h1; omega
    · intro h1; subst h1; grind
  · split <;> simp [*]
theorem cmpR_gt : cmpR a b > 0 ↔ b < a := by
  unfold cmpR
  split
  · rename_i h; constructor
    · intro h1; omega
    · intro h1; grind
  · split
    · rename_i h h2; constructor
      · intro h1; omega
      · intro h1; grind
    · rename_i h h2; constructor
      · intro h1; grind
      · intro h1; omega
theorem cmpR_rng (a b : Rat) : -1 ≤ cmpR a b ∧ cmpR a b ≤ 1 := by unfold cmpR; split <;> (try split) <;> omega
theorem cmpR_congr {c d : Rat} (h1 : a < b ↔ c < d) (h2 : a = b ↔ c = d) : cmpR a b = cmpR c d := by unfold cmpR; simp only [h1, h2]
theorem cmpR_sub : cmpR (a - b) 0 = cmpR a b := cmpR_congr (by grind) (by grind)
theorem cmpR_add : cmpR (a + c) (b + c) = cmpR a b := cmpR_congr (by grind) (by grind)
theorem cmpR_turn (a b : Rat) : cmpR b a = -cmpR a b := by
  unfold cmpR
  split
  · rename_i h; rw [if_neg (by grind), if_neg (by grind)]
  · split
    · rename_i h h2; subst h2; rw [if_neg h, if_pos rfl]; rfl
    · rw [if_pos (by grind)]; rfl
theorem cmpR_same : cmpR a a = 0 := cmpR_eq.2 rfl
theorem ord_turn : (cmpR a b != -cmpR b a) = false := by rw [cmpR_turn b a]; simp
theorem ord_sign : (cmpR (a - b) 0 != cmpR a b) = false := by rw [cmpR_sub]; simp
theorem ge_of (h : cmpR a b ≥ 0) : b ≤ a := by have := mt cmpR_lt.2 (show ¬ cmpR a b < 0 by omega); grind
theorem ord_tr (h1 : cmpR a b ≥ 0) (h2 : cmpR b c ≥ 0) : decide (cmpR a c < 0) = false := by
  have := ge_of h1
  have := ge_of h2
  rw [decide_eq_false_iff_not, cmpR_lt]; grind
theorem ord_e1 (h1 : cmpR a b = 0) : (!((cmpR a c == 0) == (cmpR b c == 0))) = false := by rw [cmpR_eq.1 h1]; simp
theorem ord_e2 (h1 : cmpR a b ≥ 0) (h2 : cmpR b c ≥ 0) (h3 : cmpR a b ≠ 0) : (!((cmpR a c == 0) == false)) = false := by
  have := ge_of h1
  have := ge_of h2
  have h4 : a ≠ b := fun h => h3 (cmpR_eq.2 h)
  have h5 : ¬ cmpR a c = 0 := fun h => by have := cmpR_eq.1 h; grind
  simp [h5]
/-- The magnitude. -/
def absR (x : Rat) : Rat := if 0 ≤ x then x else -x
theorem absR_or (x : Rat) : absR x = x ∨ absR x = -x := by unfold absR; split <;> simp
theorem absR_nn (x : Rat) : 0 ≤ absR x := by unfold absR; split <;> grind
theorem bd_lit {x : Rat} (h : (decide ((nu x).natAbs < 2 ^ 40) && decide ((de x).natAbs < 2 ^ 40)) = true) : bdR 40 x := by
  simp only [Bool.and_eq_true, decide_eq_true_eq] at h
  exact h
end
section
variable {x y a : Rat} {k : Nat}
theorem neg_nd (x : Rat) : nu (-x) = -nu x ∧ de (-x) = de x := ⟨rfl, rfl⟩
theorem bdR_neg (h : bdR k x) : bdR k (-x) := ⟨by rw [(neg_nd x).1]; exact bdZ_neg h.1, by rw [(neg_nd x).2]; exact h.2⟩
theorem bdR_abs (h : bdR k x) : bdR k (absR x) := by
  rcases absR_or x with e | e <;> rw [e]
  · exact h
  · exact bdR_neg h
theorem abs_dif (h : cmpR (absR a + a) 0 ≠ 0) : (cmpR (absR a - a) 0 != 0) = false := by
  have h1 : absR a + a ≠ 0 := fun hc => h (cmpR_eq.2 hc)
  have h2 : absR a - a = 0 := by rcases absR_or a with e | e <;> grind
  rw [h2, cmpR_same]; rfl
/-- A number by its parts. -/
theorem nd_of {p q : Int} (hq : 0 < q) (hg : Int.gcd p q = 1) (h : Rat.divInt p q = x) : nu x = p ∧ de x = q := by
  subst h
  have h0 : q ≠ 0 := by omega
  have hg' : rdG p q = 1 := by unfold rdG; rw [hg]; rfl
  obtain ⟨e1, e2⟩ := rd_one hg'
  rw [← rd_num h0, ← rd_den h0, e1, e2]
  have hn : ¬ q < 0 := by omega
  exact ⟨by simp only [rdS, if_neg hn], by simp only [rdS, if_neg hn]⟩
theorem gcd_sq {p q : Int} (h : Int.gcd p q = 1) : Int.gcd (p * p) (q * q) = 1 := by
  unfold Int.gcd at *
  rw [Int.natAbs_mul, Int.natAbs_mul]
  exact Nat.Coprime.mul_left (Nat.Coprime.mul_right h h) (Nat.Coprime.mul_right h h)
theorem sq_nd (x : Rat) : nu (x * x) = nu x * nu x ∧ de (x * x) = de x * de x :=
  nd_of (Int.mul_pos (de_pos x) (de_pos x)) (gcd_sq (nd_cop x)) (mul_rat x x)
theorem nu_nn : 0 ≤ nu x ↔ 0 ≤ x := Rat.num_nonneg
theorem abs_nd (x : Rat) : nu (absR x) = ((nu x).natAbs : Int) ∧ de (absR x) = de x := by
  unfold absR
  split
  · rename_i h; have := nu_nn.2 h; exact ⟨by omega, rfl⟩
  · rename_i h; have := mt nu_nn.1 h; exact ⟨by rw [(neg_nd x).1]; omega, rfl⟩
theorem isq_abs (z : Int) : isq (z * z) = (z.natAbs : Int) := by
  rw [← Int.natAbs_mul_self' z]; exact isq_sq (by omega)
theorem sq_of_sq : sqRR (nu (x * x)) (de (x * x)) = .tup [qR (absR x), boolB true, numB .i64 0] := by
  obtain ⟨e1, e2⟩ := sq_nd x
  have h1 : isq (nu x * nu x) * isq (nu x * nu x) = nu x * nu x := by rw [isq_abs]; exact Int.natAbs_mul_self' _
  have h2 : isq (de x * de x) * isq (de x * de x) = de x * de x := by rw [isq_abs]; exact Int.natAbs_mul_self' _
  rw [e1, e2, sq_yes (by rw [← Int.natAbs_mul_self' (nu x)]; exact Int.mul_nonneg (by omega) (by omega)) h1 h2, isq_abs, isq_abs, qR, (abs_nd x).1, (abs_nd x).2]
  have := de_pos x
  rw [show ((de x).natAbs : Int) = de x by omega]; rfl
theorem sq_of_neg (h : x < 0) : sqRR (nu x) (de x) = .tup [qB 0 0, boolB false, numB .i64 5] := by
  have : ¬ 0 ≤ nu x := fun hc => by have := nu_nn.1 hc; grind
  rw [sq_neg this, ← qB_zero]; rfl
theorem dvd_one_of {g p q : Int} (h : Int.gcd p q = 1) (h1 : g ∣ p) (h2 : g ∣ q) : g ∣ 1 := by
  have := Int.dvd_coe_gcd h1 h2
  rwa [h] at this
theorem sq_cases (ha : ¬ a < 0) (hb : bdR k a) : (∃ t : Rat, bdR k t ∧ sqRR (nu a) (de a) = .tup [qR t, boolB true, numB .i64 0] ∧ t * t = a) ∨ sqRR (nu a) (de a) = .tup [qB 0 0, boolB false, numB .i64 0] := by
  have h0 : 0 ≤ nu a := nu_nn.2 (by grind)
  by_cases hs : isq (nu a) * isq (nu a) = nu a ∧ isq (de a) * isq (de a) = de a
  · left
    obtain ⟨s1, s2⟩ := hs
    have i1 := isq_spec h0
    have hd := de_pos a
    have i2 := isq_spec (Int.le_of_lt hd)
    have q0 : 0 < isq (de a) := by
      apply Classical.byContradiction
      intro hc
      have : isq (de a) = 0 := by omega
      rw [this] at s2; omega
    have hg : Int.gcd (isq (nu a)) (isq (de a)) = 1 := by
      have h1 : ((Int.gcd (isq (nu a)) (isq (de a)) : Nat) : Int) ∣ nu a := by have h9 := Int.dvd_trans (Int.gcd_dvd_left (isq (nu a)) (isq (de a))) (Int.dvd_mul_right (isq (nu a)) (isq (nu a))); rwa [s1] at h9
      have h2 : ((Int.gcd (isq (nu a)) (isq (de a)) : Nat) : Int) ∣ de a := by have h9 := Int.dvd_trans (Int.gcd_dvd_right (isq (nu a)) (isq (de a))) (Int.dvd_mul_right (isq (de a)) (isq (de a))); rwa [s2] at h9
      have h3 := dvd_one_of (nd_cop a) h1 h2
      have h4 := Int.eq_one_of_dvd_one (by omega) h3
      omega
    obtain ⟨e1, e2⟩ := nd_of q0 hg rfl
    refine ⟨Rat.divInt (isq (nu a)) (isq (de a)), ?_, ?_, ?_⟩
    · refine ⟨?_, ?_⟩
      · rw [e1]; have := isq_le h0; have h5 := hb.1; unfold bdZ at *; omega
      · rw [e2]; have := isq_le (Int.le_of_lt hd); have h5 := hb.2; unfold bdZ at *; omega
    · rw [sq_yes h0 s1 s2, qR, e1, e2]; rfl
    · obtain ⟨k1, k2⟩ := sq_nd (Rat.divInt (isq (nu a)) (isq (de a)))
      rw [e1] at k1
      rw [e2] at k2
      exact nd_ext (k1.trans s1) (k2.trans s2)
  · right
    rw [sq_no h0 hs, ← qB_zero]; rfl
end
end Go.VL
