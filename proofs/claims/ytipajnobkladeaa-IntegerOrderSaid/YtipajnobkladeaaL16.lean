/- IntegerOrder returns true for every input and leaves the input as it was. No condition. -/
import Derived.Test.YtipajnobkladeaaK3
/- Plain laws that the statements about rings and orders of integers need. No program here. -/
set_option linter.unusedVariables false
set_option linter.unusedSimpArgs false
namespace Go.VL

theorem same_gg {ok ok' : Bool} {z z' : Int} (h : ok = true) (h' : ok' = true) (e : z = z') : sameB (gN ok z) (gL ok z) (gN ok' z') (gL ok' z') = true := by
  subst e; rw [h, h']; exact sameB_refl _ _
theorem gz {ok : Bool} {z : Int} (h : gE ok z = 0) : zOf (gN ok z) (gL ok z) = z := zOf_gg (gE_zero.1 h).1 (gE_zero.1 h).2
theorem go {ok : Bool} {z : Int} (h : gE ok z = 0) : ok = true := (gE_zero.1 h).1
theorem ring_add {o1 o2 o3 o4 : Bool} {a b c : Int} (e : gE o1 (a + b) = 0) (f : gE o2 (zOf (gN o1 (a + b)) (gL o1 (a + b)) + c) = 0) (g : gE o3 (b + c) = 0) (h : gE o4 (a + zOf (gN o3 (b + c)) (gL o3 (b + c))) = 0) :
    sameB (gN o2 (zOf (gN o1 (a + b)) (gL o1 (a + b)) + c)) (gL o2 (zOf (gN o1 (a + b)) (gL o1 (a + b)) + c)) (gN o4 (a + zOf (gN o3 (b + c)) (gL o3 (b + c)))) (gL o4 (a + zOf (gN o3 (b + c)) (gL o3 (b + c)))) = true :=
  same_gg (go f) (go h) (by rw [gz e, gz g]; omega)
theorem ring_mul {o1 o2 o3 o4 : Bool} {a b c : Int} (e : gE o1 (a * b) = 0) (f : gE o2 (zOf (gN o1 (a * b)) (gL o1 (a * b)) * c) = 0) (g : gE o3 (b * c) = 0) (h : gE o4 (a * zOf (gN o3 (b * c)) (gL o3 (b * c))) = 0) :
    sameB (gN o2 (zOf (gN o1 (a * b)) (gL o1 (a * b)) * c)) (gL o2 (zOf (gN o1 (a * b)) (gL o1 (a * b)) * c)) (gN o4 (a * zOf (gN o3 (b * c)) (gL o3 (b * c)))) (gL o4 (a * zOf (gN o3 (b * c)) (gL o3 (b * c)))) = true :=
  same_gg (go f) (go h) (by rw [gz e, gz g, Int.mul_assoc])
theorem ring_dist {o1 o2 o3 o4 o5 : Bool} {a b c : Int} (e : gE o1 (a * b) = 0) (f : gE o2 (a * c) = 0) (g : gE o3 (b + c) = 0) (h : gE o4 (a * zOf (gN o3 (b + c)) (gL o3 (b + c))) = 0)
    (i : gE o5 (zOf (gN o1 (a * b)) (gL o1 (a * b)) + zOf (gN o2 (a * c)) (gL o2 (a * c))) = 0) :
    sameB (gN o4 (a * zOf (gN o3 (b + c)) (gL o3 (b + c)))) (gL o4 (a * zOf (gN o3 (b + c)) (gL o3 (b + c)))) (gN o5 (zOf (gN o1 (a * b)) (gL o1 (a * b)) + zOf (gN o2 (a * c)) (gL o2 (a * c)))) (gL o5 (zOf (gN o1 (a * b)) (gL o1 (a * b)) + zOf (gN o2 (a * c)) (gL o2 (a * c)))) = true :=
  same_gg (go h) (go i) (by rw [gz e, gz f, gz g, Int.mul_add])
theorem ring_dist' {o1 o2 o3 o4 o5 : Bool} {a b c : Int} (e : gE o1 (a * b) = 0) (f : gE o2 (a * c) = 0) (g : gE o3 (b - c) = 0) (h : gE o4 (a * zOf (gN o3 (b - c)) (gL o3 (b - c))) = 0)
    (i : gE o5 (zOf (gN o1 (a * b)) (gL o1 (a * b)) - zOf (gN o2 (a * c)) (gL o2 (a * c))) = 0) :
    sameB (gN o4 (a * zOf (gN o3 (b - c)) (gL o3 (b - c)))) (gL o4 (a * zOf (gN o3 (b - c)) (gL o3 (b - c)))) (gN o5 (zOf (gN o1 (a * b)) (gL o1 (a * b)) - zOf (gN o2 (a * c)) (gL o2 (a * c)))) (gL o5 (zOf (gN o1 (a * b)) (gL o1 (a * b)) - zOf (gN o2 (a * c)) (gL o2 (a * c)))) = true :=
  same_gg (go h) (go i) (by rw [gz e, gz f, gz g, Int.mul_sub])
theorem comm_E {u v : Bool} {x y : Int} (h : x = y) : gE (u && v) x = gE (v && u) y := by rw [Bool.and_comm, h]
theorem comm_same {u v : Bool} {x y : Int} (h : x = y) : sameB (gN (u && v) x) (gL (u && v) x) (gN (v && u) y) (gL (v && u) y) = true := by rw [Bool.and_comm, h]; exact sameB_refl _ _
theorem cmp3_anti (a b : Int) : cmp3 a b = -cmp3 b a := by
  unfold cmp3
  rcases Int.lt_trichotomy a b with h | h | h
  · rw [if_pos h, if_neg (by omega), if_neg (by omega)]
  · subst h; simp
  · rw [if_neg (by omega), if_neg (by omega), if_pos h]; rfl
theorem cmp3_le {a b : Int} : cmp3 a b ≤ 0 ↔ a ≤ b := by unfold cmp3; split <;> (try split) <;> omega
theorem cmp3_gt {a b : Int} : cmp3 a b > 0 ↔ b < a := by unfold cmp3; split <;> (try split) <;> omega
theorem cmp3_le' {a b : Int} : cmp3 a b ≥ 0 ↔ b ≤ a := by unfold cmp3; split <;> (try split) <;> omega
theorem cmp_same {n m : Bool} {A B : List Int} (oA : ok32 A) (oB : ok32 B) (va : validB n A = true) (vb : validB m B = true) : (cmp3 (zOf n A) (zOf m B) == 0) = sameB n A m B := by
  rw [Bool.eq_iff_iff, beq_iff_eq, cmp3_zero, sameB_iff]
  refine ⟨fun h => ?_, fun h => by rw [h.1, h.2]⟩
  have e1 := z_of oA va
  have e2 := z_of oB vb
  rw [h] at e1
  exact ⟨e1.1.symm.trans e2.1, e1.2.symm.trans e2.2⟩
theorem cmp3_shift {a b : Int} (c : Int) : cmp3 (a + c) (b + c) = cmp3 a b := by
  unfold cmp3
  rcases Int.lt_trichotomy a b with h | h | h
  · rw [if_pos h, if_pos (by omega)]
  · subst h; simp
  · rw [if_neg (by omega), if_neg (by omega), if_neg (by omega), if_neg (by omega)]
theorem in_zero : inB 0 = true := small_in (by decide) (by decide)
theorem ord_diff {o : Bool} {a b : Int} (h : gE o (a - b) = 0) : cC (validB (gN o (a - b)) (gL o (a - b)) && validB (zN 0) (zL 0)) (zOf (gN o (a - b)) (gL o (a - b))) (zOf (zN 0) (zL 0)) = cmp3 a b := by
  rw [valid_gg, valid_zz, cC_true (ok := true && true) rfl, gz h, zOf_z in_zero]
  have := cmp3_shift (a := a - b) (b := 0) b
  rw [show a - b + b = a by omega, show 0 + b = b by omega] at this
  exact this.symm
theorem ord_add {o1 o2 : Bool} {a b c : Int} (h1 : gE o1 (a + c) = 0) (h2 : gE o2 (b + c) = 0) :
    cC (validB (gN o1 (a + c)) (gL o1 (a + c)) && validB (gN o2 (b + c)) (gL o2 (b + c))) (zOf (gN o1 (a + c)) (gL o1 (a + c))) (zOf (gN o2 (b + c)) (gL o2 (b + c))) = cmp3 a b := by
  rw [valid_gg, valid_gg, cC_true (ok := true && true) rfl, gz h1, gz h2]
  exact cmp3_shift c
theorem beq_bool {x y : Bool} (h : x = y) : (x == y) = true := by subst h; simp
theorem vv {u v : Bool} (h1 : u = true) (h2 : v = true) : (u && v) = true := by rw [h1, h2]; rfl
end Go.VL

/- Walks over the Go functions, printed by a program of this session over the kit's print, and by hand. -/
set_option linter.unusedVariables false
set_option linter.unusedSimpArgs false
namespace Go.VL
open Go.Proofs
theorem f16 (n : Bool) (A : List Int) (m : Bool) (B : List Int) (k : Bool) (C : List Int) (hA : A.length ≤ 9223372036854775807) (hB : B.length ≤ 9223372036854775807) (hC : C.length ≤ 9223372036854775807) (oA : ok32 A) (oB : ok32 B) (oC : ok32 C) : VF Try.prog 16 [.agg [boolB (n), u32S (A)], .agg [boolB (m), u32S (B)], .agg [boolB (k), u32S (C)]] (boolB true) := by
  refine VF_of P_mixed Try.func16 rfl rfl (by kernel_rfl) ?_
  refine VCode.seq ?_
  refine VCode.region ?_
  refine VList.go1 (n' := 1) rfl rfl (.box _ _ _ rfl (List.cons_ne_nil _ _) rfl) rfl ?_
  refine VList.go1 (n' := 2) rfl rfl (.box _ _ _ rfl (List.cons_ne_nil _ _) rfl) rfl ?_
  refine VList.go1 (n' := 3) rfl rfl (.box _ _ _ rfl (List.cons_ne_nil _ _) rfl) rfl ?_
  refine VList.go0 (n' := 4) rfl rfl (.assign _ _ rfl) rfl ?_
  refine VList.nil (Then.go ?_)
  refine VCode.seq ?_
  refine VCode.seq ?_
  refine VCode.region ?_
  refine VList.go0 (n' := 5) rfl rfl (.loadS _ _ _ _ _ _ rfl rfl P_agg24 P_sz24 (Nat.le_of_ble_eq_true rfl)) rfl ?_
  refine VList.go0 (n' := 6) rfl rfl (.callF _ _ _ _ _ _ rfl (ress_cons rfl ress_nil) (f26 _ _ (by first | omega | (simp; done) | (simp; omega))) rfl) rfl ?_
  refine VList.go0 (n' := 7) rfl rfl (.un _ _ _ _ _ rfl rfl) rfl ?_
  refine VList.go0 (n' := 8) rfl rfl (.move _ _ rfl) rfl ?_
  refine VList.split (d := 29) _ rfl (fun hc1 => ?_) (fun hc1 => ?_)
  · replace hc1 := (bnot_t hc1)
    refine VList.skip (n' := 9) rfl rfl rfl ?_
    refine VList.skip (n' := 10) rfl rfl rfl ?_
    refine VList.skip (n' := 11) rfl rfl rfl ?_
    refine VList.go0 (n' := 12) rfl rfl (.pick _ _ _ _ _ rfl rfl) rfl ?_
    refine VList.go0 (n' := 13) rfl rfl (.move _ _ rfl) rfl ?_
    refine VList.skip (n' := 14) rfl rfl rfl ?_
    refine VList.skip (n' := 15) rfl rfl rfl ?_
    refine VList.skip (n' := 16) rfl rfl rfl ?_
    refine VList.go0 (n' := 17) rfl rfl (.pick _ _ _ _ _ rfl rfl) rfl ?_
    refine VList.nil (Then.go ?_)
    refine VCode.cond _ rfl (fun _ => ?_) (fun h_ => Bool.noConfusion h_)
    refine VCode.seq ?_
    refine VCode.region ?_
    refine VList.go0 (n' := 18) rfl rfl (.callF _ _ _ _ _ _ rfl ress_nil (f20) rfl) rfl ?_
    refine VList.go0 (n' := 19) rfl rfl (.assign _ _ rfl) rfl ?_
    refine VList.nil (Then.go ?_)
    exact VCode.ret (Then.ret (⟨trivial, [boolB (true)], (resVars_cons (resVar_tmp rfl rfl) resVars_nil), rfl⟩))
  · replace hc1 := (bnot_f hc1)
    refine VList.go0 (n' := 9) rfl rfl (.loadS _ _ _ _ _ _ rfl rfl P_agg24 P_sz24 (Nat.le_of_ble_eq_true rfl)) rfl ?_
    refine VList.go0 (n' := 10) rfl rfl (.callF _ _ _ _ _ _ rfl (ress_cons rfl ress_nil) (f26 _ _ (by first | omega | (simp; done) | (simp; omega))) rfl) rfl ?_
    refine VList.go0 (n' := 11) rfl rfl (.un _ _ _ _ _ rfl rfl) rfl ?_
    refine VList.go0 (n' := 12) rfl rfl (.pick _ _ _ _ _ rfl rfl) rfl ?_
    refine VList.go0 (n' := 13) rfl rfl (.move _ _ rfl) rfl ?_
    refine VList.split (d := 34) _ rfl (fun hc2 => ?_) (fun hc2 => ?_)
    · replace hc2 := (bnot_t hc2)
      refine VList.skip (n' := 14) rfl rfl rfl ?_
      refine VList.skip (n' := 15) rfl rfl rfl ?_
      refine VList.skip (n' := 16) rfl rfl rfl ?_
      refine VList.go0 (n' := 17) rfl rfl (.pick _ _ _ _ _ rfl rfl) rfl ?_
      refine VList.nil (Then.go ?_)
      refine VCode.cond _ rfl (fun _ => ?_) (fun h_ => Bool.noConfusion h_)
      refine VCode.seq ?_
      refine VCode.region ?_
      refine VList.go0 (n' := 18) rfl rfl (.callF _ _ _ _ _ _ rfl ress_nil (f20) rfl) rfl ?_
      refine VList.go0 (n' := 19) rfl rfl (.assign _ _ rfl) rfl ?_
      refine VList.nil (Then.go ?_)
      exact VCode.ret (Then.ret (⟨trivial, [boolB (true)], (resVars_cons (resVar_tmp rfl rfl) resVars_nil), rfl⟩))
    · replace hc2 := (bnot_f hc2)
      refine VList.go0 (n' := 14) rfl rfl (.loadS _ _ _ _ _ _ rfl rfl P_agg24 P_sz24 (Nat.le_of_ble_eq_true rfl)) rfl ?_
      refine VList.go0 (n' := 15) rfl rfl (.callF _ _ _ _ _ _ rfl (ress_cons rfl ress_nil) (f26 _ _ (by first | omega | (simp; done) | (simp; omega))) rfl) rfl ?_
      refine VList.go0 (n' := 16) rfl rfl (.un _ _ _ _ _ rfl rfl) rfl ?_
      refine VList.go0 (n' := 17) rfl rfl (.pick _ _ _ _ _ rfl rfl) rfl ?_
      refine VList.nil (Then.go ?_)
      refine VCode.cond _ rfl (fun hc3 => ?_) (fun hc3 => ?_)
      · replace hc3 := (bnot_t hc3)
        refine VCode.seq ?_
        refine VCode.region ?_
        refine VList.go0 (n' := 18) rfl rfl (.callF _ _ _ _ _ _ rfl ress_nil (f20) rfl) rfl ?_
        refine VList.go0 (n' := 19) rfl rfl (.assign _ _ rfl) rfl ?_
        refine VList.nil (Then.go ?_)
        exact VCode.ret (Then.ret (⟨trivial, [boolB (true)], (resVars_cons (resVar_tmp rfl rfl) resVars_nil), rfl⟩))
      · replace hc3 := (bnot_f hc3)
        refine VCode.skip (Then.go ?_)
        refine VCode.seq ?_
        have va : validB n A = true := by assumption
        have vb : validB m B = true := by assumption
        have vc : validB k C = true := by assumption
        have ex : cC (validB n A && validB m B) (zOf n A) (zOf m B) = cmp3 (zOf n A) (zOf m B) := cC_true (vv va vb)
        have ey : cC (validB m B && validB k C) (zOf m B) (zOf k C) = cmp3 (zOf m B) (zOf k C) := cC_true (vv vb vc)
        have ez : cC (validB n A && validB k C) (zOf n A) (zOf k C) = cmp3 (zOf n A) (zOf k C) := cC_true (vv va vc)
        have eb : cC (validB m B && validB n A) (zOf m B) (zOf n A) = cmp3 (zOf m B) (zOf n A) := cC_true (vv vb va)
        refine VCode.region ?_
        refine VList.go0 (n' := 18) rfl rfl (.loadS _ _ _ _ _ _ rfl rfl P_agg24 P_sz24 (Nat.le_of_ble_eq_true rfl)) rfl ?_
        refine VList.go0 (n' := 19) rfl rfl (.loadS _ _ _ _ _ _ rfl rfl P_agg24 P_sz24 (Nat.le_of_ble_eq_true rfl)) rfl ?_
        refine VList.go0 (n' := 20) rfl rfl (.callF _ _ _ _ _ _ rfl (ress_cons rfl (ress_cons rfl ress_nil)) (f33 _ _ _ _ (by first | assumption | with_reducible exact len_gL' _ _ | with_reducible exact len_zL' _) (by first | assumption | with_reducible exact len_gL' _ _ | with_reducible exact len_zL' _) (by first | assumption | with_reducible exact ok32_gL _ _ | with_reducible exact ok32_zL _) (by first | assumption | with_reducible exact ok32_gL _ _ | with_reducible exact ok32_zL _)) rfl) rfl ?_
        refine VList.go0 (n' := 21) rfl rfl (.move _ _ rfl) rfl ?_
        refine VList.go0 (n' := 22) rfl rfl (.extract _ _ _ _ rfl rfl) rfl ?_
        refine VList.go0 (n' := 23) rfl rfl (.extract _ _ _ _ rfl rfl) rfl ?_
        refine VList.go0 (n' := 24) rfl rfl (.assign _ _ rfl) rfl ?_
        refine VList.go0 (n' := 25) rfl rfl (.assign _ _ rfl) rfl ?_
        refine VList.nil (Then.go ?_)
        refine VCode.seq ?_
        refine VCode.region ?_
        refine VList.go0 (n' := 26) rfl rfl (.loadS _ _ _ _ _ _ rfl rfl P_agg24 P_sz24 (Nat.le_of_ble_eq_true rfl)) rfl ?_
        refine VList.go0 (n' := 27) rfl rfl (.loadS _ _ _ _ _ _ rfl rfl P_agg24 P_sz24 (Nat.le_of_ble_eq_true rfl)) rfl ?_
        refine VList.go0 (n' := 28) rfl rfl (.callF _ _ _ _ _ _ rfl (ress_cons rfl (ress_cons rfl ress_nil)) (f33 _ _ _ _ (by first | assumption | with_reducible exact len_gL' _ _ | with_reducible exact len_zL' _) (by first | assumption | with_reducible exact len_gL' _ _ | with_reducible exact len_zL' _) (by first | assumption | with_reducible exact ok32_gL _ _ | with_reducible exact ok32_zL _) (by first | assumption | with_reducible exact ok32_gL _ _ | with_reducible exact ok32_zL _)) rfl) rfl ?_
        refine VList.go0 (n' := 29) rfl rfl (.move _ _ rfl) rfl ?_
        refine VList.go0 (n' := 30) rfl rfl (.extract _ _ _ _ rfl rfl) rfl ?_
        refine VList.go0 (n' := 31) rfl rfl (.extract _ _ _ _ rfl rfl) rfl ?_
        refine VList.go0 (n' := 32) rfl rfl (.assign _ _ rfl) rfl ?_
        refine VList.go0 (n' := 33) rfl rfl (.assign _ _ rfl) rfl ?_
        refine VList.nil (Then.go ?_)
        refine VCode.seq ?_
        refine VCode.region ?_
        refine VList.go0 (n' := 34) rfl rfl (.loadS _ _ _ _ _ _ rfl rfl P_agg24 P_sz24 (Nat.le_of_ble_eq_true rfl)) rfl ?_
        refine VList.go0 (n' := 35) rfl rfl (.loadS _ _ _ _ _ _ rfl rfl P_agg24 P_sz24 (Nat.le_of_ble_eq_true rfl)) rfl ?_
        refine VList.go0 (n' := 36) rfl rfl (.callF _ _ _ _ _ _ rfl (ress_cons rfl (ress_cons rfl ress_nil)) (f33 _ _ _ _ (by first | assumption | with_reducible exact len_gL' _ _ | with_reducible exact len_zL' _) (by first | assumption | with_reducible exact len_gL' _ _ | with_reducible exact len_zL' _) (by first | assumption | with_reducible exact ok32_gL _ _ | with_reducible exact ok32_zL _) (by first | assumption | with_reducible exact ok32_gL _ _ | with_reducible exact ok32_zL _)) rfl) rfl ?_
        refine VList.go0 (n' := 37) rfl rfl (.move _ _ rfl) rfl ?_
        refine VList.go0 (n' := 38) rfl rfl (.extract _ _ _ _ rfl rfl) rfl ?_
        refine VList.go0 (n' := 39) rfl rfl (.extract _ _ _ _ rfl rfl) rfl ?_
        refine VList.go0 (n' := 40) rfl rfl (.assign _ _ rfl) rfl ?_
        refine VList.go0 (n' := 41) rfl rfl (.assign _ _ rfl) rfl ?_
        refine VList.nil (Then.go ?_)
        refine VCode.seq ?_
        refine VCode.region ?_
        refine VList.go0 (n' := 42) rfl rfl (.loadS _ _ _ _ _ _ rfl rfl P_agg24 P_sz24 (Nat.le_of_ble_eq_true rfl)) rfl ?_
        refine VList.go0 (n' := 43) rfl rfl (.loadS _ _ _ _ _ _ rfl rfl P_agg24 P_sz24 (Nat.le_of_ble_eq_true rfl)) rfl ?_
        refine VList.go0 (n' := 44) rfl rfl (.callF _ _ _ _ _ _ rfl (ress_cons rfl (ress_cons rfl ress_nil)) (f33 _ _ _ _ (by first | assumption | with_reducible exact len_gL' _ _ | with_reducible exact len_zL' _) (by first | assumption | with_reducible exact len_gL' _ _ | with_reducible exact len_zL' _) (by first | assumption | with_reducible exact ok32_gL _ _ | with_reducible exact ok32_zL _) (by first | assumption | with_reducible exact ok32_gL _ _ | with_reducible exact ok32_zL _)) rfl) rfl ?_
        refine VList.go0 (n' := 45) rfl rfl (.move _ _ rfl) rfl ?_
        refine VList.go0 (n' := 46) rfl rfl (.extract _ _ _ _ rfl rfl) rfl ?_
        refine VList.go0 (n' := 47) rfl rfl (.extract _ _ _ _ rfl rfl) rfl ?_
        refine VList.go0 (n' := 48) rfl rfl (.assign _ _ rfl) rfl ?_
        refine VList.go0 (n' := 49) rfl rfl (.assign _ _ rfl) rfl ?_
        refine VList.nil (Then.go ?_)
        refine VCode.seq ?_
        refine VCode.region ?_
        refine VList.go0 (n' := 50) rfl rfl (.loadS _ _ _ _ _ _ rfl rfl P_agg24 P_sz24 (Nat.le_of_ble_eq_true rfl)) rfl ?_
        refine VList.go0 (n' := 51) rfl rfl (.loadS _ _ _ _ _ _ rfl rfl P_agg24 P_sz24 (Nat.le_of_ble_eq_true rfl)) rfl ?_
        refine VList.go0 (n' := 52) rfl rfl (Eff.callV0 rfl (ress_cons rfl (ress_cons rfl ress_nil)) (f40 _ _ _ _ (by first | assumption | with_reducible exact len_gL' _ _ | with_reducible exact len_zL' _) (by first | assumption | with_reducible exact len_gL' _ _ | with_reducible exact len_zL' _) (by first | assumption | with_reducible exact ok32_gL _ _ | with_reducible exact ok32_zL _) (by first | assumption | with_reducible exact ok32_gL _ _ | with_reducible exact ok32_zL _)) rfl) rfl ?_
        refine VList.go0 (n' := 53) rfl rfl (.move _ _ rfl) rfl ?_
        refine VList.go0 (n' := 54) rfl rfl (.extract _ _ _ _ rfl rfl) rfl ?_
        refine VList.go0 (n' := 55) rfl rfl (.extract _ _ _ _ rfl rfl) rfl ?_
        refine VList.go1 (n' := 56) rfl rfl (.alloc _ _ P_zero24 (List.cons_ne_nil _ _)) rfl ?_
        refine VList.goS (n' := 57) rfl rfl (.store _ _ _ _ _ _ _ rfl rfl rfl rfl P_sz24 (Nat.le_of_ble_eq_true rfl) rfl) rfl ?_
        refine VList.go0 (n' := 58) rfl rfl (.assign _ _ rfl) rfl ?_
        refine VList.nil (Then.go ?_)
        refine VCode.seq ?_
        refine VCode.draw (by kernel_rfl) ?_
        refine VLog.go0 (n' := 59) rfl rfl (.loadS _ _ _ _ _ _ rfl rfl P_agg24 P_sz24 (Nat.le_of_ble_eq_true rfl)) rfl ?_
        refine VLog.go0 (n' := 60) rfl rfl (Eff.callV0 rfl (ress_cons rfl ress_nil) (f28 _ (by first | omega | (simp; done) | (simp; omega)) (by first | omega | (simp; done) | (simp; omega))) rfl) rfl ?_
        refine VLog.go0 (n' := 61) rfl rfl (.callF _ _ _ _ _ _ rfl (ress_cons rfl (ress_cons rfl ress_nil)) (f33 _ _ _ _ (by first | assumption | with_reducible exact len_gL' _ _ | with_reducible exact len_zL' _) (by first | assumption | with_reducible exact len_gL' _ _ | with_reducible exact len_zL' _) (by first | assumption | with_reducible exact ok32_gL _ _ | with_reducible exact ok32_zL _) (by first | assumption | with_reducible exact ok32_gL _ _ | with_reducible exact ok32_zL _)) rfl) rfl ?_
        refine VLog.go0 (n' := 62) rfl rfl (.move _ _ rfl) rfl ?_
        refine VLog.go0 (n' := 63) rfl rfl (.extract _ _ _ _ rfl rfl) rfl ?_
        refine VLog.go0 (n' := 64) rfl rfl (.extract _ _ _ _ rfl rfl) rfl ?_
        refine VLog.go0 (n' := 65) rfl rfl (.assign _ _ rfl) rfl ?_
        refine VLog.go0 (n' := 66) rfl rfl (.assign _ _ rfl) rfl ?_
        refine VLog.nil ⟨by kernel_rfl, Then.go ?_⟩
        refine VCode.seq ?_
        refine VCode.region ?_
        refine VList.go0 (n' := 67) rfl rfl (.loadS _ _ _ _ _ _ rfl rfl P_agg24 P_sz24 (Nat.le_of_ble_eq_true rfl)) rfl ?_
        refine VList.go0 (n' := 68) rfl rfl (.loadS _ _ _ _ _ _ rfl rfl P_agg24 P_sz24 (Nat.le_of_ble_eq_true rfl)) rfl ?_
        refine VList.go0 (n' := 69) rfl rfl (Eff.callV0 rfl (ress_cons rfl (ress_cons rfl ress_nil)) (f38 _ _ _ _ (by first | assumption | with_reducible exact len_gL' _ _ | with_reducible exact len_zL' _) (by first | assumption | with_reducible exact len_gL' _ _ | with_reducible exact len_zL' _) (by first | assumption | with_reducible exact ok32_gL _ _ | with_reducible exact ok32_zL _) (by first | assumption | with_reducible exact ok32_gL _ _ | with_reducible exact ok32_zL _)) rfl) rfl ?_
        refine VList.go0 (n' := 70) rfl rfl (.move _ _ rfl) rfl ?_
        refine VList.go0 (n' := 71) rfl rfl (.extract _ _ _ _ rfl rfl) rfl ?_
        refine VList.go0 (n' := 72) rfl rfl (.extract _ _ _ _ rfl rfl) rfl ?_
        refine VList.go1 (n' := 73) rfl rfl (.alloc _ _ P_zero24 (List.cons_ne_nil _ _)) rfl ?_
        refine VList.goS (n' := 74) rfl rfl (.store _ _ _ _ _ _ _ rfl rfl rfl rfl P_sz24 (Nat.le_of_ble_eq_true rfl) rfl) rfl ?_
        refine VList.go0 (n' := 75) rfl rfl (.assign _ _ rfl) rfl ?_
        refine VList.nil (Then.go ?_)
        refine VCode.seq ?_
        refine VCode.region ?_
        refine VList.go0 (n' := 76) rfl rfl (.loadS _ _ _ _ _ _ rfl rfl P_agg24 P_sz24 (Nat.le_of_ble_eq_true rfl)) rfl ?_
        refine VList.go0 (n' := 77) rfl rfl (.loadS _ _ _ _ _ _ rfl rfl P_agg24 P_sz24 (Nat.le_of_ble_eq_true rfl)) rfl ?_
        refine VList.go0 (n' := 78) rfl rfl (Eff.callV0 rfl (ress_cons rfl (ress_cons rfl ress_nil)) (f38 _ _ _ _ (by first | assumption | with_reducible exact len_gL' _ _ | with_reducible exact len_zL' _) (by first | assumption | with_reducible exact len_gL' _ _ | with_reducible exact len_zL' _) (by first | assumption | with_reducible exact ok32_gL _ _ | with_reducible exact ok32_zL _) (by first | assumption | with_reducible exact ok32_gL _ _ | with_reducible exact ok32_zL _)) rfl) rfl ?_
        refine VList.go0 (n' := 79) rfl rfl (.move _ _ rfl) rfl ?_
        refine VList.go0 (n' := 80) rfl rfl (.extract _ _ _ _ rfl rfl) rfl ?_
        refine VList.go0 (n' := 81) rfl rfl (.extract _ _ _ _ rfl rfl) rfl ?_
        refine VList.go1 (n' := 82) rfl rfl (.alloc _ _ P_zero24 (List.cons_ne_nil _ _)) rfl ?_
        refine VList.goS (n' := 83) rfl rfl (.store _ _ _ _ _ _ _ rfl rfl rfl rfl P_sz24 (Nat.le_of_ble_eq_true rfl) rfl) rfl ?_
        refine VList.go0 (n' := 84) rfl rfl (.assign _ _ rfl) rfl ?_
        refine VList.nil (Then.go ?_)
        refine VCode.seq ?_
        refine VCode.region ?_
        refine VList.go0 (n' := 85) rfl rfl (.loadS _ _ _ _ _ _ rfl rfl P_agg24 P_sz24 (Nat.le_of_ble_eq_true rfl)) rfl ?_
        refine VList.go0 (n' := 86) rfl rfl (.loadS _ _ _ _ _ _ rfl rfl P_agg24 P_sz24 (Nat.le_of_ble_eq_true rfl)) rfl ?_
        refine VList.go0 (n' := 87) rfl rfl (.callF _ _ _ _ _ _ rfl (ress_cons rfl (ress_cons rfl ress_nil)) (f33 _ _ _ _ (by first | assumption | with_reducible exact len_gL' _ _ | with_reducible exact len_zL' _) (by first | assumption | with_reducible exact len_gL' _ _ | with_reducible exact len_zL' _) (by first | assumption | with_reducible exact ok32_gL _ _ | with_reducible exact ok32_zL _) (by first | assumption | with_reducible exact ok32_gL _ _ | with_reducible exact ok32_zL _)) rfl) rfl ?_
        refine VList.go0 (n' := 88) rfl rfl (.move _ _ rfl) rfl ?_
        refine VList.go0 (n' := 89) rfl rfl (.extract _ _ _ _ rfl rfl) rfl ?_
        refine VList.go0 (n' := 90) rfl rfl (.extract _ _ _ _ rfl rfl) rfl ?_
        refine VList.go0 (n' := 91) rfl rfl (.assign _ _ rfl) rfl ?_
        refine VList.go0 (n' := 92) rfl rfl (.assign _ _ rfl) rfl ?_
        refine VList.nil (Then.go ?_)
        refine VCode.join (α := (Unit)) (fun (u : (Unit)) => (0, sl [(7, vI .i64 (cC (validB (n) (A) && validB (m) (B)) (zOf (n) (A)) (zOf (m) (B)))), (16, vI .i64 (gE (validB (n) (A) && validB (m) (B)) (zOf (n) (A) - zOf (m) (B)))), (17, vI .i64 (cC (validB (gN (validB (n) (A) && validB (m) (B)) (zOf (n) (A) - zOf (m) (B))) (gL (validB (n) (A) && validB (m) (B)) (zOf (n) (A) - zOf (m) (B))) && validB (zN (0)) (zL (0))) (zOf (gN (validB (n) (A) && validB (m) (B)) (zOf (n) (A) - zOf (m) (B))) (gL (validB (n) (A) && validB (m) (B)) (zOf (n) (A) - zOf (m) (B)))) (zOf (zN (0)) (zL (0))))), (20, vI .i64 (gE (validB (n) (A) && validB (k) (C)) (zOf (n) (A) + zOf (k) (C)))), (22, vI .i64 (gE (validB (m) (B) && validB (k) (C)) (zOf (m) (B) + zOf (k) (C)))), (23, vI .i64 (cC (validB (gN (validB (n) (A) && validB (k) (C)) (zOf (n) (A) + zOf (k) (C))) (gL (validB (n) (A) && validB (k) (C)) (zOf (n) (A) + zOf (k) (C))) && validB (gN (validB (m) (B) && validB (k) (C)) (zOf (m) (B) + zOf (k) (C))) (gL (validB (m) (B) && validB (k) (C)) (zOf (m) (B) + zOf (k) (C)))) (zOf (gN (validB (n) (A) && validB (k) (C)) (zOf (n) (A) + zOf (k) (C))) (gL (validB (n) (A) && validB (k) (C)) (zOf (n) (A) + zOf (k) (C)))) (zOf (gN (validB (m) (B) && validB (k) (C)) (zOf (m) (B) + zOf (k) (C))) (gL (validB (m) (B) && validB (k) (C)) (zOf (m) (B) + zOf (k) (C)))))), (25, vB (true))], en [])) (fun (u : (Unit)) => True) ?_ ?_
        · skip
          refine VCode.region ?_
          refine VList.go0 (n' := 93) rfl rfl (.callF _ _ _ _ _ _ rfl ress_nil (f20) rfl) rfl ?_
          refine VList.go0 (n' := 94) rfl rfl (.move _ _ rfl) rfl ?_
          refine VList.go0 (n' := 95) rfl rfl (.move _ _ rfl) rfl ?_
          refine VList.go0 (n' := 96) rfl rfl (.move _ _ rfl) rfl ?_
          refine VList.go0 (n' := 97) rfl rfl (.un _ _ _ _ _ rfl (uop_neg_i64 (by rw [eb]; have := cmp3_range (zOf m B) (zOf n A); omega))) rfl ?_
          refine VList.go0 (n' := 98) rfl rfl (Eff.castB (show (cC (validB (n) (A) && validB (m) (B)) (zOf (n) (A)) (zOf (m) (B)) == (-cC (validB (m) (B) && validB (n) (A)) (zOf (m) (B)) (zOf (n) (A)))) = true from by rw [ex, eb]; exact beq_yes (cmp3_anti _ _)) (.bin _ _ _ _ _ _ _ _ rfl rfl rfl)) rfl ?_
          refine VList.go0 (n' := 99) rfl rfl (.pick _ _ _ _ _ rfl rfl) rfl ?_
          refine VList.go0 (n' := 100) rfl rfl (.move _ _ rfl) rfl ?_
          refine VList.go0 (n' := 101) rfl rfl (.move _ _ rfl) rfl ?_
          refine VList.go0 (n' := 102) rfl rfl (.bin _ _ _ _ _ _ _ _ rfl rfl rfl) rfl ?_
          refine VList.go0 (n' := 103) rfl rfl (.loadS _ _ _ _ _ _ rfl rfl P_agg24 P_sz24 (Nat.le_of_ble_eq_true rfl)) rfl ?_
          refine VList.go0 (n' := 104) rfl rfl (.loadS _ _ _ _ _ _ rfl rfl P_agg24 P_sz24 (Nat.le_of_ble_eq_true rfl)) rfl ?_
          refine VList.go0 (n' := 105) rfl rfl (.callF _ _ _ _ _ _ rfl (ress_cons rfl (ress_cons rfl ress_nil)) (f21 _ _ _ _ (by first | assumption | with_reducible exact len_gL' _ _ | with_reducible exact len_zL' _) (by first | assumption | with_reducible exact len_gL' _ _ | with_reducible exact len_zL' _)) rfl) rfl ?_
          refine VList.go0 (n' := 106) rfl rfl (Eff.castB (show ((cC (validB (n) (A) && validB (m) (B)) (zOf (n) (A)) (zOf (m) (B)) == 0) == (sameB (n) (A) (m) (B))) = true from beq_bool (by rw [ex]; exact cmp_same oA oB va vb)) (.binB _ _ _ _ _ _ _ _ rfl rfl Try.underlying4 rfl)) rfl ?_
          refine VList.go0 (n' := 107) rfl rfl (.pick _ _ _ _ _ rfl rfl) rfl ?_
          refine VList.go0 (n' := 108) rfl rfl (.move _ _ rfl) rfl ?_
          refine VList.go0 (n' := 109) rfl rfl (.move _ _ rfl) rfl ?_
          refine VList.go0 (n' := 110) rfl rfl (.bin _ _ _ _ _ _ _ _ rfl rfl rfl) rfl ?_
          refine VList.go0 (n' := 111) rfl rfl (.move _ _ rfl) rfl ?_
          refine VList.split (d := 112) _ rfl (fun hc4 => ?_) (fun hc4 => ?_)
          · replace hc4 := of_decide_eq_true hc4
            refine VList.skip (n' := 112) rfl rfl rfl ?_
            refine VList.skip (n' := 113) rfl rfl rfl ?_
            refine VList.go0 (n' := 114) rfl rfl (.pick _ _ _ _ _ rfl rfl) rfl ?_
            refine VList.go0 (n' := 115) rfl rfl (.move _ _ rfl) rfl ?_
            refine VList.skip (n' := 116) rfl rfl rfl ?_
            refine VList.skip (n' := 117) rfl rfl rfl ?_
            refine VList.go0 (n' := 118) rfl rfl (.pick _ _ _ _ _ rfl rfl) rfl ?_
            refine VList.go0 (n' := 119) rfl rfl (.pick _ _ _ _ _ rfl rfl) rfl ?_
            refine VList.go0 (n' := 120) rfl rfl (.move _ _ rfl) rfl ?_
            refine VList.go0 (n' := 121) rfl rfl (.move _ _ rfl) rfl ?_
            refine VList.go0 (n' := 122) rfl rfl (.bin _ _ _ _ _ _ _ _ rfl rfl rfl) rfl ?_
            refine VList.go0 (n' := 123) rfl rfl (.move _ _ rfl) rfl ?_
            refine VList.split (d := 124) _ rfl (fun hc5 => ?_) (fun hc5 => ?_)
            · replace hc5 := of_decide_eq_true hc5
              refine VList.skip (n' := 124) rfl rfl rfl ?_
              refine VList.skip (n' := 125) rfl rfl rfl ?_
              refine VList.go0 (n' := 126) rfl rfl (.pick _ _ _ _ _ rfl rfl) rfl ?_
              refine VList.go0 (n' := 127) rfl rfl (.move _ _ rfl) rfl ?_
              refine VList.skip (n' := 128) rfl rfl rfl ?_
              refine VList.skip (n' := 129) rfl rfl rfl ?_
              refine VList.go0 (n' := 130) rfl rfl (.pick _ _ _ _ _ rfl rfl) rfl ?_
              refine VList.go0 (n' := 131) rfl rfl (.pick _ _ _ _ _ rfl rfl) rfl ?_
              refine VList.go0 (n' := 132) rfl rfl (.assign _ _ rfl) rfl ?_
              exact VList.nil (Joins.go (()) trivial (Weak.of (show 0 ≤ 0 by decide) ⟨⟨rfl, rfl⟩, ⟨⟨rfl, rfl⟩, ⟨⟨rfl, rfl⟩, ⟨⟨rfl, rfl⟩, ⟨⟨rfl, rfl⟩, ⟨⟨rfl, rfl⟩, ⟨⟨rfl, rfl⟩, trivial⟩⟩⟩⟩⟩⟩⟩ trivial))
            · replace hc5 := of_decide_eq_false hc5
              refine VList.go0 (n' := 124) rfl rfl (.move _ _ rfl) rfl ?_
              refine VList.go0 (n' := 125) rfl rfl (.bin _ _ _ _ _ _ _ _ rfl rfl rfl) rfl ?_
              refine VList.go0 (n' := 126) rfl rfl (.pick _ _ _ _ _ rfl rfl) rfl ?_
              refine VList.go0 (n' := 127) rfl rfl (.move _ _ rfl) rfl ?_
              refine VList.split (d := 128) _ rfl (fun hc6 => ?_) (fun hc6 => ?_)
              · replace hc6 := of_decide_eq_true hc6
                refine VList.skip (n' := 128) rfl rfl rfl ?_
                refine VList.skip (n' := 129) rfl rfl rfl ?_
                refine VList.go0 (n' := 130) rfl rfl (.pick _ _ _ _ _ rfl rfl) rfl ?_
                refine VList.go0 (n' := 131) rfl rfl (.pick _ _ _ _ _ rfl rfl) rfl ?_
                refine VList.go0 (n' := 132) rfl rfl (.assign _ _ rfl) rfl ?_
                exact VList.nil (Joins.go (()) trivial (Weak.of (show 0 ≤ 0 by decide) ⟨⟨rfl, rfl⟩, ⟨⟨rfl, rfl⟩, ⟨⟨rfl, rfl⟩, ⟨⟨rfl, rfl⟩, ⟨⟨rfl, rfl⟩, ⟨⟨rfl, rfl⟩, ⟨⟨rfl, rfl⟩, trivial⟩⟩⟩⟩⟩⟩⟩ trivial))
              · replace hc6 := of_decide_eq_false hc6
                refine VList.go0 (n' := 128) rfl rfl (.move _ _ rfl) rfl ?_
                refine VList.go0 (n' := 129) rfl rfl (Eff.castB (show decide (cC (validB (n) (A) && validB (k) (C)) (zOf (n) (A)) (zOf (k) (C)) ≥ 0) = true from decide_eq_true (by rw [ez]; exact cmp3_le'.2 (Int.le_trans ((cmp3_le' (a := zOf m B) (b := zOf k C)).1 (by rw [← ey]; omega)) ((cmp3_le' (a := zOf n A) (b := zOf m B)).1 (by rw [← ex]; omega))))) (.bin _ _ _ _ _ _ _ _ rfl rfl rfl)) rfl ?_
                refine VList.go0 (n' := 130) rfl rfl (.pick _ _ _ _ _ rfl rfl) rfl ?_
                refine VList.go0 (n' := 131) rfl rfl (.pick _ _ _ _ _ rfl rfl) rfl ?_
                refine VList.go0 (n' := 132) rfl rfl (.assign _ _ rfl) rfl ?_
                exact VList.nil (Joins.go (()) trivial (Weak.of (show 0 ≤ 0 by decide) ⟨⟨rfl, rfl⟩, ⟨⟨rfl, rfl⟩, ⟨⟨rfl, rfl⟩, ⟨⟨rfl, rfl⟩, ⟨⟨rfl, rfl⟩, ⟨⟨rfl, rfl⟩, ⟨⟨rfl, rfl⟩, trivial⟩⟩⟩⟩⟩⟩⟩ trivial))
          · replace hc4 := of_decide_eq_false hc4
            refine VList.go0 (n' := 112) rfl rfl (.move _ _ rfl) rfl ?_
            refine VList.go0 (n' := 113) rfl rfl (.bin _ _ _ _ _ _ _ _ rfl rfl rfl) rfl ?_
            refine VList.go0 (n' := 114) rfl rfl (.pick _ _ _ _ _ rfl rfl) rfl ?_
            refine VList.go0 (n' := 115) rfl rfl (.move _ _ rfl) rfl ?_
            refine VList.split (d := 116) _ rfl (fun hc7 => ?_) (fun hc7 => ?_)
            · replace hc7 := of_decide_eq_true hc7
              refine VList.skip (n' := 116) rfl rfl rfl ?_
              refine VList.skip (n' := 117) rfl rfl rfl ?_
              refine VList.go0 (n' := 118) rfl rfl (.pick _ _ _ _ _ rfl rfl) rfl ?_
              refine VList.go0 (n' := 119) rfl rfl (.pick _ _ _ _ _ rfl rfl) rfl ?_
              refine VList.go0 (n' := 120) rfl rfl (.move _ _ rfl) rfl ?_
              refine VList.go0 (n' := 121) rfl rfl (.move _ _ rfl) rfl ?_
              refine VList.go0 (n' := 122) rfl rfl (.bin _ _ _ _ _ _ _ _ rfl rfl rfl) rfl ?_
              refine VList.go0 (n' := 123) rfl rfl (.move _ _ rfl) rfl ?_
              refine VList.split (d := 124) _ rfl (fun hc8 => ?_) (fun hc8 => ?_)
              · replace hc8 := of_decide_eq_true hc8
                refine VList.skip (n' := 124) rfl rfl rfl ?_
                refine VList.skip (n' := 125) rfl rfl rfl ?_
                refine VList.go0 (n' := 126) rfl rfl (.pick _ _ _ _ _ rfl rfl) rfl ?_
                refine VList.go0 (n' := 127) rfl rfl (.move _ _ rfl) rfl ?_
                refine VList.skip (n' := 128) rfl rfl rfl ?_
                refine VList.skip (n' := 129) rfl rfl rfl ?_
                refine VList.go0 (n' := 130) rfl rfl (.pick _ _ _ _ _ rfl rfl) rfl ?_
                refine VList.go0 (n' := 131) rfl rfl (.pick _ _ _ _ _ rfl rfl) rfl ?_
                refine VList.go0 (n' := 132) rfl rfl (.assign _ _ rfl) rfl ?_
                exact VList.nil (Joins.go (()) trivial (Weak.of (show 0 ≤ 0 by decide) ⟨⟨rfl, rfl⟩, ⟨⟨rfl, rfl⟩, ⟨⟨rfl, rfl⟩, ⟨⟨rfl, rfl⟩, ⟨⟨rfl, rfl⟩, ⟨⟨rfl, rfl⟩, ⟨⟨rfl, rfl⟩, trivial⟩⟩⟩⟩⟩⟩⟩ trivial))
              · replace hc8 := of_decide_eq_false hc8
                refine VList.go0 (n' := 124) rfl rfl (.move _ _ rfl) rfl ?_
                refine VList.go0 (n' := 125) rfl rfl (.bin _ _ _ _ _ _ _ _ rfl rfl rfl) rfl ?_
                refine VList.go0 (n' := 126) rfl rfl (.pick _ _ _ _ _ rfl rfl) rfl ?_
                refine VList.go0 (n' := 127) rfl rfl (.move _ _ rfl) rfl ?_
                refine VList.split (d := 128) _ rfl (fun hc9 => ?_) (fun hc9 => ?_)
                · replace hc9 := of_decide_eq_true hc9
                  refine VList.skip (n' := 128) rfl rfl rfl ?_
                  refine VList.skip (n' := 129) rfl rfl rfl ?_
                  refine VList.go0 (n' := 130) rfl rfl (.pick _ _ _ _ _ rfl rfl) rfl ?_
                  refine VList.go0 (n' := 131) rfl rfl (.pick _ _ _ _ _ rfl rfl) rfl ?_
                  refine VList.go0 (n' := 132) rfl rfl (.assign _ _ rfl) rfl ?_
                  exact VList.nil (Joins.go (()) trivial (Weak.of (show 0 ≤ 0 by decide) ⟨⟨rfl, rfl⟩, ⟨⟨rfl, rfl⟩, ⟨⟨rfl, rfl⟩, ⟨⟨rfl, rfl⟩, ⟨⟨rfl, rfl⟩, ⟨⟨rfl, rfl⟩, ⟨⟨rfl, rfl⟩, trivial⟩⟩⟩⟩⟩⟩⟩ trivial))
                · replace hc9 := of_decide_eq_false hc9
                  refine VList.go0 (n' := 128) rfl rfl (.move _ _ rfl) rfl ?_
                  refine VList.go0 (n' := 129) rfl rfl (Eff.castB (show decide (cC (validB (n) (A) && validB (k) (C)) (zOf (n) (A)) (zOf (k) (C)) ≥ 0) = true from decide_eq_true (by rw [ez]; exact cmp3_le'.2 (Int.le_trans ((cmp3_le' (a := zOf m B) (b := zOf k C)).1 (by rw [← ey]; omega)) ((cmp3_le' (a := zOf n A) (b := zOf m B)).1 (by rw [← ex]; omega))))) (.bin _ _ _ _ _ _ _ _ rfl rfl rfl)) rfl ?_
                  refine VList.go0 (n' := 130) rfl rfl (.pick _ _ _ _ _ rfl rfl) rfl ?_
                  refine VList.go0 (n' := 131) rfl rfl (.pick _ _ _ _ _ rfl rfl) rfl ?_
                  refine VList.go0 (n' := 132) rfl rfl (.assign _ _ rfl) rfl ?_
                  exact VList.nil (Joins.go (()) trivial (Weak.of (show 0 ≤ 0 by decide) ⟨⟨rfl, rfl⟩, ⟨⟨rfl, rfl⟩, ⟨⟨rfl, rfl⟩, ⟨⟨rfl, rfl⟩, ⟨⟨rfl, rfl⟩, ⟨⟨rfl, rfl⟩, ⟨⟨rfl, rfl⟩, trivial⟩⟩⟩⟩⟩⟩⟩ trivial))
            · replace hc7 := of_decide_eq_false hc7
              refine VList.go0 (n' := 116) rfl rfl (.move _ _ rfl) rfl ?_
              refine VList.go0 (n' := 117) rfl rfl (Eff.castB (show decide (cC (validB (n) (A) && validB (k) (C)) (zOf (n) (A)) (zOf (k) (C)) ≤ 0) = true from decide_eq_true (by rw [ez]; exact cmp3_le.2 (Int.le_trans ((cmp3_le (a := zOf n A) (b := zOf m B)).1 (by rw [← ex]; omega)) ((cmp3_le (a := zOf m B) (b := zOf k C)).1 (by rw [← ey]; omega))))) (.bin _ _ _ _ _ _ _ _ rfl rfl rfl)) rfl ?_
              refine VList.go0 (n' := 118) rfl rfl (.pick _ _ _ _ _ rfl rfl) rfl ?_
              refine VList.go0 (n' := 119) rfl rfl (.pick _ _ _ _ _ rfl rfl) rfl ?_
              refine VList.go0 (n' := 120) rfl rfl (.move _ _ rfl) rfl ?_
              refine VList.go0 (n' := 121) rfl rfl (.move _ _ rfl) rfl ?_
              refine VList.go0 (n' := 122) rfl rfl (.bin _ _ _ _ _ _ _ _ rfl rfl rfl) rfl ?_
              refine VList.go0 (n' := 123) rfl rfl (.move _ _ rfl) rfl ?_
              refine VList.split (d := 124) _ rfl (fun hc10 => ?_) (fun hc10 => ?_)
              · replace hc10 := of_decide_eq_true hc10
                refine VList.skip (n' := 124) rfl rfl rfl ?_
                refine VList.skip (n' := 125) rfl rfl rfl ?_
                refine VList.go0 (n' := 126) rfl rfl (.pick _ _ _ _ _ rfl rfl) rfl ?_
                refine VList.go0 (n' := 127) rfl rfl (.move _ _ rfl) rfl ?_
                refine VList.skip (n' := 128) rfl rfl rfl ?_
                refine VList.skip (n' := 129) rfl rfl rfl ?_
                refine VList.go0 (n' := 130) rfl rfl (.pick _ _ _ _ _ rfl rfl) rfl ?_
                refine VList.go0 (n' := 131) rfl rfl (.pick _ _ _ _ _ rfl rfl) rfl ?_
                refine VList.go0 (n' := 132) rfl rfl (.assign _ _ rfl) rfl ?_
                exact VList.nil (Joins.go (()) trivial (Weak.of (show 0 ≤ 0 by decide) ⟨⟨rfl, rfl⟩, ⟨⟨rfl, rfl⟩, ⟨⟨rfl, rfl⟩, ⟨⟨rfl, rfl⟩, ⟨⟨rfl, rfl⟩, ⟨⟨rfl, rfl⟩, ⟨⟨rfl, rfl⟩, trivial⟩⟩⟩⟩⟩⟩⟩ trivial))
              · replace hc10 := of_decide_eq_false hc10
                refine VList.go0 (n' := 124) rfl rfl (.move _ _ rfl) rfl ?_
                refine VList.go0 (n' := 125) rfl rfl (.bin _ _ _ _ _ _ _ _ rfl rfl rfl) rfl ?_
                refine VList.go0 (n' := 126) rfl rfl (.pick _ _ _ _ _ rfl rfl) rfl ?_
                refine VList.go0 (n' := 127) rfl rfl (.move _ _ rfl) rfl ?_
                refine VList.split (d := 128) _ rfl (fun hc11 => ?_) (fun hc11 => ?_)
                · replace hc11 := of_decide_eq_true hc11
                  refine VList.skip (n' := 128) rfl rfl rfl ?_
                  refine VList.skip (n' := 129) rfl rfl rfl ?_
                  refine VList.go0 (n' := 130) rfl rfl (.pick _ _ _ _ _ rfl rfl) rfl ?_
                  refine VList.go0 (n' := 131) rfl rfl (.pick _ _ _ _ _ rfl rfl) rfl ?_
                  refine VList.go0 (n' := 132) rfl rfl (.assign _ _ rfl) rfl ?_
                  exact VList.nil (Joins.go (()) trivial (Weak.of (show 0 ≤ 0 by decide) ⟨⟨rfl, rfl⟩, ⟨⟨rfl, rfl⟩, ⟨⟨rfl, rfl⟩, ⟨⟨rfl, rfl⟩, ⟨⟨rfl, rfl⟩, ⟨⟨rfl, rfl⟩, ⟨⟨rfl, rfl⟩, trivial⟩⟩⟩⟩⟩⟩⟩ trivial))
                · replace hc11 := of_decide_eq_false hc11
                  refine VList.go0 (n' := 128) rfl rfl (.move _ _ rfl) rfl ?_
                  refine VList.go0 (n' := 129) rfl rfl (Eff.castB (show decide (cC (validB (n) (A) && validB (k) (C)) (zOf (n) (A)) (zOf (k) (C)) ≥ 0) = true from decide_eq_true (by rw [ez]; exact cmp3_le'.2 (Int.le_trans ((cmp3_le' (a := zOf m B) (b := zOf k C)).1 (by rw [← ey]; omega)) ((cmp3_le' (a := zOf n A) (b := zOf m B)).1 (by rw [← ex]; omega))))) (.bin _ _ _ _ _ _ _ _ rfl rfl rfl)) rfl ?_
                  refine VList.go0 (n' := 130) rfl rfl (.pick _ _ _ _ _ rfl rfl) rfl ?_
                  refine VList.go0 (n' := 131) rfl rfl (.pick _ _ _ _ _ rfl rfl) rfl ?_
                  refine VList.go0 (n' := 132) rfl rfl (.assign _ _ rfl) rfl ?_
                  exact VList.nil (Joins.go (()) trivial (Weak.of (show 0 ≤ 0 by decide) ⟨⟨rfl, rfl⟩, ⟨⟨rfl, rfl⟩, ⟨⟨rfl, rfl⟩, ⟨⟨rfl, rfl⟩, ⟨⟨rfl, rfl⟩, ⟨⟨rfl, rfl⟩, ⟨⟨rfl, rfl⟩, trivial⟩⟩⟩⟩⟩⟩⟩ trivial))
        · intro u hok
          show VCode Try.prog 0 _ 0 (sl [(7, vI .i64 (cC (validB (n) (A) && validB (m) (B)) (zOf (n) (A)) (zOf (m) (B)))), (16, vI .i64 (gE (validB (n) (A) && validB (m) (B)) (zOf (n) (A) - zOf (m) (B)))), (17, vI .i64 (cC (validB (gN (validB (n) (A) && validB (m) (B)) (zOf (n) (A) - zOf (m) (B))) (gL (validB (n) (A) && validB (m) (B)) (zOf (n) (A) - zOf (m) (B))) && validB (zN (0)) (zL (0))) (zOf (gN (validB (n) (A) && validB (m) (B)) (zOf (n) (A) - zOf (m) (B))) (gL (validB (n) (A) && validB (m) (B)) (zOf (n) (A) - zOf (m) (B)))) (zOf (zN (0)) (zL (0))))), (20, vI .i64 (gE (validB (n) (A) && validB (k) (C)) (zOf (n) (A) + zOf (k) (C)))), (22, vI .i64 (gE (validB (m) (B) && validB (k) (C)) (zOf (m) (B) + zOf (k) (C)))), (23, vI .i64 (cC (validB (gN (validB (n) (A) && validB (k) (C)) (zOf (n) (A) + zOf (k) (C))) (gL (validB (n) (A) && validB (k) (C)) (zOf (n) (A) + zOf (k) (C))) && validB (gN (validB (m) (B) && validB (k) (C)) (zOf (m) (B) + zOf (k) (C))) (gL (validB (m) (B) && validB (k) (C)) (zOf (m) (B) + zOf (k) (C)))) (zOf (gN (validB (n) (A) && validB (k) (C)) (zOf (n) (A) + zOf (k) (C))) (gL (validB (n) (A) && validB (k) (C)) (zOf (n) (A) + zOf (k) (C)))) (zOf (gN (validB (m) (B) && validB (k) (C)) (zOf (m) (B) + zOf (k) (C))) (gL (validB (m) (B) && validB (k) (C)) (zOf (m) (B) + zOf (k) (C)))))), (25, vB (true))]) (en []) _
          refine VCode.seq ?_
          refine VCode.region ?_
          refine VList.go0 (n' := 1) rfl rfl (.move _ _ rfl) rfl ?_
          refine VList.go0 (n' := 2) rfl rfl (.move _ _ rfl) rfl ?_
          refine VList.go0 (n' := 3) rfl rfl (.move _ _ rfl) rfl ?_
          refine VList.go0 (n' := 4) rfl rfl (.bin _ _ _ _ _ _ _ _ rfl rfl rfl) rfl ?_
          refine VList.go0 (n' := 5) rfl rfl (.move _ _ rfl) rfl ?_
          refine VList.split (d := 137) _ rfl (fun hc12 => ?_) (fun hc12 => ?_)
          · replace hc12 := bne_iff_ne.1 hc12
            refine VList.skip (n' := 6) rfl rfl rfl ?_
            refine VList.skip (n' := 7) rfl rfl rfl ?_
            refine VList.skip (n' := 8) rfl rfl rfl ?_
            refine VList.go0 (n' := 9) rfl rfl (.pick _ _ _ _ _ rfl rfl) rfl ?_
            refine VList.go0 (n' := 10) rfl rfl (.pick _ _ _ _ _ rfl rfl) rfl ?_
            refine VList.go0 (n' := 11) rfl rfl (.move _ _ rfl) rfl ?_
            refine VList.go0 (n' := 12) rfl rfl (.move _ _ rfl) rfl ?_
            refine VList.go0 (n' := 13) rfl rfl (.bin _ _ _ _ _ _ _ _ rfl rfl rfl) rfl ?_
            refine VList.go0 (n' := 14) rfl rfl (.move _ _ rfl) rfl ?_
            refine VList.split (d := 146) _ rfl (fun hc13 => ?_) (fun hc13 => ?_)
            · replace hc13 := bne_iff_ne.1 hc13
              refine VList.skip (n' := 15) rfl rfl rfl ?_
              refine VList.skip (n' := 16) rfl rfl rfl ?_
              refine VList.go0 (n' := 17) rfl rfl (.pick _ _ _ _ _ rfl rfl) rfl ?_
              refine VList.go0 (n' := 18) rfl rfl (.move _ _ rfl) rfl ?_
              refine VList.skip (n' := 19) rfl rfl rfl ?_
              refine VList.skip (n' := 20) rfl rfl rfl ?_
              refine VList.skip (n' := 21) rfl rfl rfl ?_
              refine VList.go0 (n' := 22) rfl rfl (.pick _ _ _ _ _ rfl rfl) rfl ?_
              refine VList.go0 (n' := 23) rfl rfl (.pick _ _ _ _ _ rfl rfl) rfl ?_
              refine VList.go0 (n' := 24) rfl rfl (.assign _ _ rfl) rfl ?_
              refine VList.nil (Then.go ?_)
              exact VCode.ret (⟨trivial, [boolB (true)], (resVars_cons (resVar_tmp rfl rfl) resVars_nil), rfl⟩)
            · replace hc13 := bne_eq_false_iff_eq.1 hc13
              refine VList.go0 (n' := 15) rfl rfl (.move _ _ rfl) rfl ?_
              refine VList.go0 (n' := 16) rfl rfl (.bin _ _ _ _ _ _ _ _ rfl rfl rfl) rfl ?_
              refine VList.go0 (n' := 17) rfl rfl (.pick _ _ _ _ _ rfl rfl) rfl ?_
              refine VList.go0 (n' := 18) rfl rfl (.move _ _ rfl) rfl ?_
              refine VList.split (d := 150) _ rfl (fun hc14 => ?_) (fun hc14 => ?_)
              · replace hc14 := bne_iff_ne.1 hc14
                refine VList.skip (n' := 19) rfl rfl rfl ?_
                refine VList.skip (n' := 20) rfl rfl rfl ?_
                refine VList.skip (n' := 21) rfl rfl rfl ?_
                refine VList.go0 (n' := 22) rfl rfl (.pick _ _ _ _ _ rfl rfl) rfl ?_
                refine VList.go0 (n' := 23) rfl rfl (.pick _ _ _ _ _ rfl rfl) rfl ?_
                refine VList.go0 (n' := 24) rfl rfl (.assign _ _ rfl) rfl ?_
                refine VList.nil (Then.go ?_)
                exact VCode.ret (⟨trivial, [boolB (true)], (resVars_cons (resVar_tmp rfl rfl) resVars_nil), rfl⟩)
              · replace hc14 := bne_eq_false_iff_eq.1 hc14
                refine VList.go0 (n' := 19) rfl rfl (.move _ _ rfl) rfl ?_
                refine VList.go0 (n' := 20) rfl rfl (.move _ _ rfl) rfl ?_
                refine VList.go0 (n' := 21) rfl rfl (Eff.castB (show (cC (validB (gN (validB (n) (A) && validB (k) (C)) (zOf (n) (A) + zOf (k) (C))) (gL (validB (n) (A) && validB (k) (C)) (zOf (n) (A) + zOf (k) (C))) && validB (gN (validB (m) (B) && validB (k) (C)) (zOf (m) (B) + zOf (k) (C))) (gL (validB (m) (B) && validB (k) (C)) (zOf (m) (B) + zOf (k) (C)))) (zOf (gN (validB (n) (A) && validB (k) (C)) (zOf (n) (A) + zOf (k) (C))) (gL (validB (n) (A) && validB (k) (C)) (zOf (n) (A) + zOf (k) (C)))) (zOf (gN (validB (m) (B) && validB (k) (C)) (zOf (m) (B) + zOf (k) (C))) (gL (validB (m) (B) && validB (k) (C)) (zOf (m) (B) + zOf (k) (C)))) == cC (validB (n) (A) && validB (m) (B)) (zOf (n) (A)) (zOf (m) (B))) = true from beq_yes (by rw [ex]; exact ord_add (by assumption) (by assumption))) (.bin _ _ _ _ _ _ _ _ rfl rfl rfl)) rfl ?_
                refine VList.go0 (n' := 22) rfl rfl (.pick _ _ _ _ _ rfl rfl) rfl ?_
                refine VList.go0 (n' := 23) rfl rfl (.pick _ _ _ _ _ rfl rfl) rfl ?_
                refine VList.go0 (n' := 24) rfl rfl (.assign _ _ rfl) rfl ?_
                refine VList.nil (Then.go ?_)
                exact VCode.ret (⟨trivial, [boolB (true)], (resVars_cons (resVar_tmp rfl rfl) resVars_nil), rfl⟩)
          · replace hc12 := bne_eq_false_iff_eq.1 hc12
            refine VList.go0 (n' := 6) rfl rfl (.move _ _ rfl) rfl ?_
            refine VList.go0 (n' := 7) rfl rfl (.move _ _ rfl) rfl ?_
            refine VList.go0 (n' := 8) rfl rfl (Eff.castB (show (cC (validB (gN (validB (n) (A) && validB (m) (B)) (zOf (n) (A) - zOf (m) (B))) (gL (validB (n) (A) && validB (m) (B)) (zOf (n) (A) - zOf (m) (B))) && validB (zN (0)) (zL (0))) (zOf (gN (validB (n) (A) && validB (m) (B)) (zOf (n) (A) - zOf (m) (B))) (gL (validB (n) (A) && validB (m) (B)) (zOf (n) (A) - zOf (m) (B)))) (zOf (zN (0)) (zL (0))) == cC (validB (n) (A) && validB (m) (B)) (zOf (n) (A)) (zOf (m) (B))) = true from beq_yes (by rw [ex]; exact ord_diff (by assumption))) (.bin _ _ _ _ _ _ _ _ rfl rfl rfl)) rfl ?_
            refine VList.go0 (n' := 9) rfl rfl (.pick _ _ _ _ _ rfl rfl) rfl ?_
            refine VList.go0 (n' := 10) rfl rfl (.pick _ _ _ _ _ rfl rfl) rfl ?_
            refine VList.go0 (n' := 11) rfl rfl (.move _ _ rfl) rfl ?_
            refine VList.go0 (n' := 12) rfl rfl (.move _ _ rfl) rfl ?_
            refine VList.go0 (n' := 13) rfl rfl (.bin _ _ _ _ _ _ _ _ rfl rfl rfl) rfl ?_
            refine VList.go0 (n' := 14) rfl rfl (.move _ _ rfl) rfl ?_
            refine VList.split (d := 146) _ rfl (fun hc15 => ?_) (fun hc15 => ?_)
            · replace hc15 := bne_iff_ne.1 hc15
              refine VList.skip (n' := 15) rfl rfl rfl ?_
              refine VList.skip (n' := 16) rfl rfl rfl ?_
              refine VList.go0 (n' := 17) rfl rfl (.pick _ _ _ _ _ rfl rfl) rfl ?_
              refine VList.go0 (n' := 18) rfl rfl (.move _ _ rfl) rfl ?_
              refine VList.skip (n' := 19) rfl rfl rfl ?_
              refine VList.skip (n' := 20) rfl rfl rfl ?_
              refine VList.skip (n' := 21) rfl rfl rfl ?_
              refine VList.go0 (n' := 22) rfl rfl (.pick _ _ _ _ _ rfl rfl) rfl ?_
              refine VList.go0 (n' := 23) rfl rfl (.pick _ _ _ _ _ rfl rfl) rfl ?_
              refine VList.go0 (n' := 24) rfl rfl (.assign _ _ rfl) rfl ?_
              refine VList.nil (Then.go ?_)
              exact VCode.ret (⟨trivial, [boolB (true)], (resVars_cons (resVar_tmp rfl rfl) resVars_nil), rfl⟩)
            · replace hc15 := bne_eq_false_iff_eq.1 hc15
              refine VList.go0 (n' := 15) rfl rfl (.move _ _ rfl) rfl ?_
              refine VList.go0 (n' := 16) rfl rfl (.bin _ _ _ _ _ _ _ _ rfl rfl rfl) rfl ?_
              refine VList.go0 (n' := 17) rfl rfl (.pick _ _ _ _ _ rfl rfl) rfl ?_
              refine VList.go0 (n' := 18) rfl rfl (.move _ _ rfl) rfl ?_
              refine VList.split (d := 150) _ rfl (fun hc16 => ?_) (fun hc16 => ?_)
              · replace hc16 := bne_iff_ne.1 hc16
                refine VList.skip (n' := 19) rfl rfl rfl ?_
                refine VList.skip (n' := 20) rfl rfl rfl ?_
                refine VList.skip (n' := 21) rfl rfl rfl ?_
                refine VList.go0 (n' := 22) rfl rfl (.pick _ _ _ _ _ rfl rfl) rfl ?_
                refine VList.go0 (n' := 23) rfl rfl (.pick _ _ _ _ _ rfl rfl) rfl ?_
                refine VList.go0 (n' := 24) rfl rfl (.assign _ _ rfl) rfl ?_
                refine VList.nil (Then.go ?_)
                exact VCode.ret (⟨trivial, [boolB (true)], (resVars_cons (resVar_tmp rfl rfl) resVars_nil), rfl⟩)
              · replace hc16 := bne_eq_false_iff_eq.1 hc16
                refine VList.go0 (n' := 19) rfl rfl (.move _ _ rfl) rfl ?_
                refine VList.go0 (n' := 20) rfl rfl (.move _ _ rfl) rfl ?_
                refine VList.go0 (n' := 21) rfl rfl (Eff.castB (show (cC (validB (gN (validB (n) (A) && validB (k) (C)) (zOf (n) (A) + zOf (k) (C))) (gL (validB (n) (A) && validB (k) (C)) (zOf (n) (A) + zOf (k) (C))) && validB (gN (validB (m) (B) && validB (k) (C)) (zOf (m) (B) + zOf (k) (C))) (gL (validB (m) (B) && validB (k) (C)) (zOf (m) (B) + zOf (k) (C)))) (zOf (gN (validB (n) (A) && validB (k) (C)) (zOf (n) (A) + zOf (k) (C))) (gL (validB (n) (A) && validB (k) (C)) (zOf (n) (A) + zOf (k) (C)))) (zOf (gN (validB (m) (B) && validB (k) (C)) (zOf (m) (B) + zOf (k) (C))) (gL (validB (m) (B) && validB (k) (C)) (zOf (m) (B) + zOf (k) (C)))) == cC (validB (n) (A) && validB (m) (B)) (zOf (n) (A)) (zOf (m) (B))) = true from beq_yes (by rw [ex]; exact ord_add (by assumption) (by assumption))) (.bin _ _ _ _ _ _ _ _ rfl rfl rfl)) rfl ?_
                refine VList.go0 (n' := 22) rfl rfl (.pick _ _ _ _ _ rfl rfl) rfl ?_
                refine VList.go0 (n' := 23) rfl rfl (.pick _ _ _ _ _ rfl rfl) rfl ?_
                refine VList.go0 (n' := 24) rfl rfl (.assign _ _ rfl) rfl ?_
                refine VList.nil (Then.go ?_)
                exact VCode.ret (⟨trivial, [boolB (true)], (resVars_cons (resVar_tmp rfl rfl) resVars_nil), rfl⟩)
end Go.VL

set_option linter.unusedVariables false
set_option linter.unusedSimpArgs false
namespace Go.Proofs.Ytipajnobkladeaa
open Go.ChangeShapes Go.WideShapes Go.ChangeAt Go.RowKit Go.VL

set_option maxRecDepth 100000 in
theorem integerOrder_lifted (os : Os) (started : os.Started) (H : Type) (enc : TypeId × Value → H) :
    ReturnsInHanded {} Try.checked os 16 .any (Rows.integerOrderSpec.pre6 enc Try.prog Try.f16 Rows.integerOrderRow.domain false) (Rows.integerOrderSpec.post enc Try.prog Try.f16 false true false false) := by
  refine returnsInHanded_of_change (C := Try.checked) Try_own started (by kernel_rfl) Try.func16
    (ChangeSpec.witness6 (enc := enc) (C := Try.checked) false ⟨#[], #[.agg #[.bool false, .slice none 0 0], .agg #[.bool false, .slice none 0 0], .agg #[.bool false, .slice none 0 0]], []⟩ 8 (by kernel_rfl) (by kernel_rfl) (by kernel_rfl) (by kernel_rfl)) ?_
  intro W base args ds gs before hval0 hW hcnd _
  have hval : ∀ (j : Nat) t v, Try.f16.params[j]? = some t → args[j]? = some v → Value.okWide Try.prog W .any base t v := hval0
  have hW' := hW
  obtain ⟨p, q, hA0, hV, rfl, hfz, hnd⟩ := hW
  have hA : DataW.TrodAll enc Try.prog W 0 (fun _ => true) true Try.f16.params.toList args.toList ds p := hA0
  have hA1 := hA
  rw [Try.params16] at hA hval
  obtain ⟨v0, v1, v2, d0, d1, d2, p0, p1, p2, rfl, rfl, rfl, h0, h1, h2⟩ := trodAll_three hA
  obtain ⟨rfl, rfl⟩ := trodVars_none hV
  obtain ⟨n0, L0, r0, o0, l0⟩ := open_api (hval 0 24 v0 rfl rfl) h0
  obtain ⟨n1, L1, r1, o1, l1⟩ := open_api (hval 1 24 v1 rfl rfl) h1
  obtain ⟨n2, L2, r2, o2, l2⟩ := open_api (hval 2 24 v2 rfl rfl) h2
  simp only [List.append_nil] at hW'
  have hlt : ∀ x ∈ p0 ++ p1 ++ p2, x.block < W.heap.size := fun x hx => hW'.lt x hx
  have hread : ∀ t ∈ Try.f16.params.toList, Try.prog.readableRec t = true ∧ t < Try.prog.types.size := by rw [Try.params16]; exact types_cons T24 (types_cons T24 (types_cons T24 (types_nil)))
  refine ((f16 n0 L0 n1 L1 n2 L2 l0 l1 l2 o0 o1 o2).runs (xs := [v0, v1, v2]) rfl (reps_cons r0 (reps_cons r1 (reps_cons r2 reps_nil)))).mono fun e W' ⟨he, hb⟩ => ?_
  subst he
  exact ⟨_, rfl, post_of_below (pa := _) (pv := []) hW' (fun _ _ _ => trodAll_mk1 shut_true) (fun sp hsp => args_stay Try_laidOut hb hread hA1 hlt hsp) (fun _ _ => rfl) (by simp) hb (ok_one (by kernel_rfl) rfl ok_true)⟩

theorem integerOrder_facts : joinedFacts Try.pinned.checked.prog 16 Try.f16 Rows.integerOrderSpec Rows.integerOrderRow = true := by
  unfold joinedFacts
  rw [head_may, head_lifts, head_make]
  kernel_rfl

theorem integerOrder_holds : Rows.IntegerOrderSaid :=
  OpenClaim.holds_of_wide 16 Try.f16 rfl rfl rfl rfl rfl rfl rfl ⟨rfl, rfl, rfl, rfl, rfl⟩ rfl rfl rfl rfl rfl (by kernel_rfl) Try.func16 integerOrder_facts
    (of_decide_eq_true (by kernel_rfl)) (by unfold Func.isWrapper; rw [if_neg (of_decide_eq_false (by kernel_rfl))]; exact ⟨rfl, rfl⟩)
    (fun os started H enc _ => integerOrder_lifted os started H enc)

end Go.Proofs.Ytipajnobkladeaa
