/- IntegerRing returns true for every input and leaves the input as it was. No condition. -/
import Derived.Test.YtipajnobkladeaaK3
/- Plain laws that the statements about rings and orders of integers need. No program here. -/
set_option linter.unusedVariables false
set_option linter.unusedSimpArgs false
namespace Go.VL

theorem same_gg {ok ok' : Bool} {z z' : Int} (h : ok = true) (h' : ok' = true) (e : z = z') : sameB (gN ok z) (gL ok z) (gN ok' z') (gL ok' z') = true := by
  subst e; rw [h, h']; exact sameB_refl _ _
theorem gz {ok : Bool} {z : Int} (h : gE ok z = 0) : zOf (gN ok z) (gL ok z) = z := zOf_gg (gE_zero.1 h).1 (gE_zero.1 h).2
theorem go {ok : Bool} {z : Int} (h : gE ok z = 0) : ok = true := (gE_zero.1 h).1
theorem ring_add {o1 o2 o3 o4 : Bool} {a b c : Int} (e : gE o1 (a + b) = 0) (f : gE o2 (zOf (gN o1 (a + b)) (gL o1 (a + b)) + c) = 0) (g : gE o3 (b + c) = 0) (h : gE o4 (a + zOf (gN o3 (b + c)) (gL o3 (b + c))) = 0) :
    sameB (gN o2 (zOf (gN o1 (a + b)) (gL o1 (a + b)) + c)) (gL o2 (zOf (gN o1 (a + b)) (gL o1 (a + b)) + c)) (gN o4 (a + zOf (gN o3 (b + c)) (gL o3 (b + c)))) (gL o4 (a + zOf (gN o3 (b + c)) (gL o3 (b + c)))) = true :=
  same_gg (go f) (go h) (by rw [gz e, gz g]; omega)
theorem ring_mul {o1 o2 o3 o4 : Bool} {a b c : Int} (e : gE o1 (a * b) = 0) (f : gE o2 (zOf (gN o1 (a * b)) (gL o1 (a * b)) * c) = 0) (g : gE o3 (b * c) = 0) (h : gE o4 (a * zOf (gN o3 (b * c)) (gL o3 (b * c))) = 0) :
    sameB (gN o2 (zOf (gN o1 (a * b)) (gL o1 (a * b)) * c)) (gL o2 (zOf (gN o1 (a * b)) (gL o1 (a * b)) * c)) (gN o4 (a * zOf (gN o3 (b * c)) (gL o3 (b * c)))) (gL o4 (a * zOf (gN o3 (b * c)) (gL o3 (b * c)))) = true :=
  same_gg (go f) (go h) (by rw [gz e, gz g, Int.mul_assoc])
theorem ring_dist {o1 o2 o3 o4 o5 : Bool} {a b c : Int} (e : gE o1 (a * b) = 0) (f : gE o2 (a * c) = 0) (g : gE o3 (b + c) = 0) (h : gE o4 (a * zOf (gN o3 (b + c)) (gL o3 (b + c))) = 0)
    (i : gE o5 (zOf (gN o1 (a * b)) (gL o1 (a * b)) + zOf (gN o2 (a * c)) (gL o2 (a * c))) = 0) :
    sameB (gN o4 (a * zOf (gN o3 (b + c)) (gL o3 (b + c)))) (gL o4 (a * zOf (gN o3 (b + c)) (gL o3 (b + c)))) (gN o5 (zOf (gN o1 (a * b)) (gL o1 (a * b)) + zOf (gN o2 (a * c)) (gL o2 (a * c)))) (gL o5 (zOf (gN o1 (a * b)) (gL o1 (a * b)) + zOf (gN o2 (a * c)) (gL o2 (a * c)))) = true :=
  same_gg (go h) (go i) (by rw [gz e, gz f, gz g, Int.mul_add])
theorem ring_dist' {o1 o2 o3 o4 o5 : Bool} {a b c : Int} (e : gE o1 (a * b) = 0) (f : gE o2 (a * c) = 0) (g : gE o3 (b - c) = 0) (h : gE o4 (a * zOf (gN o3 (b - c)) (gL o3 (b - c))) = 0)
    (i : gE o5 (zOf (gN o1 (a * b)) (gL o1 (a * b)) - zOf (gN o2 (a * c)) (gL o2 (a * c))) = 0) :
    sameB (gN o4 (a * zOf (gN o3 (b - c)) (gL o3 (b - c)))) (gL o4 (a * zOf (gN o3 (b - c)) (gL o3 (b - c)))) (gN o5 (zOf (gN o1 (a * b)) (gL o1 (a * b)) - zOf (gN o2 (a * c)) (gL o2 (a * c)))) (gL o5 (zOf (gN o1 (a * b)) (gL o1 (a * b)) - zOf (gN o2 (a * c)) (gL o2 (a * c)))) = true :=
  same_gg (go h) (go i) (by rw [gz e, gz f, gz g, Int.mul_sub])
theorem comm_E {u v : Bool} {x y : Int} (h : x = y) : gE (u && v) x = gE (v && u) y := by rw [Bool.and_comm, h]
theorem comm_same {u v : Bool} {x y : Int} (h : x = y) : sameB (gN (u && v) x) (gL (u && v) x) (gN (v && u) y) (gL (v && u) y) = true := by rw [Bool.and_comm, h]; exact sameB_refl _ _
theorem cmp3_anti (a b : Int) : cmp3 a b = -cmp3 b a := by
  unfold cmp3
  rcases Int.lt_trichotomy a b with h | h | h
  · rw [if_pos h, if_neg (by omega), if_neg (by omega)]
  · subst h; simp
  · rw [if_neg (by omega), if_neg (by omega), if_pos h]; rfl
theorem cmp3_le {a b : Int} : cmp3 a b ≤ 0 ↔ a ≤ b := by unfold cmp3; split <;> (try split) <;> omega
theorem cmp3_gt {a b : Int} : cmp3 a b > 0 ↔ b < a := by unfold cmp3; split <;> (try split) <;> omega
theorem cmp3_le' {a b : Int} : cmp3 a b ≥ 0 ↔ b ≤ a := by unfold cmp3; split <;> (try split) <;> omega
theorem cmp_same {n m : Bool} {A B : List Int} (oA : ok32 A) (oB : ok32 B) (va : validB n A = true) (vb : validB m B = true) : (cmp3 (zOf n A) (zOf m B) == 0) = sameB n A m B := by
  rw [Bool.eq_iff_iff, beq_iff_eq, cmp3_zero, sameB_iff]
  refine ⟨fun h => ?_, fun h => by rw [h.1, h.2]⟩
  have e1 := z_of oA va
  have e2 := z_of oB vb
  rw [h] at e1
  exact ⟨e1.1.symm.trans e2.1, e1.2.symm.trans e2.2⟩
theorem cmp3_shift {a b : Int} (c : Int) : cmp3 (a + c) (b + c) = cmp3 a b := by
  unfold cmp3
  rcases Int.lt_trichotomy a b with h | h | h
  · rw [if_pos h, if_pos (by omega)]
  · subst h; simp
  · rw [if_neg (by omega), if_neg (by omega), if_neg (by omega), if_neg (by omega)]
theorem in_zero : inB 0 = true := small_in (by decide) (by decide)
theorem ord_diff {o : Bool} {a b : Int} (h : gE o (a - b) = 0) : cC (validB (gN o (a - b)) (gL o (a - b)) && validB (zN 0) (zL 0)) (zOf (gN o (a - b)) (gL o (a - b))) (zOf (zN 0) (zL 0)) = cmp3 a b := by
  rw [valid_gg, valid_zz, cC_true (ok := true && true) rfl, gz h, zOf_z in_zero]
  have := cmp3_shift (a := a - b) (b := 0) b
  rw [show a - b + b = a by omega, show 0 + b = b by omega] at this
  exact this.symm
theorem ord_add {o1 o2 : Bool} {a b c : Int} (h1 : gE o1 (a + c) = 0) (h2 : gE o2 (b + c) = 0) :
    cC (validB (gN o1 (a + c)) (gL o1 (a + c)) && validB (gN o2 (b + c)) (gL o2 (b + c))) (zOf (gN o1 (a + c)) (gL o1 (a + c))) (zOf (gN o2 (b + c)) (gL o2 (b + c))) = cmp3 a b := by
  rw [valid_gg, valid_gg, cC_true (ok := true && true) rfl, gz h1, gz h2]
  exact cmp3_shift c
theorem beq_bool {x y : Bool} (h : x = y) : (x == y) = true := by subst h; simp
theorem vv {u v : Bool} (h1 : u = true) (h2 : v = true) : (u && v) = true := by rw [h1, h2]; rfl
end Go.VL

/- Walks over the Go functions, printed by a program of this session over the kit's print, and by hand. -/
set_option linter.unusedVariables false
set_option linter.unusedSimpArgs false
namespace Go.VL
open Go.Proofs
theorem f42 (n : Bool) (A : List Int) (m : Bool) (B : List Int) (k : Bool) (C : List Int) (hA : A.length ≤ 9223372036854775807) (hB : B.length ≤ 9223372036854775807) (hC : C.length ≤ 9223372036854775807) (oA : ok32 A) (oB : ok32 B) (oC : ok32 C) : VF Try.prog 42 [.agg [boolB (n), u32S (A)], .agg [boolB (m), u32S (B)], .agg [boolB (k), u32S (C)]] (boolB true) := by
  refine VF_of P_mixed Try.func42 rfl rfl (by kernel_rfl) ?_
  refine VCode.seq ?_
  refine VCode.region ?_
  refine VList.go1 (n' := 1) rfl rfl (.box _ _ _ rfl (List.cons_ne_nil _ _) rfl) rfl ?_
  refine VList.go1 (n' := 2) rfl rfl (.box _ _ _ rfl (List.cons_ne_nil _ _) rfl) rfl ?_
  refine VList.go1 (n' := 3) rfl rfl (.box _ _ _ rfl (List.cons_ne_nil _ _) rfl) rfl ?_
  refine VList.go0 (n' := 4) rfl rfl (.assign _ _ rfl) rfl ?_
  refine VList.nil (Then.go ?_)
  refine VCode.seq ?_
  refine VCode.region ?_
  refine VList.go0 (n' := 5) rfl rfl (.loadS _ _ _ _ _ _ rfl rfl P_agg24 P_sz24 (Nat.le_of_ble_eq_true rfl)) rfl ?_
  refine VList.go0 (n' := 6) rfl rfl (.loadS _ _ _ _ _ _ rfl rfl P_agg24 P_sz24 (Nat.le_of_ble_eq_true rfl)) rfl ?_
  refine VList.go0 (n' := 7) rfl rfl (Eff.callV0 rfl (ress_cons rfl (ress_cons rfl ress_nil)) (f38 _ _ _ _ (by first | assumption | with_reducible exact len_gL' _ _ | with_reducible exact len_zL' _) (by first | assumption | with_reducible exact len_gL' _ _ | with_reducible exact len_zL' _) (by first | assumption | with_reducible exact ok32_gL _ _ | with_reducible exact ok32_zL _) (by first | assumption | with_reducible exact ok32_gL _ _ | with_reducible exact ok32_zL _)) rfl) rfl ?_
  refine VList.go0 (n' := 8) rfl rfl (.move _ _ rfl) rfl ?_
  refine VList.go0 (n' := 9) rfl rfl (.extract _ _ _ _ rfl rfl) rfl ?_
  refine VList.go0 (n' := 10) rfl rfl (.extract _ _ _ _ rfl rfl) rfl ?_
  refine VList.go1 (n' := 11) rfl rfl (.alloc _ _ P_zero24 (List.cons_ne_nil _ _)) rfl ?_
  refine VList.goS (n' := 12) rfl rfl (.store _ _ _ _ _ _ _ rfl rfl rfl rfl P_sz24 (Nat.le_of_ble_eq_true rfl) rfl) rfl ?_
  refine VList.go0 (n' := 13) rfl rfl (.assign _ _ rfl) rfl ?_
  refine VList.nil (Then.go ?_)
  refine VCode.seq ?_
  refine VCode.region ?_
  refine VList.go0 (n' := 14) rfl rfl (.loadS _ _ _ _ _ _ rfl rfl P_agg24 P_sz24 (Nat.le_of_ble_eq_true rfl)) rfl ?_
  refine VList.go0 (n' := 15) rfl rfl (.loadS _ _ _ _ _ _ rfl rfl P_agg24 P_sz24 (Nat.le_of_ble_eq_true rfl)) rfl ?_
  refine VList.go0 (n' := 16) rfl rfl (Eff.callV0 rfl (ress_cons rfl (ress_cons rfl ress_nil)) (f38 _ _ _ _ (by first | assumption | with_reducible exact len_gL' _ _ | with_reducible exact len_zL' _) (by first | assumption | with_reducible exact len_gL' _ _ | with_reducible exact len_zL' _) (by first | assumption | with_reducible exact ok32_gL _ _ | with_reducible exact ok32_zL _) (by first | assumption | with_reducible exact ok32_gL _ _ | with_reducible exact ok32_zL _)) rfl) rfl ?_
  refine VList.go0 (n' := 17) rfl rfl (.move _ _ rfl) rfl ?_
  refine VList.go0 (n' := 18) rfl rfl (.extract _ _ _ _ rfl rfl) rfl ?_
  refine VList.go0 (n' := 19) rfl rfl (.extract _ _ _ _ rfl rfl) rfl ?_
  refine VList.goS (n' := 20) rfl rfl (.store _ _ _ _ _ _ _ rfl rfl rfl rfl P_sz24 (Nat.le_of_ble_eq_true rfl) rfl) rfl ?_
  refine VList.go0 (n' := 21) rfl rfl (.assign _ _ rfl) rfl ?_
  refine VList.nil (Then.go ?_)
  refine VCode.seq ?_
  refine VCode.region ?_
  refine VList.go0 (n' := 22) rfl rfl (.loadS _ _ _ _ _ _ rfl rfl P_agg24 P_sz24 (Nat.le_of_ble_eq_true rfl)) rfl ?_
  refine VList.go0 (n' := 23) rfl rfl (.loadS _ _ _ _ _ _ rfl rfl P_agg24 P_sz24 (Nat.le_of_ble_eq_true rfl)) rfl ?_
  refine VList.go0 (n' := 24) rfl rfl (Eff.callV0 rfl (ress_cons rfl (ress_cons rfl ress_nil)) (f38 _ _ _ _ (by first | assumption | with_reducible exact len_gL' _ _ | with_reducible exact len_zL' _) (by first | assumption | with_reducible exact len_gL' _ _ | with_reducible exact len_zL' _) (by first | assumption | with_reducible exact ok32_gL _ _ | with_reducible exact ok32_zL _) (by first | assumption | with_reducible exact ok32_gL _ _ | with_reducible exact ok32_zL _)) rfl) rfl ?_
  refine VList.go0 (n' := 25) rfl rfl (.move _ _ rfl) rfl ?_
  refine VList.go0 (n' := 26) rfl rfl (.extract _ _ _ _ rfl rfl) rfl ?_
  refine VList.go0 (n' := 27) rfl rfl (.extract _ _ _ _ rfl rfl) rfl ?_
  refine VList.go1 (n' := 28) rfl rfl (.alloc _ _ P_zero24 (List.cons_ne_nil _ _)) rfl ?_
  refine VList.goS (n' := 29) rfl rfl (.store _ _ _ _ _ _ _ rfl rfl rfl rfl P_sz24 (Nat.le_of_ble_eq_true rfl) rfl) rfl ?_
  refine VList.go0 (n' := 30) rfl rfl (.assign _ _ rfl) rfl ?_
  refine VList.nil (Then.go ?_)
  refine VCode.seq ?_
  refine VCode.region ?_
  refine VList.go0 (n' := 31) rfl rfl (.loadS _ _ _ _ _ _ rfl rfl P_agg24 P_sz24 (Nat.le_of_ble_eq_true rfl)) rfl ?_
  refine VList.go0 (n' := 32) rfl rfl (.loadS _ _ _ _ _ _ rfl rfl P_agg24 P_sz24 (Nat.le_of_ble_eq_true rfl)) rfl ?_
  refine VList.go0 (n' := 33) rfl rfl (Eff.callV0 rfl (ress_cons rfl (ress_cons rfl ress_nil)) (f38 _ _ _ _ (by first | assumption | with_reducible exact len_gL' _ _ | with_reducible exact len_zL' _) (by first | assumption | with_reducible exact len_gL' _ _ | with_reducible exact len_zL' _) (by first | assumption | with_reducible exact ok32_gL _ _ | with_reducible exact ok32_zL _) (by first | assumption | with_reducible exact ok32_gL _ _ | with_reducible exact ok32_zL _)) rfl) rfl ?_
  refine VList.go0 (n' := 34) rfl rfl (.move _ _ rfl) rfl ?_
  refine VList.go0 (n' := 35) rfl rfl (.extract _ _ _ _ rfl rfl) rfl ?_
  refine VList.go0 (n' := 36) rfl rfl (.extract _ _ _ _ rfl rfl) rfl ?_
  refine VList.goS (n' := 37) rfl rfl (.store _ _ _ _ _ _ _ rfl rfl rfl rfl P_sz24 (Nat.le_of_ble_eq_true rfl) rfl) rfl ?_
  refine VList.go0 (n' := 38) rfl rfl (.assign _ _ rfl) rfl ?_
  refine VList.nil (Then.go ?_)
  refine VCode.join (α := (Unit)) (fun (u : (Unit)) => (3, sl [(3, .ptr 0 (0)), (4, .ptr 1 (0)), (5, .ptr 2 (0)), (13, vB (true))], en [(0, ⟨2, [vB (n), vS (A)], true⟩), (1, ⟨2, [vB (m), vS (B)], true⟩), (2, ⟨2, [vB (k), vS (C)], true⟩)])) (fun (u : (Unit)) => True) ?_ ?_
  · skip
    refine VCode.region ?_
    refine VList.go0 (n' := 39) rfl rfl (.move _ _ rfl) rfl ?_
    refine VList.go0 (n' := 40) rfl rfl (.bin _ _ _ _ _ _ _ _ rfl rfl rfl) rfl ?_
    refine VList.go0 (n' := 41) rfl rfl (.move _ _ rfl) rfl ?_
    refine VList.split (d := 46) _ rfl (fun hc1 => ?_) (fun hc1 => ?_)
    · replace hc1 := bne_iff_ne.1 hc1
      refine VList.skip (n' := 42) rfl rfl rfl ?_
      refine VList.skip (n' := 43) rfl rfl rfl ?_
      refine VList.go0 (n' := 44) rfl rfl (.pick _ _ _ _ _ rfl rfl) rfl ?_
      refine VList.go0 (n' := 45) rfl rfl (.move _ _ rfl) rfl ?_
      refine VList.skip (n' := 46) rfl rfl rfl ?_
      refine VList.skip (n' := 47) rfl rfl rfl ?_
      refine VList.go0 (n' := 48) rfl rfl (.pick _ _ _ _ _ rfl rfl) rfl ?_
      refine VList.go0 (n' := 49) rfl rfl (.move _ _ rfl) rfl ?_
      refine VList.skip (n' := 50) rfl rfl rfl ?_
      refine VList.skip (n' := 51) rfl rfl rfl ?_
      refine VList.go0 (n' := 52) rfl rfl (.pick _ _ _ _ _ rfl rfl) rfl ?_
      refine VList.go0 (n' := 53) rfl rfl (.move _ _ rfl) rfl ?_
      refine VList.skip (n' := 54) rfl rfl rfl ?_
      refine VList.skip (n' := 55) rfl rfl rfl ?_
      refine VList.skip (n' := 56) rfl rfl rfl ?_
      refine VList.go0 (n' := 57) rfl rfl (.pick _ _ _ _ _ rfl rfl) rfl ?_
      refine VList.go0 (n' := 58) rfl rfl (.assign _ _ rfl) rfl ?_
      exact VList.nil (Joins.go (()) trivial (Weak.of (show 0 ≤ 3 by decide) ⟨⟨rfl, rfl⟩, ⟨⟨rfl, rfl⟩, ⟨⟨rfl, rfl⟩, ⟨⟨rfl, rfl⟩, trivial⟩⟩⟩⟩ ⟨⟨rfl, (show 0 < 3 by decide), (by intro v_ hv_; simp at hv_; rcases hv_ with rfl | rfl <;> rfl)⟩, ⟨⟨rfl, (show 1 < 3 by decide), (by intro v_ hv_; simp at hv_; rcases hv_ with rfl | rfl <;> rfl)⟩, ⟨⟨rfl, (show 2 < 3 by decide), (by intro v_ hv_; simp at hv_; rcases hv_ with rfl | rfl <;> rfl)⟩, trivial⟩⟩⟩))
    · replace hc1 := bne_eq_false_iff_eq.1 hc1
      refine VList.go0 (n' := 42) rfl rfl (.move _ _ rfl) rfl ?_
      refine VList.go0 (n' := 43) rfl rfl (.bin _ _ _ _ _ _ _ _ rfl rfl rfl) rfl ?_
      refine VList.go0 (n' := 44) rfl rfl (.pick _ _ _ _ _ rfl rfl) rfl ?_
      refine VList.go0 (n' := 45) rfl rfl (.move _ _ rfl) rfl ?_
      refine VList.split (d := 50) _ rfl (fun hc2 => ?_) (fun hc2 => ?_)
      · replace hc2 := bne_iff_ne.1 hc2
        refine VList.skip (n' := 46) rfl rfl rfl ?_
        refine VList.skip (n' := 47) rfl rfl rfl ?_
        refine VList.go0 (n' := 48) rfl rfl (.pick _ _ _ _ _ rfl rfl) rfl ?_
        refine VList.go0 (n' := 49) rfl rfl (.move _ _ rfl) rfl ?_
        refine VList.skip (n' := 50) rfl rfl rfl ?_
        refine VList.skip (n' := 51) rfl rfl rfl ?_
        refine VList.go0 (n' := 52) rfl rfl (.pick _ _ _ _ _ rfl rfl) rfl ?_
        refine VList.go0 (n' := 53) rfl rfl (.move _ _ rfl) rfl ?_
        refine VList.skip (n' := 54) rfl rfl rfl ?_
        refine VList.skip (n' := 55) rfl rfl rfl ?_
        refine VList.skip (n' := 56) rfl rfl rfl ?_
        refine VList.go0 (n' := 57) rfl rfl (.pick _ _ _ _ _ rfl rfl) rfl ?_
        refine VList.go0 (n' := 58) rfl rfl (.assign _ _ rfl) rfl ?_
        exact VList.nil (Joins.go (()) trivial (Weak.of (show 0 ≤ 3 by decide) ⟨⟨rfl, rfl⟩, ⟨⟨rfl, rfl⟩, ⟨⟨rfl, rfl⟩, ⟨⟨rfl, rfl⟩, trivial⟩⟩⟩⟩ ⟨⟨rfl, (show 0 < 3 by decide), (by intro v_ hv_; simp at hv_; rcases hv_ with rfl | rfl <;> rfl)⟩, ⟨⟨rfl, (show 1 < 3 by decide), (by intro v_ hv_; simp at hv_; rcases hv_ with rfl | rfl <;> rfl)⟩, ⟨⟨rfl, (show 2 < 3 by decide), (by intro v_ hv_; simp at hv_; rcases hv_ with rfl | rfl <;> rfl)⟩, trivial⟩⟩⟩))
      · replace hc2 := bne_eq_false_iff_eq.1 hc2
        refine VList.go0 (n' := 46) rfl rfl (.move _ _ rfl) rfl ?_
        refine VList.go0 (n' := 47) rfl rfl (.bin _ _ _ _ _ _ _ _ rfl rfl rfl) rfl ?_
        refine VList.go0 (n' := 48) rfl rfl (.pick _ _ _ _ _ rfl rfl) rfl ?_
        refine VList.go0 (n' := 49) rfl rfl (.move _ _ rfl) rfl ?_
        refine VList.split (d := 54) _ rfl (fun hc3 => ?_) (fun hc3 => ?_)
        · replace hc3 := bne_iff_ne.1 hc3
          refine VList.skip (n' := 50) rfl rfl rfl ?_
          refine VList.skip (n' := 51) rfl rfl rfl ?_
          refine VList.go0 (n' := 52) rfl rfl (.pick _ _ _ _ _ rfl rfl) rfl ?_
          refine VList.go0 (n' := 53) rfl rfl (.move _ _ rfl) rfl ?_
          refine VList.skip (n' := 54) rfl rfl rfl ?_
          refine VList.skip (n' := 55) rfl rfl rfl ?_
          refine VList.skip (n' := 56) rfl rfl rfl ?_
          refine VList.go0 (n' := 57) rfl rfl (.pick _ _ _ _ _ rfl rfl) rfl ?_
          refine VList.go0 (n' := 58) rfl rfl (.assign _ _ rfl) rfl ?_
          exact VList.nil (Joins.go (()) trivial (Weak.of (show 0 ≤ 3 by decide) ⟨⟨rfl, rfl⟩, ⟨⟨rfl, rfl⟩, ⟨⟨rfl, rfl⟩, ⟨⟨rfl, rfl⟩, trivial⟩⟩⟩⟩ ⟨⟨rfl, (show 0 < 3 by decide), (by intro v_ hv_; simp at hv_; rcases hv_ with rfl | rfl <;> rfl)⟩, ⟨⟨rfl, (show 1 < 3 by decide), (by intro v_ hv_; simp at hv_; rcases hv_ with rfl | rfl <;> rfl)⟩, ⟨⟨rfl, (show 2 < 3 by decide), (by intro v_ hv_; simp at hv_; rcases hv_ with rfl | rfl <;> rfl)⟩, trivial⟩⟩⟩))
        · replace hc3 := bne_eq_false_iff_eq.1 hc3
          refine VList.go0 (n' := 50) rfl rfl (.move _ _ rfl) rfl ?_
          refine VList.go0 (n' := 51) rfl rfl (.bin _ _ _ _ _ _ _ _ rfl rfl rfl) rfl ?_
          refine VList.go0 (n' := 52) rfl rfl (.pick _ _ _ _ _ rfl rfl) rfl ?_
          refine VList.go0 (n' := 53) rfl rfl (.move _ _ rfl) rfl ?_
          refine VList.split (d := 58) _ rfl (fun hc4 => ?_) (fun hc4 => ?_)
          · replace hc4 := bne_iff_ne.1 hc4
            refine VList.skip (n' := 54) rfl rfl rfl ?_
            refine VList.skip (n' := 55) rfl rfl rfl ?_
            refine VList.skip (n' := 56) rfl rfl rfl ?_
            refine VList.go0 (n' := 57) rfl rfl (.pick _ _ _ _ _ rfl rfl) rfl ?_
            refine VList.go0 (n' := 58) rfl rfl (.assign _ _ rfl) rfl ?_
            exact VList.nil (Joins.go (()) trivial (Weak.of (show 0 ≤ 3 by decide) ⟨⟨rfl, rfl⟩, ⟨⟨rfl, rfl⟩, ⟨⟨rfl, rfl⟩, ⟨⟨rfl, rfl⟩, trivial⟩⟩⟩⟩ ⟨⟨rfl, (show 0 < 3 by decide), (by intro v_ hv_; simp at hv_; rcases hv_ with rfl | rfl <;> rfl)⟩, ⟨⟨rfl, (show 1 < 3 by decide), (by intro v_ hv_; simp at hv_; rcases hv_ with rfl | rfl <;> rfl)⟩, ⟨⟨rfl, (show 2 < 3 by decide), (by intro v_ hv_; simp at hv_; rcases hv_ with rfl | rfl <;> rfl)⟩, trivial⟩⟩⟩))
          · replace hc4 := bne_eq_false_iff_eq.1 hc4
            refine VList.go0 (n' := 54) rfl rfl (.loadS _ _ _ _ _ _ rfl rfl P_agg24 P_sz24 (Nat.le_of_ble_eq_true rfl)) rfl ?_
            refine VList.go0 (n' := 55) rfl rfl (.loadS _ _ _ _ _ _ rfl rfl P_agg24 P_sz24 (Nat.le_of_ble_eq_true rfl)) rfl ?_
            refine VList.go0 (n' := 56) rfl rfl (Eff.castB (show (sameB (gN (validB (gN (validB (n) (A) && validB (m) (B)) (zOf (n) (A) + zOf (m) (B))) (gL (validB (n) (A) && validB (m) (B)) (zOf (n) (A) + zOf (m) (B))) && validB (k) (C)) (zOf (gN (validB (n) (A) && validB (m) (B)) (zOf (n) (A) + zOf (m) (B))) (gL (validB (n) (A) && validB (m) (B)) (zOf (n) (A) + zOf (m) (B))) + zOf (k) (C))) (gL (validB (gN (validB (n) (A) && validB (m) (B)) (zOf (n) (A) + zOf (m) (B))) (gL (validB (n) (A) && validB (m) (B)) (zOf (n) (A) + zOf (m) (B))) && validB (k) (C)) (zOf (gN (validB (n) (A) && validB (m) (B)) (zOf (n) (A) + zOf (m) (B))) (gL (validB (n) (A) && validB (m) (B)) (zOf (n) (A) + zOf (m) (B))) + zOf (k) (C))) (gN (validB (n) (A) && validB (gN (validB (m) (B) && validB (k) (C)) (zOf (m) (B) + zOf (k) (C))) (gL (validB (m) (B) && validB (k) (C)) (zOf (m) (B) + zOf (k) (C)))) (zOf (n) (A) + zOf (gN (validB (m) (B) && validB (k) (C)) (zOf (m) (B) + zOf (k) (C))) (gL (validB (m) (B) && validB (k) (C)) (zOf (m) (B) + zOf (k) (C))))) (gL (validB (n) (A) && validB (gN (validB (m) (B) && validB (k) (C)) (zOf (m) (B) + zOf (k) (C))) (gL (validB (m) (B) && validB (k) (C)) (zOf (m) (B) + zOf (k) (C)))) (zOf (n) (A) + zOf (gN (validB (m) (B) && validB (k) (C)) (zOf (m) (B) + zOf (k) (C))) (gL (validB (m) (B) && validB (k) (C)) (zOf (m) (B) + zOf (k) (C)))))) = true from ring_add (by assumption) (by assumption) (by assumption) (by assumption)) (.callF _ _ _ _ _ _ rfl (ress_cons rfl (ress_cons rfl ress_nil)) (f21 _ _ _ _ (by first | assumption | with_reducible exact len_gL' _ _ | with_reducible exact len_zL' _) (by first | assumption | with_reducible exact len_gL' _ _ | with_reducible exact len_zL' _)) rfl)) rfl ?_
            refine VList.go0 (n' := 57) rfl rfl (.pick _ _ _ _ _ rfl rfl) rfl ?_
            refine VList.go0 (n' := 58) rfl rfl (.assign _ _ rfl) rfl ?_
            exact VList.nil (Joins.go (()) trivial (Weak.of (show 0 ≤ 3 by decide) ⟨⟨rfl, rfl⟩, ⟨⟨rfl, rfl⟩, ⟨⟨rfl, rfl⟩, ⟨⟨rfl, rfl⟩, trivial⟩⟩⟩⟩ ⟨⟨rfl, (show 0 < 3 by decide), (by intro v_ hv_; simp at hv_; rcases hv_ with rfl | rfl <;> rfl)⟩, ⟨⟨rfl, (show 1 < 3 by decide), (by intro v_ hv_; simp at hv_; rcases hv_ with rfl | rfl <;> rfl)⟩, ⟨⟨rfl, (show 2 < 3 by decide), (by intro v_ hv_; simp at hv_; rcases hv_ with rfl | rfl <;> rfl)⟩, trivial⟩⟩⟩))
  · intro u hok
    show VCode Try.prog 0 _ 3 (sl [(3, .ptr 0 (0)), (4, .ptr 1 (0)), (5, .ptr 2 (0)), (13, vB (true))]) (en [(0, ⟨2, [vB (n), vS (A)], true⟩), (1, ⟨2, [vB (m), vS (B)], true⟩), (2, ⟨2, [vB (k), vS (C)], true⟩)]) _
    refine VCode.seq ?_
    refine VCode.region ?_
    refine VList.go0 (n' := 4) rfl rfl (.loadS _ _ _ _ _ _ rfl rfl P_agg24 P_sz24 (Nat.le_of_ble_eq_true rfl)) rfl ?_
    refine VList.go0 (n' := 5) rfl rfl (.loadS _ _ _ _ _ _ rfl rfl P_agg24 P_sz24 (Nat.le_of_ble_eq_true rfl)) rfl ?_
    refine VList.go0 (n' := 6) rfl rfl (Eff.callV0 rfl (ress_cons rfl (ress_cons rfl ress_nil)) (f29 _ _ _ _ (by first | assumption | with_reducible exact len_gL' _ _ | with_reducible exact len_zL' _) (by first | assumption | with_reducible exact len_gL' _ _ | with_reducible exact len_zL' _) (by first | assumption | with_reducible exact ok32_gL _ _ | with_reducible exact ok32_zL _) (by first | assumption | with_reducible exact ok32_gL _ _ | with_reducible exact ok32_zL _)) rfl) rfl ?_
    refine VList.go0 (n' := 7) rfl rfl (.move _ _ rfl) rfl ?_
    refine VList.go0 (n' := 8) rfl rfl (.extract _ _ _ _ rfl rfl) rfl ?_
    refine VList.go0 (n' := 9) rfl rfl (.extract _ _ _ _ rfl rfl) rfl ?_
    refine VList.go1 (n' := 10) rfl rfl (.alloc _ _ P_zero24 (List.cons_ne_nil _ _)) rfl ?_
    refine VList.goS (n' := 11) rfl rfl (.store _ _ _ _ _ _ _ rfl rfl rfl rfl P_sz24 (Nat.le_of_ble_eq_true rfl) rfl) rfl ?_
    refine VList.go0 (n' := 12) rfl rfl (.assign _ _ rfl) rfl ?_
    refine VList.nil (Then.go ?_)
    refine VCode.seq ?_
    refine VCode.region ?_
    refine VList.go0 (n' := 13) rfl rfl (.loadS _ _ _ _ _ _ rfl rfl P_agg24 P_sz24 (Nat.le_of_ble_eq_true rfl)) rfl ?_
    refine VList.go0 (n' := 14) rfl rfl (.loadS _ _ _ _ _ _ rfl rfl P_agg24 P_sz24 (Nat.le_of_ble_eq_true rfl)) rfl ?_
    refine VList.go0 (n' := 15) rfl rfl (Eff.callV0 rfl (ress_cons rfl (ress_cons rfl ress_nil)) (f29 _ _ _ _ (by first | assumption | with_reducible exact len_gL' _ _ | with_reducible exact len_zL' _) (by first | assumption | with_reducible exact len_gL' _ _ | with_reducible exact len_zL' _) (by first | assumption | with_reducible exact ok32_gL _ _ | with_reducible exact ok32_zL _) (by first | assumption | with_reducible exact ok32_gL _ _ | with_reducible exact ok32_zL _)) rfl) rfl ?_
    refine VList.go0 (n' := 16) rfl rfl (.move _ _ rfl) rfl ?_
    refine VList.go0 (n' := 17) rfl rfl (.extract _ _ _ _ rfl rfl) rfl ?_
    refine VList.go0 (n' := 18) rfl rfl (.extract _ _ _ _ rfl rfl) rfl ?_
    refine VList.goS (n' := 19) rfl rfl (.store _ _ _ _ _ _ _ rfl rfl rfl rfl P_sz24 (Nat.le_of_ble_eq_true rfl) rfl) rfl ?_
    refine VList.go0 (n' := 20) rfl rfl (.assign _ _ rfl) rfl ?_
    refine VList.nil (Then.go ?_)
    refine VCode.seq ?_
    refine VCode.region ?_
    refine VList.go0 (n' := 21) rfl rfl (.loadS _ _ _ _ _ _ rfl rfl P_agg24 P_sz24 (Nat.le_of_ble_eq_true rfl)) rfl ?_
    refine VList.go0 (n' := 22) rfl rfl (.loadS _ _ _ _ _ _ rfl rfl P_agg24 P_sz24 (Nat.le_of_ble_eq_true rfl)) rfl ?_
    refine VList.go0 (n' := 23) rfl rfl (Eff.callV0 rfl (ress_cons rfl (ress_cons rfl ress_nil)) (f29 _ _ _ _ (by first | assumption | with_reducible exact len_gL' _ _ | with_reducible exact len_zL' _) (by first | assumption | with_reducible exact len_gL' _ _ | with_reducible exact len_zL' _) (by first | assumption | with_reducible exact ok32_gL _ _ | with_reducible exact ok32_zL _) (by first | assumption | with_reducible exact ok32_gL _ _ | with_reducible exact ok32_zL _)) rfl) rfl ?_
    refine VList.go0 (n' := 24) rfl rfl (.move _ _ rfl) rfl ?_
    refine VList.go0 (n' := 25) rfl rfl (.extract _ _ _ _ rfl rfl) rfl ?_
    refine VList.go0 (n' := 26) rfl rfl (.extract _ _ _ _ rfl rfl) rfl ?_
    refine VList.go1 (n' := 27) rfl rfl (.alloc _ _ P_zero24 (List.cons_ne_nil _ _)) rfl ?_
    refine VList.goS (n' := 28) rfl rfl (.store _ _ _ _ _ _ _ rfl rfl rfl rfl P_sz24 (Nat.le_of_ble_eq_true rfl) rfl) rfl ?_
    refine VList.go0 (n' := 29) rfl rfl (.assign _ _ rfl) rfl ?_
    refine VList.nil (Then.go ?_)
    refine VCode.seq ?_
    refine VCode.region ?_
    refine VList.go0 (n' := 30) rfl rfl (.loadS _ _ _ _ _ _ rfl rfl P_agg24 P_sz24 (Nat.le_of_ble_eq_true rfl)) rfl ?_
    refine VList.go0 (n' := 31) rfl rfl (.loadS _ _ _ _ _ _ rfl rfl P_agg24 P_sz24 (Nat.le_of_ble_eq_true rfl)) rfl ?_
    refine VList.go0 (n' := 32) rfl rfl (Eff.callV0 rfl (ress_cons rfl (ress_cons rfl ress_nil)) (f29 _ _ _ _ (by first | assumption | with_reducible exact len_gL' _ _ | with_reducible exact len_zL' _) (by first | assumption | with_reducible exact len_gL' _ _ | with_reducible exact len_zL' _) (by first | assumption | with_reducible exact ok32_gL _ _ | with_reducible exact ok32_zL _) (by first | assumption | with_reducible exact ok32_gL _ _ | with_reducible exact ok32_zL _)) rfl) rfl ?_
    refine VList.go0 (n' := 33) rfl rfl (.move _ _ rfl) rfl ?_
    refine VList.go0 (n' := 34) rfl rfl (.extract _ _ _ _ rfl rfl) rfl ?_
    refine VList.go0 (n' := 35) rfl rfl (.extract _ _ _ _ rfl rfl) rfl ?_
    refine VList.goS (n' := 36) rfl rfl (.store _ _ _ _ _ _ _ rfl rfl rfl rfl P_sz24 (Nat.le_of_ble_eq_true rfl) rfl) rfl ?_
    refine VList.go0 (n' := 37) rfl rfl (.assign _ _ rfl) rfl ?_
    refine VList.nil (Then.go ?_)
    refine VCode.seq ?_
    refine VCode.region ?_
    refine VList.go0 (n' := 38) rfl rfl (.move _ _ rfl) rfl ?_
    refine VList.go0 (n' := 39) rfl rfl (.move _ _ rfl) rfl ?_
    refine VList.go0 (n' := 40) rfl rfl (.move _ _ rfl) rfl ?_
    refine VList.go0 (n' := 41) rfl rfl (.bin _ _ _ _ _ _ _ _ rfl rfl rfl) rfl ?_
    refine VList.go0 (n' := 42) rfl rfl (.move _ _ rfl) rfl ?_
    refine VList.split (d := 91) _ rfl (fun hc5 => ?_) (fun hc5 => ?_)
    · replace hc5 := bne_iff_ne.1 hc5
      refine VList.skip (n' := 43) rfl rfl rfl ?_
      refine VList.skip (n' := 44) rfl rfl rfl ?_
      refine VList.go0 (n' := 45) rfl rfl (.pick _ _ _ _ _ rfl rfl) rfl ?_
      refine VList.go0 (n' := 46) rfl rfl (.move _ _ rfl) rfl ?_
      refine VList.skip (n' := 47) rfl rfl rfl ?_
      refine VList.skip (n' := 48) rfl rfl rfl ?_
      refine VList.go0 (n' := 49) rfl rfl (.pick _ _ _ _ _ rfl rfl) rfl ?_
      refine VList.go0 (n' := 50) rfl rfl (.move _ _ rfl) rfl ?_
      refine VList.skip (n' := 51) rfl rfl rfl ?_
      refine VList.skip (n' := 52) rfl rfl rfl ?_
      refine VList.go0 (n' := 53) rfl rfl (.pick _ _ _ _ _ rfl rfl) rfl ?_
      refine VList.go0 (n' := 54) rfl rfl (.move _ _ rfl) rfl ?_
      refine VList.skip (n' := 55) rfl rfl rfl ?_
      refine VList.skip (n' := 56) rfl rfl rfl ?_
      refine VList.skip (n' := 57) rfl rfl rfl ?_
      refine VList.go0 (n' := 58) rfl rfl (.pick _ _ _ _ _ rfl rfl) rfl ?_
      refine VList.go0 (n' := 59) rfl rfl (.pick _ _ _ _ _ rfl rfl) rfl ?_
      refine VList.go0 (n' := 60) rfl rfl (.assign _ _ rfl) rfl ?_
      refine VList.nil (Then.go ?_)
      exact VCode.ret (⟨trivial, [boolB (true)], (resVars_cons (resVar_tmp rfl rfl) resVars_nil), rfl⟩)
    · replace hc5 := bne_eq_false_iff_eq.1 hc5
      refine VList.go0 (n' := 43) rfl rfl (.move _ _ rfl) rfl ?_
      refine VList.go0 (n' := 44) rfl rfl (.bin _ _ _ _ _ _ _ _ rfl rfl rfl) rfl ?_
      refine VList.go0 (n' := 45) rfl rfl (.pick _ _ _ _ _ rfl rfl) rfl ?_
      refine VList.go0 (n' := 46) rfl rfl (.move _ _ rfl) rfl ?_
      refine VList.split (d := 95) _ rfl (fun hc6 => ?_) (fun hc6 => ?_)
      · replace hc6 := bne_iff_ne.1 hc6
        refine VList.skip (n' := 47) rfl rfl rfl ?_
        refine VList.skip (n' := 48) rfl rfl rfl ?_
        refine VList.go0 (n' := 49) rfl rfl (.pick _ _ _ _ _ rfl rfl) rfl ?_
        refine VList.go0 (n' := 50) rfl rfl (.move _ _ rfl) rfl ?_
        refine VList.skip (n' := 51) rfl rfl rfl ?_
        refine VList.skip (n' := 52) rfl rfl rfl ?_
        refine VList.go0 (n' := 53) rfl rfl (.pick _ _ _ _ _ rfl rfl) rfl ?_
        refine VList.go0 (n' := 54) rfl rfl (.move _ _ rfl) rfl ?_
        refine VList.skip (n' := 55) rfl rfl rfl ?_
        refine VList.skip (n' := 56) rfl rfl rfl ?_
        refine VList.skip (n' := 57) rfl rfl rfl ?_
        refine VList.go0 (n' := 58) rfl rfl (.pick _ _ _ _ _ rfl rfl) rfl ?_
        refine VList.go0 (n' := 59) rfl rfl (.pick _ _ _ _ _ rfl rfl) rfl ?_
        refine VList.go0 (n' := 60) rfl rfl (.assign _ _ rfl) rfl ?_
        refine VList.nil (Then.go ?_)
        exact VCode.ret (⟨trivial, [boolB (true)], (resVars_cons (resVar_tmp rfl rfl) resVars_nil), rfl⟩)
      · replace hc6 := bne_eq_false_iff_eq.1 hc6
        refine VList.go0 (n' := 47) rfl rfl (.move _ _ rfl) rfl ?_
        refine VList.go0 (n' := 48) rfl rfl (.bin _ _ _ _ _ _ _ _ rfl rfl rfl) rfl ?_
        refine VList.go0 (n' := 49) rfl rfl (.pick _ _ _ _ _ rfl rfl) rfl ?_
        refine VList.go0 (n' := 50) rfl rfl (.move _ _ rfl) rfl ?_
        refine VList.split (d := 99) _ rfl (fun hc7 => ?_) (fun hc7 => ?_)
        · replace hc7 := bne_iff_ne.1 hc7
          refine VList.skip (n' := 51) rfl rfl rfl ?_
          refine VList.skip (n' := 52) rfl rfl rfl ?_
          refine VList.go0 (n' := 53) rfl rfl (.pick _ _ _ _ _ rfl rfl) rfl ?_
          refine VList.go0 (n' := 54) rfl rfl (.move _ _ rfl) rfl ?_
          refine VList.skip (n' := 55) rfl rfl rfl ?_
          refine VList.skip (n' := 56) rfl rfl rfl ?_
          refine VList.skip (n' := 57) rfl rfl rfl ?_
          refine VList.go0 (n' := 58) rfl rfl (.pick _ _ _ _ _ rfl rfl) rfl ?_
          refine VList.go0 (n' := 59) rfl rfl (.pick _ _ _ _ _ rfl rfl) rfl ?_
          refine VList.go0 (n' := 60) rfl rfl (.assign _ _ rfl) rfl ?_
          refine VList.nil (Then.go ?_)
          exact VCode.ret (⟨trivial, [boolB (true)], (resVars_cons (resVar_tmp rfl rfl) resVars_nil), rfl⟩)
        · replace hc7 := bne_eq_false_iff_eq.1 hc7
          refine VList.go0 (n' := 51) rfl rfl (.move _ _ rfl) rfl ?_
          refine VList.go0 (n' := 52) rfl rfl (.bin _ _ _ _ _ _ _ _ rfl rfl rfl) rfl ?_
          refine VList.go0 (n' := 53) rfl rfl (.pick _ _ _ _ _ rfl rfl) rfl ?_
          refine VList.go0 (n' := 54) rfl rfl (.move _ _ rfl) rfl ?_
          refine VList.split (d := 103) _ rfl (fun hc8 => ?_) (fun hc8 => ?_)
          · replace hc8 := bne_iff_ne.1 hc8
            refine VList.skip (n' := 55) rfl rfl rfl ?_
            refine VList.skip (n' := 56) rfl rfl rfl ?_
            refine VList.skip (n' := 57) rfl rfl rfl ?_
            refine VList.go0 (n' := 58) rfl rfl (.pick _ _ _ _ _ rfl rfl) rfl ?_
            refine VList.go0 (n' := 59) rfl rfl (.pick _ _ _ _ _ rfl rfl) rfl ?_
            refine VList.go0 (n' := 60) rfl rfl (.assign _ _ rfl) rfl ?_
            refine VList.nil (Then.go ?_)
            exact VCode.ret (⟨trivial, [boolB (true)], (resVars_cons (resVar_tmp rfl rfl) resVars_nil), rfl⟩)
          · replace hc8 := bne_eq_false_iff_eq.1 hc8
            refine VList.go0 (n' := 55) rfl rfl (.loadS _ _ _ _ _ _ rfl rfl P_agg24 P_sz24 (Nat.le_of_ble_eq_true rfl)) rfl ?_
            refine VList.go0 (n' := 56) rfl rfl (.loadS _ _ _ _ _ _ rfl rfl P_agg24 P_sz24 (Nat.le_of_ble_eq_true rfl)) rfl ?_
            refine VList.go0 (n' := 57) rfl rfl (Eff.castB (show (sameB (gN (validB (gN (validB (n) (A) && validB (m) (B)) (zOf (n) (A) * zOf (m) (B))) (gL (validB (n) (A) && validB (m) (B)) (zOf (n) (A) * zOf (m) (B))) && validB (k) (C)) (zOf (gN (validB (n) (A) && validB (m) (B)) (zOf (n) (A) * zOf (m) (B))) (gL (validB (n) (A) && validB (m) (B)) (zOf (n) (A) * zOf (m) (B))) * zOf (k) (C))) (gL (validB (gN (validB (n) (A) && validB (m) (B)) (zOf (n) (A) * zOf (m) (B))) (gL (validB (n) (A) && validB (m) (B)) (zOf (n) (A) * zOf (m) (B))) && validB (k) (C)) (zOf (gN (validB (n) (A) && validB (m) (B)) (zOf (n) (A) * zOf (m) (B))) (gL (validB (n) (A) && validB (m) (B)) (zOf (n) (A) * zOf (m) (B))) * zOf (k) (C))) (gN (validB (n) (A) && validB (gN (validB (m) (B) && validB (k) (C)) (zOf (m) (B) * zOf (k) (C))) (gL (validB (m) (B) && validB (k) (C)) (zOf (m) (B) * zOf (k) (C)))) (zOf (n) (A) * zOf (gN (validB (m) (B) && validB (k) (C)) (zOf (m) (B) * zOf (k) (C))) (gL (validB (m) (B) && validB (k) (C)) (zOf (m) (B) * zOf (k) (C))))) (gL (validB (n) (A) && validB (gN (validB (m) (B) && validB (k) (C)) (zOf (m) (B) * zOf (k) (C))) (gL (validB (m) (B) && validB (k) (C)) (zOf (m) (B) * zOf (k) (C)))) (zOf (n) (A) * zOf (gN (validB (m) (B) && validB (k) (C)) (zOf (m) (B) * zOf (k) (C))) (gL (validB (m) (B) && validB (k) (C)) (zOf (m) (B) * zOf (k) (C)))))) = true from ring_mul (by assumption) (by assumption) (by assumption) (by assumption)) (.callF _ _ _ _ _ _ rfl (ress_cons rfl (ress_cons rfl ress_nil)) (f21 _ _ _ _ (by first | assumption | with_reducible exact len_gL' _ _ | with_reducible exact len_zL' _) (by first | assumption | with_reducible exact len_gL' _ _ | with_reducible exact len_zL' _)) rfl)) rfl ?_
            refine VList.go0 (n' := 58) rfl rfl (.pick _ _ _ _ _ rfl rfl) rfl ?_
            refine VList.go0 (n' := 59) rfl rfl (.pick _ _ _ _ _ rfl rfl) rfl ?_
            refine VList.go0 (n' := 60) rfl rfl (.assign _ _ rfl) rfl ?_
            refine VList.nil (Then.go ?_)
            exact VCode.ret (⟨trivial, [boolB (true)], (resVars_cons (resVar_tmp rfl rfl) resVars_nil), rfl⟩)
theorem f43 (n : Bool) (A : List Int) (m : Bool) (B : List Int) (k : Bool) (C : List Int) (hA : A.length ≤ 9223372036854775807) (hB : B.length ≤ 9223372036854775807) (hC : C.length ≤ 9223372036854775807) (oA : ok32 A) (oB : ok32 B) (oC : ok32 C) : VF Try.prog 43 [.agg [boolB (n), u32S (A)], .agg [boolB (m), u32S (B)], .agg [boolB (k), u32S (C)]] (boolB true) := by
  refine VF_of P_mixed Try.func43 rfl rfl (by kernel_rfl) ?_
  refine VCode.seq ?_
  refine VCode.region ?_
  refine VList.go1 (n' := 1) rfl rfl (.box _ _ _ rfl (List.cons_ne_nil _ _) rfl) rfl ?_
  refine VList.go1 (n' := 2) rfl rfl (.box _ _ _ rfl (List.cons_ne_nil _ _) rfl) rfl ?_
  refine VList.go1 (n' := 3) rfl rfl (.box _ _ _ rfl (List.cons_ne_nil _ _) rfl) rfl ?_
  refine VList.go0 (n' := 4) rfl rfl (.assign _ _ rfl) rfl ?_
  refine VList.nil (Then.go ?_)
  refine VCode.seq ?_
  refine VCode.region ?_
  refine VList.go0 (n' := 5) rfl rfl (.loadS _ _ _ _ _ _ rfl rfl P_agg24 P_sz24 (Nat.le_of_ble_eq_true rfl)) rfl ?_
  refine VList.go0 (n' := 6) rfl rfl (.loadS _ _ _ _ _ _ rfl rfl P_agg24 P_sz24 (Nat.le_of_ble_eq_true rfl)) rfl ?_
  refine VList.go0 (n' := 7) rfl rfl (Eff.callV0 rfl (ress_cons rfl (ress_cons rfl ress_nil)) (f29 _ _ _ _ (by first | assumption | with_reducible exact len_gL' _ _ | with_reducible exact len_zL' _) (by first | assumption | with_reducible exact len_gL' _ _ | with_reducible exact len_zL' _) (by first | assumption | with_reducible exact ok32_gL _ _ | with_reducible exact ok32_zL _) (by first | assumption | with_reducible exact ok32_gL _ _ | with_reducible exact ok32_zL _)) rfl) rfl ?_
  refine VList.go0 (n' := 8) rfl rfl (.move _ _ rfl) rfl ?_
  refine VList.go0 (n' := 9) rfl rfl (.extract _ _ _ _ rfl rfl) rfl ?_
  refine VList.go0 (n' := 10) rfl rfl (.extract _ _ _ _ rfl rfl) rfl ?_
  refine VList.go1 (n' := 11) rfl rfl (.alloc _ _ P_zero24 (List.cons_ne_nil _ _)) rfl ?_
  refine VList.goS (n' := 12) rfl rfl (.store _ _ _ _ _ _ _ rfl rfl rfl rfl P_sz24 (Nat.le_of_ble_eq_true rfl) rfl) rfl ?_
  refine VList.go0 (n' := 13) rfl rfl (.assign _ _ rfl) rfl ?_
  refine VList.nil (Then.go ?_)
  refine VCode.seq ?_
  refine VCode.region ?_
  refine VList.go0 (n' := 14) rfl rfl (.loadS _ _ _ _ _ _ rfl rfl P_agg24 P_sz24 (Nat.le_of_ble_eq_true rfl)) rfl ?_
  refine VList.go0 (n' := 15) rfl rfl (.loadS _ _ _ _ _ _ rfl rfl P_agg24 P_sz24 (Nat.le_of_ble_eq_true rfl)) rfl ?_
  refine VList.go0 (n' := 16) rfl rfl (Eff.callV0 rfl (ress_cons rfl (ress_cons rfl ress_nil)) (f29 _ _ _ _ (by first | assumption | with_reducible exact len_gL' _ _ | with_reducible exact len_zL' _) (by first | assumption | with_reducible exact len_gL' _ _ | with_reducible exact len_zL' _) (by first | assumption | with_reducible exact ok32_gL _ _ | with_reducible exact ok32_zL _) (by first | assumption | with_reducible exact ok32_gL _ _ | with_reducible exact ok32_zL _)) rfl) rfl ?_
  refine VList.go0 (n' := 17) rfl rfl (.move _ _ rfl) rfl ?_
  refine VList.go0 (n' := 18) rfl rfl (.extract _ _ _ _ rfl rfl) rfl ?_
  refine VList.go0 (n' := 19) rfl rfl (.extract _ _ _ _ rfl rfl) rfl ?_
  refine VList.go1 (n' := 20) rfl rfl (.alloc _ _ P_zero24 (List.cons_ne_nil _ _)) rfl ?_
  refine VList.goS (n' := 21) rfl rfl (.store _ _ _ _ _ _ _ rfl rfl rfl rfl P_sz24 (Nat.le_of_ble_eq_true rfl) rfl) rfl ?_
  refine VList.go0 (n' := 22) rfl rfl (.assign _ _ rfl) rfl ?_
  refine VList.nil (Then.go ?_)
  refine VCode.seq ?_
  refine VCode.region ?_
  refine VList.go0 (n' := 23) rfl rfl (.loadS _ _ _ _ _ _ rfl rfl P_agg24 P_sz24 (Nat.le_of_ble_eq_true rfl)) rfl ?_
  refine VList.go0 (n' := 24) rfl rfl (.loadS _ _ _ _ _ _ rfl rfl P_agg24 P_sz24 (Nat.le_of_ble_eq_true rfl)) rfl ?_
  refine VList.go0 (n' := 25) rfl rfl (Eff.callV0 rfl (ress_cons rfl (ress_cons rfl ress_nil)) (f38 _ _ _ _ (by first | assumption | with_reducible exact len_gL' _ _ | with_reducible exact len_zL' _) (by first | assumption | with_reducible exact len_gL' _ _ | with_reducible exact len_zL' _) (by first | assumption | with_reducible exact ok32_gL _ _ | with_reducible exact ok32_zL _) (by first | assumption | with_reducible exact ok32_gL _ _ | with_reducible exact ok32_zL _)) rfl) rfl ?_
  refine VList.go0 (n' := 26) rfl rfl (.move _ _ rfl) rfl ?_
  refine VList.go0 (n' := 27) rfl rfl (.extract _ _ _ _ rfl rfl) rfl ?_
  refine VList.go0 (n' := 28) rfl rfl (.extract _ _ _ _ rfl rfl) rfl ?_
  refine VList.go1 (n' := 29) rfl rfl (.alloc _ _ P_zero24 (List.cons_ne_nil _ _)) rfl ?_
  refine VList.goS (n' := 30) rfl rfl (.store _ _ _ _ _ _ _ rfl rfl rfl rfl P_sz24 (Nat.le_of_ble_eq_true rfl) rfl) rfl ?_
  refine VList.go0 (n' := 31) rfl rfl (.assign _ _ rfl) rfl ?_
  refine VList.nil (Then.go ?_)
  refine VCode.seq ?_
  refine VCode.region ?_
  refine VList.go0 (n' := 32) rfl rfl (.loadS _ _ _ _ _ _ rfl rfl P_agg24 P_sz24 (Nat.le_of_ble_eq_true rfl)) rfl ?_
  refine VList.go0 (n' := 33) rfl rfl (.loadS _ _ _ _ _ _ rfl rfl P_agg24 P_sz24 (Nat.le_of_ble_eq_true rfl)) rfl ?_
  refine VList.go0 (n' := 34) rfl rfl (Eff.callV0 rfl (ress_cons rfl (ress_cons rfl ress_nil)) (f29 _ _ _ _ (by first | assumption | with_reducible exact len_gL' _ _ | with_reducible exact len_zL' _) (by first | assumption | with_reducible exact len_gL' _ _ | with_reducible exact len_zL' _) (by first | assumption | with_reducible exact ok32_gL _ _ | with_reducible exact ok32_zL _) (by first | assumption | with_reducible exact ok32_gL _ _ | with_reducible exact ok32_zL _)) rfl) rfl ?_
  refine VList.go0 (n' := 35) rfl rfl (.move _ _ rfl) rfl ?_
  refine VList.go0 (n' := 36) rfl rfl (.extract _ _ _ _ rfl rfl) rfl ?_
  refine VList.go0 (n' := 37) rfl rfl (.extract _ _ _ _ rfl rfl) rfl ?_
  refine VList.goS (n' := 38) rfl rfl (.store _ _ _ _ _ _ _ rfl rfl rfl rfl P_sz24 (Nat.le_of_ble_eq_true rfl) rfl) rfl ?_
  refine VList.go0 (n' := 39) rfl rfl (.assign _ _ rfl) rfl ?_
  refine VList.nil (Then.go ?_)
  refine VCode.seq ?_
  refine VCode.region ?_
  refine VList.go0 (n' := 40) rfl rfl (.loadS _ _ _ _ _ _ rfl rfl P_agg24 P_sz24 (Nat.le_of_ble_eq_true rfl)) rfl ?_
  refine VList.go0 (n' := 41) rfl rfl (.loadS _ _ _ _ _ _ rfl rfl P_agg24 P_sz24 (Nat.le_of_ble_eq_true rfl)) rfl ?_
  refine VList.go0 (n' := 42) rfl rfl (Eff.callV0 rfl (ress_cons rfl (ress_cons rfl ress_nil)) (f38 _ _ _ _ (by first | assumption | with_reducible exact len_gL' _ _ | with_reducible exact len_zL' _) (by first | assumption | with_reducible exact len_gL' _ _ | with_reducible exact len_zL' _) (by first | assumption | with_reducible exact ok32_gL _ _ | with_reducible exact ok32_zL _) (by first | assumption | with_reducible exact ok32_gL _ _ | with_reducible exact ok32_zL _)) rfl) rfl ?_
  refine VList.go0 (n' := 43) rfl rfl (.move _ _ rfl) rfl ?_
  refine VList.go0 (n' := 44) rfl rfl (.extract _ _ _ _ rfl rfl) rfl ?_
  refine VList.go0 (n' := 45) rfl rfl (.extract _ _ _ _ rfl rfl) rfl ?_
  refine VList.go1 (n' := 46) rfl rfl (.alloc _ _ P_zero24 (List.cons_ne_nil _ _)) rfl ?_
  refine VList.goS (n' := 47) rfl rfl (.store _ _ _ _ _ _ _ rfl rfl rfl rfl P_sz24 (Nat.le_of_ble_eq_true rfl) rfl) rfl ?_
  refine VList.go0 (n' := 48) rfl rfl (.assign _ _ rfl) rfl ?_
  refine VList.nil (Then.go ?_)
  refine VCode.seq ?_
  refine VCode.seq ?_
  refine VCode.region ?_
  refine VList.go0 (n' := 49) rfl rfl (.move _ _ rfl) rfl ?_
  refine VList.go0 (n' := 50) rfl rfl (.bin _ _ _ _ _ _ _ _ rfl rfl rfl) rfl ?_
  refine VList.go0 (n' := 51) rfl rfl (.move _ _ rfl) rfl ?_
  refine VList.split (d := 54) _ rfl (fun hc1 => ?_) (fun hc1 => ?_)
  · replace hc1 := bne_iff_ne.1 hc1
    refine VList.skip (n' := 52) rfl rfl rfl ?_
    refine VList.skip (n' := 53) rfl rfl rfl ?_
    refine VList.go0 (n' := 54) rfl rfl (.pick _ _ _ _ _ rfl rfl) rfl ?_
    refine VList.nil (Then.go ?_)
    refine VCode.cond _ rfl (fun _ => ?_) (fun h_ => Bool.noConfusion h_)
    refine VCode.seq ?_
    refine VCode.region ?_
    refine VList.go0 (n' := 55) rfl rfl (.assign _ _ rfl) rfl ?_
    refine VList.nil (Then.go ?_)
    exact VCode.ret (Then.ret (⟨trivial, [boolB (true)], (resVars_cons (resVar_tmp rfl rfl) resVars_nil), rfl⟩))
  · replace hc1 := bne_eq_false_iff_eq.1 hc1
    refine VList.go0 (n' := 52) rfl rfl (.move _ _ rfl) rfl ?_
    refine VList.go0 (n' := 53) rfl rfl (.bin _ _ _ _ _ _ _ _ rfl rfl rfl) rfl ?_
    refine VList.go0 (n' := 54) rfl rfl (.pick _ _ _ _ _ rfl rfl) rfl ?_
    refine VList.nil (Then.go ?_)
    refine VCode.cond _ rfl (fun hc2 => ?_) (fun hc2 => ?_)
    · replace hc2 := bne_iff_ne.1 hc2
      refine VCode.seq ?_
      refine VCode.region ?_
      refine VList.go0 (n' := 55) rfl rfl (.assign _ _ rfl) rfl ?_
      refine VList.nil (Then.go ?_)
      exact VCode.ret (Then.ret (⟨trivial, [boolB (true)], (resVars_cons (resVar_tmp rfl rfl) resVars_nil), rfl⟩))
    · replace hc2 := bne_eq_false_iff_eq.1 hc2
      refine VCode.skip (Then.go ?_)
      refine VCode.join (α := (Unit)) (fun (u : (Unit)) => (20, sl [(3, .ptr 0 (0)), (4, .ptr 1 (0)), (5, .ptr 2 (0)), (7, .ptr 10 (0)), (9, .ptr 19 (0)), (16, vB (true))], en [(0, ⟨2, [vB (n), vS (A)], true⟩), (1, ⟨2, [vB (m), vS (B)], true⟩), (2, ⟨2, [vB (k), vS (C)], true⟩), (10, ⟨2, [vB (gN (validB (n) (A) && validB (m) (B)) (zOf (n) (A) * zOf (m) (B))), vS (gL (validB (n) (A) && validB (m) (B)) (zOf (n) (A) * zOf (m) (B)))], true⟩), (19, ⟨2, [vB (gN (validB (n) (A) && validB (k) (C)) (zOf (n) (A) * zOf (k) (C))), vS (gL (validB (n) (A) && validB (k) (C)) (zOf (n) (A) * zOf (k) (C)))], true⟩)])) (fun (u : (Unit)) => True) ?_ ?_
      · skip
        refine VCode.region ?_
        refine VList.go0 (n' := 55) rfl rfl (.move _ _ rfl) rfl ?_
        refine VList.go0 (n' := 56) rfl rfl (.bin _ _ _ _ _ _ _ _ rfl rfl rfl) rfl ?_
        refine VList.go0 (n' := 57) rfl rfl (.move _ _ rfl) rfl ?_
        refine VList.split (d := 60) _ rfl (fun hc3 => ?_) (fun hc3 => ?_)
        · replace hc3 := bne_iff_ne.1 hc3
          refine VList.skip (n' := 58) rfl rfl rfl ?_
          refine VList.skip (n' := 59) rfl rfl rfl ?_
          refine VList.go0 (n' := 60) rfl rfl (.pick _ _ _ _ _ rfl rfl) rfl ?_
          refine VList.go0 (n' := 61) rfl rfl (.move _ _ rfl) rfl ?_
          refine VList.skip (n' := 62) rfl rfl rfl ?_
          refine VList.skip (n' := 63) rfl rfl rfl ?_
          refine VList.go0 (n' := 64) rfl rfl (.pick _ _ _ _ _ rfl rfl) rfl ?_
          refine VList.go0 (n' := 65) rfl rfl (.move _ _ rfl) rfl ?_
          refine VList.skip (n' := 66) rfl rfl rfl ?_
          refine VList.skip (n' := 67) rfl rfl rfl ?_
          refine VList.skip (n' := 68) rfl rfl rfl ?_
          refine VList.go0 (n' := 69) rfl rfl (.pick _ _ _ _ _ rfl rfl) rfl ?_
          refine VList.go0 (n' := 70) rfl rfl (.assign _ _ rfl) rfl ?_
          exact VList.nil (Joins.go (()) trivial (Weak.of (show 0 ≤ 20 by decide) ⟨⟨rfl, rfl⟩, ⟨⟨rfl, rfl⟩, ⟨⟨rfl, rfl⟩, ⟨⟨rfl, rfl⟩, ⟨⟨rfl, rfl⟩, ⟨⟨rfl, rfl⟩, trivial⟩⟩⟩⟩⟩⟩ ⟨⟨rfl, (show 0 < 20 by decide), (by intro v_ hv_; simp at hv_; rcases hv_ with rfl | rfl <;> rfl)⟩, ⟨⟨rfl, (show 1 < 20 by decide), (by intro v_ hv_; simp at hv_; rcases hv_ with rfl | rfl <;> rfl)⟩, ⟨⟨rfl, (show 2 < 20 by decide), (by intro v_ hv_; simp at hv_; rcases hv_ with rfl | rfl <;> rfl)⟩, ⟨⟨rfl, (show 10 < 20 by decide), (by intro v_ hv_; simp at hv_; rcases hv_ with rfl | rfl <;> rfl)⟩, ⟨⟨rfl, (show 19 < 20 by decide), (by intro v_ hv_; simp at hv_; rcases hv_ with rfl | rfl <;> rfl)⟩, trivial⟩⟩⟩⟩⟩))
        · replace hc3 := bne_eq_false_iff_eq.1 hc3
          refine VList.go0 (n' := 58) rfl rfl (.move _ _ rfl) rfl ?_
          refine VList.go0 (n' := 59) rfl rfl (.bin _ _ _ _ _ _ _ _ rfl rfl rfl) rfl ?_
          refine VList.go0 (n' := 60) rfl rfl (.pick _ _ _ _ _ rfl rfl) rfl ?_
          refine VList.go0 (n' := 61) rfl rfl (.move _ _ rfl) rfl ?_
          refine VList.split (d := 64) _ rfl (fun hc4 => ?_) (fun hc4 => ?_)
          · replace hc4 := bne_iff_ne.1 hc4
            refine VList.skip (n' := 62) rfl rfl rfl ?_
            refine VList.skip (n' := 63) rfl rfl rfl ?_
            refine VList.go0 (n' := 64) rfl rfl (.pick _ _ _ _ _ rfl rfl) rfl ?_
            refine VList.go0 (n' := 65) rfl rfl (.move _ _ rfl) rfl ?_
            refine VList.skip (n' := 66) rfl rfl rfl ?_
            refine VList.skip (n' := 67) rfl rfl rfl ?_
            refine VList.skip (n' := 68) rfl rfl rfl ?_
            refine VList.go0 (n' := 69) rfl rfl (.pick _ _ _ _ _ rfl rfl) rfl ?_
            refine VList.go0 (n' := 70) rfl rfl (.assign _ _ rfl) rfl ?_
            exact VList.nil (Joins.go (()) trivial (Weak.of (show 0 ≤ 20 by decide) ⟨⟨rfl, rfl⟩, ⟨⟨rfl, rfl⟩, ⟨⟨rfl, rfl⟩, ⟨⟨rfl, rfl⟩, ⟨⟨rfl, rfl⟩, ⟨⟨rfl, rfl⟩, trivial⟩⟩⟩⟩⟩⟩ ⟨⟨rfl, (show 0 < 20 by decide), (by intro v_ hv_; simp at hv_; rcases hv_ with rfl | rfl <;> rfl)⟩, ⟨⟨rfl, (show 1 < 20 by decide), (by intro v_ hv_; simp at hv_; rcases hv_ with rfl | rfl <;> rfl)⟩, ⟨⟨rfl, (show 2 < 20 by decide), (by intro v_ hv_; simp at hv_; rcases hv_ with rfl | rfl <;> rfl)⟩, ⟨⟨rfl, (show 10 < 20 by decide), (by intro v_ hv_; simp at hv_; rcases hv_ with rfl | rfl <;> rfl)⟩, ⟨⟨rfl, (show 19 < 20 by decide), (by intro v_ hv_; simp at hv_; rcases hv_ with rfl | rfl <;> rfl)⟩, trivial⟩⟩⟩⟩⟩))
          · replace hc4 := bne_eq_false_iff_eq.1 hc4
            refine VList.go0 (n' := 62) rfl rfl (.move _ _ rfl) rfl ?_
            refine VList.go0 (n' := 63) rfl rfl (.bin _ _ _ _ _ _ _ _ rfl rfl rfl) rfl ?_
            refine VList.go0 (n' := 64) rfl rfl (.pick _ _ _ _ _ rfl rfl) rfl ?_
            refine VList.go0 (n' := 65) rfl rfl (.move _ _ rfl) rfl ?_
            refine VList.split (d := 68) _ rfl (fun hc5 => ?_) (fun hc5 => ?_)
            · replace hc5 := bne_iff_ne.1 hc5
              refine VList.skip (n' := 66) rfl rfl rfl ?_
              refine VList.skip (n' := 67) rfl rfl rfl ?_
              refine VList.skip (n' := 68) rfl rfl rfl ?_
              refine VList.go0 (n' := 69) rfl rfl (.pick _ _ _ _ _ rfl rfl) rfl ?_
              refine VList.go0 (n' := 70) rfl rfl (.assign _ _ rfl) rfl ?_
              exact VList.nil (Joins.go (()) trivial (Weak.of (show 0 ≤ 20 by decide) ⟨⟨rfl, rfl⟩, ⟨⟨rfl, rfl⟩, ⟨⟨rfl, rfl⟩, ⟨⟨rfl, rfl⟩, ⟨⟨rfl, rfl⟩, ⟨⟨rfl, rfl⟩, trivial⟩⟩⟩⟩⟩⟩ ⟨⟨rfl, (show 0 < 20 by decide), (by intro v_ hv_; simp at hv_; rcases hv_ with rfl | rfl <;> rfl)⟩, ⟨⟨rfl, (show 1 < 20 by decide), (by intro v_ hv_; simp at hv_; rcases hv_ with rfl | rfl <;> rfl)⟩, ⟨⟨rfl, (show 2 < 20 by decide), (by intro v_ hv_; simp at hv_; rcases hv_ with rfl | rfl <;> rfl)⟩, ⟨⟨rfl, (show 10 < 20 by decide), (by intro v_ hv_; simp at hv_; rcases hv_ with rfl | rfl <;> rfl)⟩, ⟨⟨rfl, (show 19 < 20 by decide), (by intro v_ hv_; simp at hv_; rcases hv_ with rfl | rfl <;> rfl)⟩, trivial⟩⟩⟩⟩⟩))
            · replace hc5 := bne_eq_false_iff_eq.1 hc5
              refine VList.go0 (n' := 66) rfl rfl (.loadS _ _ _ _ _ _ rfl rfl P_agg24 P_sz24 (Nat.le_of_ble_eq_true rfl)) rfl ?_
              refine VList.go0 (n' := 67) rfl rfl (.loadS _ _ _ _ _ _ rfl rfl P_agg24 P_sz24 (Nat.le_of_ble_eq_true rfl)) rfl ?_
              refine VList.go0 (n' := 68) rfl rfl (Eff.castB (show (sameB (gN (validB (n) (A) && validB (gN (validB (m) (B) && validB (k) (C)) (zOf (m) (B) + zOf (k) (C))) (gL (validB (m) (B) && validB (k) (C)) (zOf (m) (B) + zOf (k) (C)))) (zOf (n) (A) * zOf (gN (validB (m) (B) && validB (k) (C)) (zOf (m) (B) + zOf (k) (C))) (gL (validB (m) (B) && validB (k) (C)) (zOf (m) (B) + zOf (k) (C))))) (gL (validB (n) (A) && validB (gN (validB (m) (B) && validB (k) (C)) (zOf (m) (B) + zOf (k) (C))) (gL (validB (m) (B) && validB (k) (C)) (zOf (m) (B) + zOf (k) (C)))) (zOf (n) (A) * zOf (gN (validB (m) (B) && validB (k) (C)) (zOf (m) (B) + zOf (k) (C))) (gL (validB (m) (B) && validB (k) (C)) (zOf (m) (B) + zOf (k) (C))))) (gN (validB (gN (validB (n) (A) && validB (m) (B)) (zOf (n) (A) * zOf (m) (B))) (gL (validB (n) (A) && validB (m) (B)) (zOf (n) (A) * zOf (m) (B))) && validB (gN (validB (n) (A) && validB (k) (C)) (zOf (n) (A) * zOf (k) (C))) (gL (validB (n) (A) && validB (k) (C)) (zOf (n) (A) * zOf (k) (C)))) (zOf (gN (validB (n) (A) && validB (m) (B)) (zOf (n) (A) * zOf (m) (B))) (gL (validB (n) (A) && validB (m) (B)) (zOf (n) (A) * zOf (m) (B))) + zOf (gN (validB (n) (A) && validB (k) (C)) (zOf (n) (A) * zOf (k) (C))) (gL (validB (n) (A) && validB (k) (C)) (zOf (n) (A) * zOf (k) (C))))) (gL (validB (gN (validB (n) (A) && validB (m) (B)) (zOf (n) (A) * zOf (m) (B))) (gL (validB (n) (A) && validB (m) (B)) (zOf (n) (A) * zOf (m) (B))) && validB (gN (validB (n) (A) && validB (k) (C)) (zOf (n) (A) * zOf (k) (C))) (gL (validB (n) (A) && validB (k) (C)) (zOf (n) (A) * zOf (k) (C)))) (zOf (gN (validB (n) (A) && validB (m) (B)) (zOf (n) (A) * zOf (m) (B))) (gL (validB (n) (A) && validB (m) (B)) (zOf (n) (A) * zOf (m) (B))) + zOf (gN (validB (n) (A) && validB (k) (C)) (zOf (n) (A) * zOf (k) (C))) (gL (validB (n) (A) && validB (k) (C)) (zOf (n) (A) * zOf (k) (C)))))) = true from ring_dist (by assumption) (by assumption) (by assumption) (by assumption) (by assumption)) (.callF _ _ _ _ _ _ rfl (ress_cons rfl (ress_cons rfl ress_nil)) (f21 _ _ _ _ (by first | assumption | with_reducible exact len_gL' _ _ | with_reducible exact len_zL' _) (by first | assumption | with_reducible exact len_gL' _ _ | with_reducible exact len_zL' _)) rfl)) rfl ?_
              refine VList.go0 (n' := 69) rfl rfl (.pick _ _ _ _ _ rfl rfl) rfl ?_
              refine VList.go0 (n' := 70) rfl rfl (.assign _ _ rfl) rfl ?_
              exact VList.nil (Joins.go (()) trivial (Weak.of (show 0 ≤ 20 by decide) ⟨⟨rfl, rfl⟩, ⟨⟨rfl, rfl⟩, ⟨⟨rfl, rfl⟩, ⟨⟨rfl, rfl⟩, ⟨⟨rfl, rfl⟩, ⟨⟨rfl, rfl⟩, trivial⟩⟩⟩⟩⟩⟩ ⟨⟨rfl, (show 0 < 20 by decide), (by intro v_ hv_; simp at hv_; rcases hv_ with rfl | rfl <;> rfl)⟩, ⟨⟨rfl, (show 1 < 20 by decide), (by intro v_ hv_; simp at hv_; rcases hv_ with rfl | rfl <;> rfl)⟩, ⟨⟨rfl, (show 2 < 20 by decide), (by intro v_ hv_; simp at hv_; rcases hv_ with rfl | rfl <;> rfl)⟩, ⟨⟨rfl, (show 10 < 20 by decide), (by intro v_ hv_; simp at hv_; rcases hv_ with rfl | rfl <;> rfl)⟩, ⟨⟨rfl, (show 19 < 20 by decide), (by intro v_ hv_; simp at hv_; rcases hv_ with rfl | rfl <;> rfl)⟩, trivial⟩⟩⟩⟩⟩))
      · intro u hok
        show VCode Try.prog 0 _ 20 (sl [(3, .ptr 0 (0)), (4, .ptr 1 (0)), (5, .ptr 2 (0)), (7, .ptr 10 (0)), (9, .ptr 19 (0)), (16, vB (true))]) (en [(0, ⟨2, [vB (n), vS (A)], true⟩), (1, ⟨2, [vB (m), vS (B)], true⟩), (2, ⟨2, [vB (k), vS (C)], true⟩), (10, ⟨2, [vB (gN (validB (n) (A) && validB (m) (B)) (zOf (n) (A) * zOf (m) (B))), vS (gL (validB (n) (A) && validB (m) (B)) (zOf (n) (A) * zOf (m) (B)))], true⟩), (19, ⟨2, [vB (gN (validB (n) (A) && validB (k) (C)) (zOf (n) (A) * zOf (k) (C))), vS (gL (validB (n) (A) && validB (k) (C)) (zOf (n) (A) * zOf (k) (C)))], true⟩)]) _
        refine VCode.seq ?_
        refine VCode.region ?_
        refine VList.go0 (n' := 21) rfl rfl (.loadS _ _ _ _ _ _ rfl rfl P_agg24 P_sz24 (Nat.le_of_ble_eq_true rfl)) rfl ?_
        refine VList.go0 (n' := 22) rfl rfl (.loadS _ _ _ _ _ _ rfl rfl P_agg24 P_sz24 (Nat.le_of_ble_eq_true rfl)) rfl ?_
        refine VList.go0 (n' := 23) rfl rfl (Eff.callV0 rfl (ress_cons rfl (ress_cons rfl ress_nil)) (f40 _ _ _ _ (by first | assumption | with_reducible exact len_gL' _ _ | with_reducible exact len_zL' _) (by first | assumption | with_reducible exact len_gL' _ _ | with_reducible exact len_zL' _) (by first | assumption | with_reducible exact ok32_gL _ _ | with_reducible exact ok32_zL _) (by first | assumption | with_reducible exact ok32_gL _ _ | with_reducible exact ok32_zL _)) rfl) rfl ?_
        refine VList.go0 (n' := 24) rfl rfl (.move _ _ rfl) rfl ?_
        refine VList.go0 (n' := 25) rfl rfl (.extract _ _ _ _ rfl rfl) rfl ?_
        refine VList.go0 (n' := 26) rfl rfl (.extract _ _ _ _ rfl rfl) rfl ?_
        refine VList.go1 (n' := 27) rfl rfl (.alloc _ _ P_zero24 (List.cons_ne_nil _ _)) rfl ?_
        refine VList.goS (n' := 28) rfl rfl (.store _ _ _ _ _ _ _ rfl rfl rfl rfl P_sz24 (Nat.le_of_ble_eq_true rfl) rfl) rfl ?_
        refine VList.go0 (n' := 29) rfl rfl (.assign _ _ rfl) rfl ?_
        refine VList.nil (Then.go ?_)
        refine VCode.seq ?_
        refine VCode.region ?_
        refine VList.go0 (n' := 30) rfl rfl (.loadS _ _ _ _ _ _ rfl rfl P_agg24 P_sz24 (Nat.le_of_ble_eq_true rfl)) rfl ?_
        refine VList.go0 (n' := 31) rfl rfl (.loadS _ _ _ _ _ _ rfl rfl P_agg24 P_sz24 (Nat.le_of_ble_eq_true rfl)) rfl ?_
        refine VList.go0 (n' := 32) rfl rfl (Eff.callV0 rfl (ress_cons rfl (ress_cons rfl ress_nil)) (f29 _ _ _ _ (by first | assumption | with_reducible exact len_gL' _ _ | with_reducible exact len_zL' _) (by first | assumption | with_reducible exact len_gL' _ _ | with_reducible exact len_zL' _) (by first | assumption | with_reducible exact ok32_gL _ _ | with_reducible exact ok32_zL _) (by first | assumption | with_reducible exact ok32_gL _ _ | with_reducible exact ok32_zL _)) rfl) rfl ?_
        refine VList.go0 (n' := 33) rfl rfl (.move _ _ rfl) rfl ?_
        refine VList.go0 (n' := 34) rfl rfl (.extract _ _ _ _ rfl rfl) rfl ?_
        refine VList.go0 (n' := 35) rfl rfl (.extract _ _ _ _ rfl rfl) rfl ?_
        refine VList.goS (n' := 36) rfl rfl (.store _ _ _ _ _ _ _ rfl rfl rfl rfl P_sz24 (Nat.le_of_ble_eq_true rfl) rfl) rfl ?_
        refine VList.go0 (n' := 37) rfl rfl (.assign _ _ rfl) rfl ?_
        refine VList.nil (Then.go ?_)
        refine VCode.seq ?_
        refine VCode.region ?_
        refine VList.go0 (n' := 38) rfl rfl (.loadS _ _ _ _ _ _ rfl rfl P_agg24 P_sz24 (Nat.le_of_ble_eq_true rfl)) rfl ?_
        refine VList.go0 (n' := 39) rfl rfl (.loadS _ _ _ _ _ _ rfl rfl P_agg24 P_sz24 (Nat.le_of_ble_eq_true rfl)) rfl ?_
        refine VList.go0 (n' := 40) rfl rfl (Eff.callV0 rfl (ress_cons rfl (ress_cons rfl ress_nil)) (f40 _ _ _ _ (by first | assumption | with_reducible exact len_gL' _ _ | with_reducible exact len_zL' _) (by first | assumption | with_reducible exact len_gL' _ _ | with_reducible exact len_zL' _) (by first | assumption | with_reducible exact ok32_gL _ _ | with_reducible exact ok32_zL _) (by first | assumption | with_reducible exact ok32_gL _ _ | with_reducible exact ok32_zL _)) rfl) rfl ?_
        refine VList.go0 (n' := 41) rfl rfl (.move _ _ rfl) rfl ?_
        refine VList.go0 (n' := 42) rfl rfl (.extract _ _ _ _ rfl rfl) rfl ?_
        refine VList.go0 (n' := 43) rfl rfl (.extract _ _ _ _ rfl rfl) rfl ?_
        refine VList.go1 (n' := 44) rfl rfl (.alloc _ _ P_zero24 (List.cons_ne_nil _ _)) rfl ?_
        refine VList.goS (n' := 45) rfl rfl (.store _ _ _ _ _ _ _ rfl rfl rfl rfl P_sz24 (Nat.le_of_ble_eq_true rfl) rfl) rfl ?_
        refine VList.go0 (n' := 46) rfl rfl (.assign _ _ rfl) rfl ?_
        refine VList.nil (Then.go ?_)
        refine VCode.seq ?_
        refine VCode.region ?_
        refine VList.go0 (n' := 47) rfl rfl (.move _ _ rfl) rfl ?_
        refine VList.go0 (n' := 48) rfl rfl (.move _ _ rfl) rfl ?_
        refine VList.go0 (n' := 49) rfl rfl (.move _ _ rfl) rfl ?_
        refine VList.go0 (n' := 50) rfl rfl (.bin _ _ _ _ _ _ _ _ rfl rfl rfl) rfl ?_
        refine VList.go0 (n' := 51) rfl rfl (.move _ _ rfl) rfl ?_
        refine VList.split (d := 95) _ rfl (fun hc6 => ?_) (fun hc6 => ?_)
        · replace hc6 := bne_iff_ne.1 hc6
          refine VList.skip (n' := 52) rfl rfl rfl ?_
          refine VList.skip (n' := 53) rfl rfl rfl ?_
          refine VList.go0 (n' := 54) rfl rfl (.pick _ _ _ _ _ rfl rfl) rfl ?_
          refine VList.go0 (n' := 55) rfl rfl (.move _ _ rfl) rfl ?_
          refine VList.skip (n' := 56) rfl rfl rfl ?_
          refine VList.skip (n' := 57) rfl rfl rfl ?_
          refine VList.go0 (n' := 58) rfl rfl (.pick _ _ _ _ _ rfl rfl) rfl ?_
          refine VList.go0 (n' := 59) rfl rfl (.move _ _ rfl) rfl ?_
          refine VList.skip (n' := 60) rfl rfl rfl ?_
          refine VList.skip (n' := 61) rfl rfl rfl ?_
          refine VList.skip (n' := 62) rfl rfl rfl ?_
          refine VList.go0 (n' := 63) rfl rfl (.pick _ _ _ _ _ rfl rfl) rfl ?_
          refine VList.go0 (n' := 64) rfl rfl (.pick _ _ _ _ _ rfl rfl) rfl ?_
          refine VList.go0 (n' := 65) rfl rfl (.assign _ _ rfl) rfl ?_
          refine VList.nil (Then.go ?_)
          exact VCode.ret (⟨trivial, [boolB (true)], (resVars_cons (resVar_tmp rfl rfl) resVars_nil), rfl⟩)
        · replace hc6 := bne_eq_false_iff_eq.1 hc6
          refine VList.go0 (n' := 52) rfl rfl (.move _ _ rfl) rfl ?_
          refine VList.go0 (n' := 53) rfl rfl (.bin _ _ _ _ _ _ _ _ rfl rfl rfl) rfl ?_
          refine VList.go0 (n' := 54) rfl rfl (.pick _ _ _ _ _ rfl rfl) rfl ?_
          refine VList.go0 (n' := 55) rfl rfl (.move _ _ rfl) rfl ?_
          refine VList.split (d := 99) _ rfl (fun hc7 => ?_) (fun hc7 => ?_)
          · replace hc7 := bne_iff_ne.1 hc7
            refine VList.skip (n' := 56) rfl rfl rfl ?_
            refine VList.skip (n' := 57) rfl rfl rfl ?_
            refine VList.go0 (n' := 58) rfl rfl (.pick _ _ _ _ _ rfl rfl) rfl ?_
            refine VList.go0 (n' := 59) rfl rfl (.move _ _ rfl) rfl ?_
            refine VList.skip (n' := 60) rfl rfl rfl ?_
            refine VList.skip (n' := 61) rfl rfl rfl ?_
            refine VList.skip (n' := 62) rfl rfl rfl ?_
            refine VList.go0 (n' := 63) rfl rfl (.pick _ _ _ _ _ rfl rfl) rfl ?_
            refine VList.go0 (n' := 64) rfl rfl (.pick _ _ _ _ _ rfl rfl) rfl ?_
            refine VList.go0 (n' := 65) rfl rfl (.assign _ _ rfl) rfl ?_
            refine VList.nil (Then.go ?_)
            exact VCode.ret (⟨trivial, [boolB (true)], (resVars_cons (resVar_tmp rfl rfl) resVars_nil), rfl⟩)
          · replace hc7 := bne_eq_false_iff_eq.1 hc7
            refine VList.go0 (n' := 56) rfl rfl (.move _ _ rfl) rfl ?_
            refine VList.go0 (n' := 57) rfl rfl (.bin _ _ _ _ _ _ _ _ rfl rfl rfl) rfl ?_
            refine VList.go0 (n' := 58) rfl rfl (.pick _ _ _ _ _ rfl rfl) rfl ?_
            refine VList.go0 (n' := 59) rfl rfl (.move _ _ rfl) rfl ?_
            refine VList.split (d := 103) _ rfl (fun hc8 => ?_) (fun hc8 => ?_)
            · replace hc8 := bne_iff_ne.1 hc8
              refine VList.skip (n' := 60) rfl rfl rfl ?_
              refine VList.skip (n' := 61) rfl rfl rfl ?_
              refine VList.skip (n' := 62) rfl rfl rfl ?_
              refine VList.go0 (n' := 63) rfl rfl (.pick _ _ _ _ _ rfl rfl) rfl ?_
              refine VList.go0 (n' := 64) rfl rfl (.pick _ _ _ _ _ rfl rfl) rfl ?_
              refine VList.go0 (n' := 65) rfl rfl (.assign _ _ rfl) rfl ?_
              refine VList.nil (Then.go ?_)
              exact VCode.ret (⟨trivial, [boolB (true)], (resVars_cons (resVar_tmp rfl rfl) resVars_nil), rfl⟩)
            · replace hc8 := bne_eq_false_iff_eq.1 hc8
              refine VList.go0 (n' := 60) rfl rfl (.loadS _ _ _ _ _ _ rfl rfl P_agg24 P_sz24 (Nat.le_of_ble_eq_true rfl)) rfl ?_
              refine VList.go0 (n' := 61) rfl rfl (.loadS _ _ _ _ _ _ rfl rfl P_agg24 P_sz24 (Nat.le_of_ble_eq_true rfl)) rfl ?_
              refine VList.go0 (n' := 62) rfl rfl (Eff.castB (show (sameB (gN (validB (n) (A) && validB (gN (validB (m) (B) && validB (k) (C)) (zOf (m) (B) - zOf (k) (C))) (gL (validB (m) (B) && validB (k) (C)) (zOf (m) (B) - zOf (k) (C)))) (zOf (n) (A) * zOf (gN (validB (m) (B) && validB (k) (C)) (zOf (m) (B) - zOf (k) (C))) (gL (validB (m) (B) && validB (k) (C)) (zOf (m) (B) - zOf (k) (C))))) (gL (validB (n) (A) && validB (gN (validB (m) (B) && validB (k) (C)) (zOf (m) (B) - zOf (k) (C))) (gL (validB (m) (B) && validB (k) (C)) (zOf (m) (B) - zOf (k) (C)))) (zOf (n) (A) * zOf (gN (validB (m) (B) && validB (k) (C)) (zOf (m) (B) - zOf (k) (C))) (gL (validB (m) (B) && validB (k) (C)) (zOf (m) (B) - zOf (k) (C))))) (gN (validB (gN (validB (n) (A) && validB (m) (B)) (zOf (n) (A) * zOf (m) (B))) (gL (validB (n) (A) && validB (m) (B)) (zOf (n) (A) * zOf (m) (B))) && validB (gN (validB (n) (A) && validB (k) (C)) (zOf (n) (A) * zOf (k) (C))) (gL (validB (n) (A) && validB (k) (C)) (zOf (n) (A) * zOf (k) (C)))) (zOf (gN (validB (n) (A) && validB (m) (B)) (zOf (n) (A) * zOf (m) (B))) (gL (validB (n) (A) && validB (m) (B)) (zOf (n) (A) * zOf (m) (B))) - zOf (gN (validB (n) (A) && validB (k) (C)) (zOf (n) (A) * zOf (k) (C))) (gL (validB (n) (A) && validB (k) (C)) (zOf (n) (A) * zOf (k) (C))))) (gL (validB (gN (validB (n) (A) && validB (m) (B)) (zOf (n) (A) * zOf (m) (B))) (gL (validB (n) (A) && validB (m) (B)) (zOf (n) (A) * zOf (m) (B))) && validB (gN (validB (n) (A) && validB (k) (C)) (zOf (n) (A) * zOf (k) (C))) (gL (validB (n) (A) && validB (k) (C)) (zOf (n) (A) * zOf (k) (C)))) (zOf (gN (validB (n) (A) && validB (m) (B)) (zOf (n) (A) * zOf (m) (B))) (gL (validB (n) (A) && validB (m) (B)) (zOf (n) (A) * zOf (m) (B))) - zOf (gN (validB (n) (A) && validB (k) (C)) (zOf (n) (A) * zOf (k) (C))) (gL (validB (n) (A) && validB (k) (C)) (zOf (n) (A) * zOf (k) (C)))))) = true from ring_dist' (by assumption) (by assumption) (by assumption) (by assumption) (by assumption)) (.callF _ _ _ _ _ _ rfl (ress_cons rfl (ress_cons rfl ress_nil)) (f21 _ _ _ _ (by first | assumption | with_reducible exact len_gL' _ _ | with_reducible exact len_zL' _) (by first | assumption | with_reducible exact len_gL' _ _ | with_reducible exact len_zL' _)) rfl)) rfl ?_
              refine VList.go0 (n' := 63) rfl rfl (.pick _ _ _ _ _ rfl rfl) rfl ?_
              refine VList.go0 (n' := 64) rfl rfl (.pick _ _ _ _ _ rfl rfl) rfl ?_
              refine VList.go0 (n' := 65) rfl rfl (.assign _ _ rfl) rfl ?_
              refine VList.nil (Then.go ?_)
              exact VCode.ret (⟨trivial, [boolB (true)], (resVars_cons (resVar_tmp rfl rfl) resVars_nil), rfl⟩)
theorem f12 (n : Bool) (A : List Int) (m : Bool) (B : List Int) (k : Bool) (C : List Int) (hA : A.length ≤ 9223372036854775807) (hB : B.length ≤ 9223372036854775807) (hC : C.length ≤ 9223372036854775807) (oA : ok32 A) (oB : ok32 B) (oC : ok32 C) : VF Try.prog 12 [.agg [boolB (n), u32S (A)], .agg [boolB (m), u32S (B)], .agg [boolB (k), u32S (C)]] (boolB true) := by
  refine VF_of P_mixed Try.func12 rfl rfl (by kernel_rfl) ?_
  refine VCode.seq ?_
  refine VCode.region ?_
  refine VList.go1 (n' := 1) rfl rfl (.box _ _ _ rfl (List.cons_ne_nil _ _) rfl) rfl ?_
  refine VList.go1 (n' := 2) rfl rfl (.box _ _ _ rfl (List.cons_ne_nil _ _) rfl) rfl ?_
  refine VList.go1 (n' := 3) rfl rfl (.box _ _ _ rfl (List.cons_ne_nil _ _) rfl) rfl ?_
  refine VList.go0 (n' := 4) rfl rfl (.assign _ _ rfl) rfl ?_
  refine VList.nil (Then.go ?_)
  refine VCode.seq ?_
  refine VCode.region ?_
  refine VList.go0 (n' := 5) rfl rfl (.loadS _ _ _ _ _ _ rfl rfl P_agg24 P_sz24 (Nat.le_of_ble_eq_true rfl)) rfl ?_
  refine VList.go0 (n' := 6) rfl rfl (.loadS _ _ _ _ _ _ rfl rfl P_agg24 P_sz24 (Nat.le_of_ble_eq_true rfl)) rfl ?_
  refine VList.go0 (n' := 7) rfl rfl (Eff.callV0 rfl (ress_cons rfl (ress_cons rfl ress_nil)) (f38 _ _ _ _ (by first | assumption | with_reducible exact len_gL' _ _ | with_reducible exact len_zL' _) (by first | assumption | with_reducible exact len_gL' _ _ | with_reducible exact len_zL' _) (by first | assumption | with_reducible exact ok32_gL _ _ | with_reducible exact ok32_zL _) (by first | assumption | with_reducible exact ok32_gL _ _ | with_reducible exact ok32_zL _)) rfl) rfl ?_
  refine VList.go0 (n' := 8) rfl rfl (.move _ _ rfl) rfl ?_
  refine VList.go0 (n' := 9) rfl rfl (.extract _ _ _ _ rfl rfl) rfl ?_
  refine VList.go0 (n' := 10) rfl rfl (.extract _ _ _ _ rfl rfl) rfl ?_
  refine VList.go1 (n' := 11) rfl rfl (.alloc _ _ P_zero24 (List.cons_ne_nil _ _)) rfl ?_
  refine VList.goS (n' := 12) rfl rfl (.store _ _ _ _ _ _ _ rfl rfl rfl rfl P_sz24 (Nat.le_of_ble_eq_true rfl) rfl) rfl ?_
  refine VList.go0 (n' := 13) rfl rfl (.assign _ _ rfl) rfl ?_
  refine VList.nil (Then.go ?_)
  refine VCode.seq ?_
  refine VCode.region ?_
  refine VList.go0 (n' := 14) rfl rfl (.loadS _ _ _ _ _ _ rfl rfl P_agg24 P_sz24 (Nat.le_of_ble_eq_true rfl)) rfl ?_
  refine VList.go0 (n' := 15) rfl rfl (.loadS _ _ _ _ _ _ rfl rfl P_agg24 P_sz24 (Nat.le_of_ble_eq_true rfl)) rfl ?_
  refine VList.go0 (n' := 16) rfl rfl (Eff.callV0 rfl (ress_cons rfl (ress_cons rfl ress_nil)) (f38 _ _ _ _ (by first | assumption | with_reducible exact len_gL' _ _ | with_reducible exact len_zL' _) (by first | assumption | with_reducible exact len_gL' _ _ | with_reducible exact len_zL' _) (by first | assumption | with_reducible exact ok32_gL _ _ | with_reducible exact ok32_zL _) (by first | assumption | with_reducible exact ok32_gL _ _ | with_reducible exact ok32_zL _)) rfl) rfl ?_
  refine VList.go0 (n' := 17) rfl rfl (.move _ _ rfl) rfl ?_
  refine VList.go0 (n' := 18) rfl rfl (.extract _ _ _ _ rfl rfl) rfl ?_
  refine VList.go0 (n' := 19) rfl rfl (.extract _ _ _ _ rfl rfl) rfl ?_
  refine VList.go1 (n' := 20) rfl rfl (.alloc _ _ P_zero24 (List.cons_ne_nil _ _)) rfl ?_
  refine VList.goS (n' := 21) rfl rfl (.store _ _ _ _ _ _ _ rfl rfl rfl rfl P_sz24 (Nat.le_of_ble_eq_true rfl) rfl) rfl ?_
  refine VList.go0 (n' := 22) rfl rfl (.assign _ _ rfl) rfl ?_
  refine VList.nil (Then.go ?_)
  refine VCode.seq ?_
  refine VCode.region ?_
  refine VList.go0 (n' := 23) rfl rfl (.loadS _ _ _ _ _ _ rfl rfl P_agg24 P_sz24 (Nat.le_of_ble_eq_true rfl)) rfl ?_
  refine VList.go0 (n' := 24) rfl rfl (.loadS _ _ _ _ _ _ rfl rfl P_agg24 P_sz24 (Nat.le_of_ble_eq_true rfl)) rfl ?_
  refine VList.go0 (n' := 25) rfl rfl (Eff.callV0 rfl (ress_cons rfl (ress_cons rfl ress_nil)) (f29 _ _ _ _ (by first | assumption | with_reducible exact len_gL' _ _ | with_reducible exact len_zL' _) (by first | assumption | with_reducible exact len_gL' _ _ | with_reducible exact len_zL' _) (by first | assumption | with_reducible exact ok32_gL _ _ | with_reducible exact ok32_zL _) (by first | assumption | with_reducible exact ok32_gL _ _ | with_reducible exact ok32_zL _)) rfl) rfl ?_
  refine VList.go0 (n' := 26) rfl rfl (.move _ _ rfl) rfl ?_
  refine VList.go0 (n' := 27) rfl rfl (.extract _ _ _ _ rfl rfl) rfl ?_
  refine VList.go0 (n' := 28) rfl rfl (.extract _ _ _ _ rfl rfl) rfl ?_
  refine VList.go1 (n' := 29) rfl rfl (.alloc _ _ P_zero24 (List.cons_ne_nil _ _)) rfl ?_
  refine VList.goS (n' := 30) rfl rfl (.store _ _ _ _ _ _ _ rfl rfl rfl rfl P_sz24 (Nat.le_of_ble_eq_true rfl) rfl) rfl ?_
  refine VList.go0 (n' := 31) rfl rfl (.assign _ _ rfl) rfl ?_
  refine VList.nil (Then.go ?_)
  refine VCode.seq ?_
  refine VCode.region ?_
  refine VList.go0 (n' := 32) rfl rfl (.loadS _ _ _ _ _ _ rfl rfl P_agg24 P_sz24 (Nat.le_of_ble_eq_true rfl)) rfl ?_
  refine VList.go0 (n' := 33) rfl rfl (.loadS _ _ _ _ _ _ rfl rfl P_agg24 P_sz24 (Nat.le_of_ble_eq_true rfl)) rfl ?_
  refine VList.go0 (n' := 34) rfl rfl (Eff.callV0 rfl (ress_cons rfl (ress_cons rfl ress_nil)) (f29 _ _ _ _ (by first | assumption | with_reducible exact len_gL' _ _ | with_reducible exact len_zL' _) (by first | assumption | with_reducible exact len_gL' _ _ | with_reducible exact len_zL' _) (by first | assumption | with_reducible exact ok32_gL _ _ | with_reducible exact ok32_zL _) (by first | assumption | with_reducible exact ok32_gL _ _ | with_reducible exact ok32_zL _)) rfl) rfl ?_
  refine VList.go0 (n' := 35) rfl rfl (.move _ _ rfl) rfl ?_
  refine VList.go0 (n' := 36) rfl rfl (.extract _ _ _ _ rfl rfl) rfl ?_
  refine VList.go0 (n' := 37) rfl rfl (.extract _ _ _ _ rfl rfl) rfl ?_
  refine VList.go1 (n' := 38) rfl rfl (.alloc _ _ P_zero24 (List.cons_ne_nil _ _)) rfl ?_
  refine VList.goS (n' := 39) rfl rfl (.store _ _ _ _ _ _ _ rfl rfl rfl rfl P_sz24 (Nat.le_of_ble_eq_true rfl) rfl) rfl ?_
  refine VList.go0 (n' := 40) rfl rfl (.assign _ _ rfl) rfl ?_
  refine VList.nil (Then.go ?_)
  refine VCode.seq ?_
  refine VCode.region ?_
  refine VList.go0 (n' := 41) rfl rfl (.callF _ _ _ _ _ _ rfl ress_nil (f20) rfl) rfl ?_
  refine VList.go0 (n' := 42) rfl rfl (.move _ _ rfl) rfl ?_
  refine VList.go0 (n' := 43) rfl rfl (.move _ _ rfl) rfl ?_
  refine VList.go0 (n' := 44) rfl rfl (.move _ _ rfl) rfl ?_
  refine VList.go0 (n' := 45) rfl rfl (Eff.castB (show (gE (validB (n) (A) && validB (m) (B)) (zOf (n) (A) + zOf (m) (B)) == gE (validB (m) (B) && validB (n) (A)) (zOf (m) (B) + zOf (n) (A))) = true from beq_yes (comm_E (Int.add_comm _ _))) (.bin _ _ _ _ _ _ _ _ rfl rfl rfl)) rfl ?_
  refine VList.go0 (n' := 46) rfl rfl (.pick _ _ _ _ _ rfl rfl) rfl ?_
  refine VList.go0 (n' := 47) rfl rfl (.move _ _ rfl) rfl ?_
  refine VList.go0 (n' := 48) rfl rfl (.loadS _ _ _ _ _ _ rfl rfl P_agg24 P_sz24 (Nat.le_of_ble_eq_true rfl)) rfl ?_
  refine VList.go0 (n' := 49) rfl rfl (.loadS _ _ _ _ _ _ rfl rfl P_agg24 P_sz24 (Nat.le_of_ble_eq_true rfl)) rfl ?_
  refine VList.go0 (n' := 50) rfl rfl (Eff.castB (show (sameB (gN (validB (n) (A) && validB (m) (B)) (zOf (n) (A) + zOf (m) (B))) (gL (validB (n) (A) && validB (m) (B)) (zOf (n) (A) + zOf (m) (B))) (gN (validB (m) (B) && validB (n) (A)) (zOf (m) (B) + zOf (n) (A))) (gL (validB (m) (B) && validB (n) (A)) (zOf (m) (B) + zOf (n) (A)))) = true from comm_same (Int.add_comm _ _)) (.callF _ _ _ _ _ _ rfl (ress_cons rfl (ress_cons rfl ress_nil)) (f21 _ _ _ _ (by first | assumption | with_reducible exact len_gL' _ _ | with_reducible exact len_zL' _) (by first | assumption | with_reducible exact len_gL' _ _ | with_reducible exact len_zL' _)) rfl)) rfl ?_
  refine VList.go0 (n' := 51) rfl rfl (.pick _ _ _ _ _ rfl rfl) rfl ?_
  refine VList.go0 (n' := 52) rfl rfl (.move _ _ rfl) rfl ?_
  refine VList.go0 (n' := 53) rfl rfl (.move _ _ rfl) rfl ?_
  refine VList.go0 (n' := 54) rfl rfl (.move _ _ rfl) rfl ?_
  refine VList.go0 (n' := 55) rfl rfl (Eff.castB (show (gE (validB (n) (A) && validB (m) (B)) (zOf (n) (A) * zOf (m) (B)) == gE (validB (m) (B) && validB (n) (A)) (zOf (m) (B) * zOf (n) (A))) = true from beq_yes (comm_E (Int.mul_comm _ _))) (.bin _ _ _ _ _ _ _ _ rfl rfl rfl)) rfl ?_
  refine VList.go0 (n' := 56) rfl rfl (.pick _ _ _ _ _ rfl rfl) rfl ?_
  refine VList.go0 (n' := 57) rfl rfl (.move _ _ rfl) rfl ?_
  refine VList.go0 (n' := 58) rfl rfl (.loadS _ _ _ _ _ _ rfl rfl P_agg24 P_sz24 (Nat.le_of_ble_eq_true rfl)) rfl ?_
  refine VList.go0 (n' := 59) rfl rfl (.loadS _ _ _ _ _ _ rfl rfl P_agg24 P_sz24 (Nat.le_of_ble_eq_true rfl)) rfl ?_
  refine VList.go0 (n' := 60) rfl rfl (Eff.castB (show (sameB (gN (validB (n) (A) && validB (m) (B)) (zOf (n) (A) * zOf (m) (B))) (gL (validB (n) (A) && validB (m) (B)) (zOf (n) (A) * zOf (m) (B))) (gN (validB (m) (B) && validB (n) (A)) (zOf (m) (B) * zOf (n) (A))) (gL (validB (m) (B) && validB (n) (A)) (zOf (m) (B) * zOf (n) (A)))) = true from comm_same (Int.mul_comm _ _)) (.callF _ _ _ _ _ _ rfl (ress_cons rfl (ress_cons rfl ress_nil)) (f21 _ _ _ _ (by first | assumption | with_reducible exact len_gL' _ _ | with_reducible exact len_zL' _) (by first | assumption | with_reducible exact len_gL' _ _ | with_reducible exact len_zL' _)) rfl)) rfl ?_
  refine VList.go0 (n' := 61) rfl rfl (.pick _ _ _ _ _ rfl rfl) rfl ?_
  refine VList.go0 (n' := 62) rfl rfl (.assign _ _ rfl) rfl ?_
  refine VList.nil (Then.go ?_)
  refine VCode.seq ?_
  refine VCode.region ?_
  refine VList.go0 (n' := 63) rfl rfl (.move _ _ rfl) rfl ?_
  refine VList.go0 (n' := 64) rfl rfl (.move _ _ rfl) rfl ?_
  refine VList.go0 (n' := 65) rfl rfl (.loadS _ _ _ _ _ _ rfl rfl P_agg24 P_sz24 (Nat.le_of_ble_eq_true rfl)) rfl ?_
  refine VList.go0 (n' := 66) rfl rfl (.loadS _ _ _ _ _ _ rfl rfl P_agg24 P_sz24 (Nat.le_of_ble_eq_true rfl)) rfl ?_
  refine VList.go0 (n' := 67) rfl rfl (.loadS _ _ _ _ _ _ rfl rfl P_agg24 P_sz24 (Nat.le_of_ble_eq_true rfl)) rfl ?_
  refine VList.go0 (n' := 68) rfl rfl (.callF _ _ _ _ _ _ rfl (ress_cons rfl (ress_cons rfl (ress_cons rfl ress_nil))) (f42 _ _ _ _ _ _ (by assumption) (by assumption) (by assumption) (by assumption) (by assumption) (by assumption)) rfl) rfl ?_
  refine VList.go0 (n' := 69) rfl rfl (.pick _ _ _ _ _ rfl rfl) rfl ?_
  refine VList.go0 (n' := 70) rfl rfl (.move _ _ rfl) rfl ?_
  refine VList.go0 (n' := 71) rfl rfl (.loadS _ _ _ _ _ _ rfl rfl P_agg24 P_sz24 (Nat.le_of_ble_eq_true rfl)) rfl ?_
  refine VList.go0 (n' := 72) rfl rfl (.loadS _ _ _ _ _ _ rfl rfl P_agg24 P_sz24 (Nat.le_of_ble_eq_true rfl)) rfl ?_
  refine VList.go0 (n' := 73) rfl rfl (.loadS _ _ _ _ _ _ rfl rfl P_agg24 P_sz24 (Nat.le_of_ble_eq_true rfl)) rfl ?_
  refine VList.go0 (n' := 74) rfl rfl (.callF _ _ _ _ _ _ rfl (ress_cons rfl (ress_cons rfl (ress_cons rfl ress_nil))) (f43 _ _ _ _ _ _ (by assumption) (by assumption) (by assumption) (by assumption) (by assumption) (by assumption)) rfl) rfl ?_
  refine VList.go0 (n' := 75) rfl rfl (.pick _ _ _ _ _ rfl rfl) rfl ?_
  refine VList.go0 (n' := 76) rfl rfl (.assign _ _ rfl) rfl ?_
  refine VList.nil (Then.go ?_)
  exact VCode.ret (⟨trivial, [boolB (true)], (resVars_cons (resVar_tmp rfl rfl) resVars_nil), rfl⟩)
end Go.VL

set_option linter.unusedVariables false
set_option linter.unusedSimpArgs false
namespace Go.Proofs.Ytipajnobkladeaa
open Go.ChangeShapes Go.WideShapes Go.ChangeAt Go.RowKit Go.VL

set_option maxRecDepth 100000 in
theorem integerRing_lifted (os : Os) (started : os.Started) (H : Type) (enc : TypeId × Value → H) :
    ReturnsInHanded {} Try.checked os 12 .any (Rows.integerRingSpec.pre6 enc Try.prog Try.f12 Rows.integerRingRow.domain false) (Rows.integerRingSpec.post enc Try.prog Try.f12 false true false false) := by
  refine returnsInHanded_of_change (C := Try.checked) Try_own started (by kernel_rfl) Try.func12
    (ChangeSpec.witness6 (enc := enc) (C := Try.checked) false ⟨#[], #[.agg #[.bool false, .slice none 0 0], .agg #[.bool false, .slice none 0 0], .agg #[.bool false, .slice none 0 0]], []⟩ 8 (by kernel_rfl) (by kernel_rfl) (by kernel_rfl) (by kernel_rfl)) ?_
  intro W base args ds gs before hval0 hW hcnd _
  have hval : ∀ (j : Nat) t v, Try.f12.params[j]? = some t → args[j]? = some v → Value.okWide Try.prog W .any base t v := hval0
  have hW' := hW
  obtain ⟨p, q, hA0, hV, rfl, hfz, hnd⟩ := hW
  have hA : DataW.TrodAll enc Try.prog W 0 (fun _ => true) true Try.f12.params.toList args.toList ds p := hA0
  have hA1 := hA
  rw [Try.params12] at hA hval
  obtain ⟨v0, v1, v2, d0, d1, d2, p0, p1, p2, rfl, rfl, rfl, h0, h1, h2⟩ := trodAll_three hA
  obtain ⟨rfl, rfl⟩ := trodVars_none hV
  obtain ⟨n0, L0, r0, o0, l0⟩ := open_api (hval 0 24 v0 rfl rfl) h0
  obtain ⟨n1, L1, r1, o1, l1⟩ := open_api (hval 1 24 v1 rfl rfl) h1
  obtain ⟨n2, L2, r2, o2, l2⟩ := open_api (hval 2 24 v2 rfl rfl) h2
  simp only [List.append_nil] at hW'
  have hlt : ∀ x ∈ p0 ++ p1 ++ p2, x.block < W.heap.size := fun x hx => hW'.lt x hx
  have hread : ∀ t ∈ Try.f12.params.toList, Try.prog.readableRec t = true ∧ t < Try.prog.types.size := by rw [Try.params12]; exact types_cons T24 (types_cons T24 (types_cons T24 (types_nil)))
  refine ((f12 n0 L0 n1 L1 n2 L2 l0 l1 l2 o0 o1 o2).runs (xs := [v0, v1, v2]) rfl (reps_cons r0 (reps_cons r1 (reps_cons r2 reps_nil)))).mono fun e W' ⟨he, hb⟩ => ?_
  subst he
  exact ⟨_, rfl, post_of_below (pa := _) (pv := []) hW' (fun _ _ _ => trodAll_mk1 shut_true) (fun sp hsp => args_stay Try_laidOut hb hread hA1 hlt hsp) (fun _ _ => rfl) (by simp) hb (ok_one (by kernel_rfl) rfl ok_true)⟩

theorem integerRing_facts : joinedFacts Try.pinned.checked.prog 12 Try.f12 Rows.integerRingSpec Rows.integerRingRow = true := by
  unfold joinedFacts
  rw [head_may, head_lifts, head_make]
  kernel_rfl

theorem integerRing_holds : Rows.IntegerRingSaid :=
  OpenClaim.holds_of_wide 12 Try.f12 rfl rfl rfl rfl rfl rfl rfl ⟨rfl, rfl, rfl, rfl, rfl⟩ rfl rfl rfl rfl rfl (by kernel_rfl) Try.func12 integerRing_facts
    (of_decide_eq_true (by kernel_rfl)) (by unfold Func.isWrapper; rw [if_neg (of_decide_eq_false (by kernel_rfl))]; exact ⟨rfl, rfl⟩)
    (fun os started H enc _ => integerRing_lifted os started H enc)

end Go.Proofs.Ytipajnobkladeaa
