/- A small program logic over the translated Go code, plain laws, and walks over the functions: several texts in one. No condition. -/
import Derived.Test.YtipajnobkladeaaK4
/- Walks over the Go functions, printed by a program of this session over the kit's print, and by hand. -/
set_option linter.unusedVariables false
set_option linter.unusedSimpArgs false
namespace Go.VL
open Go.Proofs
theorem f19 (n : Bool) (A : List Int) (m : Bool) (B : List Int) (hA : A.length ≤ 9223372036854775807) (hB : B.length ≤ 9223372036854775807) (oA : ok32 A) (oB : ok32 B) : VF Try.prog 19 [.agg [boolB (n), u32S (A)], .agg [boolB (m), u32S (B)]] (dmR (validB n A && validB m B) (zOf n A) (zOf m B)) := by
  refine VF_of P_mixed Try.func19 rfl rfl (by kernel_rfl) ?_
  refine VCode.seq ?_
  refine VCode.region ?_
  refine VList.go1 (n' := 1) rfl rfl (.box _ _ _ rfl (List.cons_ne_nil _ _) rfl) rfl ?_
  refine VList.go1 (n' := 2) rfl rfl (.box _ _ _ rfl (List.cons_ne_nil _ _) rfl) rfl ?_
  refine VList.go1 (n' := 3) rfl rfl (.alloc _ _ P_zero24 (List.cons_ne_nil _ _)) rfl ?_
  refine VList.go1 (n' := 4) rfl rfl (.alloc _ _ P_zero24 (List.cons_ne_nil _ _)) rfl ?_
  refine VList.go0 (n' := 5) rfl rfl (.assign _ _ rfl) rfl ?_
  refine VList.nil (Then.go ?_)
  refine VCode.seq ?_
  refine VCode.seq ?_
  refine VCode.region ?_
  refine VList.go0 (n' := 6) rfl rfl (.loadS _ _ _ _ _ _ rfl rfl P_agg24 P_sz24 (Nat.le_of_ble_eq_true rfl)) rfl ?_
  refine VList.go0 (n' := 7) rfl rfl (.callF _ _ _ _ _ _ rfl (ress_cons rfl ress_nil) (f26 _ _ (by first | omega | assumption | (simp; done) | (simp; omega))) rfl) rfl ?_
  refine VList.go0 (n' := 8) rfl rfl (.un _ _ _ _ _ rfl rfl) rfl ?_
  refine VList.go0 (n' := 9) rfl rfl (.move _ _ rfl) rfl ?_
  refine VList.split (d := 16) _ rfl (fun hc1 => ?_) (fun hc1 => ?_)
  · replace hc1 := (bnot_t hc1)
    refine VList.skip (n' := 10) rfl rfl rfl ?_
    refine VList.skip (n' := 11) rfl rfl rfl ?_
    refine VList.skip (n' := 12) rfl rfl rfl ?_
    refine VList.go0 (n' := 13) rfl rfl (.pick _ _ _ _ _ rfl rfl) rfl ?_
    refine VList.nil (Then.go ?_)
    refine VCode.cond _ rfl (fun _ => ?_) (fun h_ => Bool.noConfusion h_)
    refine VCode.seq ?_
    refine VCode.region ?_
    refine VList.go0 (n' := 14) rfl rfl Eff.int0 rfl ?_
    refine VList.go0 (n' := 15) rfl rfl Eff.int0 rfl ?_
    refine VList.goS (n' := 16) rfl rfl (.store _ _ _ _ _ _ _ rfl rfl rfl rfl P_sz24 (Nat.le_of_ble_eq_true rfl) rfl) rfl ?_
    refine VList.goS (n' := 17) rfl rfl (.store _ _ _ _ _ _ _ rfl rfl rfl rfl P_sz24 (Nat.le_of_ble_eq_true rfl) rfl) rfl ?_
    refine VList.go0 (n' := 18) rfl rfl (.assign _ _ rfl) rfl ?_
    refine VList.nil (Then.go ?_)
    exact VCode.ret (Then.ret (⟨trivial, [.agg [boolB (false), u32S ([])], .agg [boolB (false), u32S ([])], numB .i64 (1)], (resVars_cons (resVar_cell rfl rfl P_agg24 P_sz24 (Nat.le_of_ble_eq_true rfl) rfl) (resVars_cons (resVar_cell rfl rfl P_agg24 P_sz24 (Nat.le_of_ble_eq_true rfl) rfl) (resVars_cons (resVar_tmp rfl rfl) resVars_nil))), (by rw [dmR_bad (by simp [*])]; rfl)⟩))
  · replace hc1 := (bnot_f hc1)
    refine VList.go0 (n' := 10) rfl rfl (.loadS _ _ _ _ _ _ rfl rfl P_agg24 P_sz24 (Nat.le_of_ble_eq_true rfl)) rfl ?_
    refine VList.go0 (n' := 11) rfl rfl (.callF _ _ _ _ _ _ rfl (ress_cons rfl ress_nil) (f26 _ _ (by first | omega | assumption | (simp; done) | (simp; omega))) rfl) rfl ?_
    refine VList.go0 (n' := 12) rfl rfl (.un _ _ _ _ _ rfl rfl) rfl ?_
    refine VList.go0 (n' := 13) rfl rfl (.pick _ _ _ _ _ rfl rfl) rfl ?_
    refine VList.nil (Then.go ?_)
    refine VCode.cond _ rfl (fun hc2 => ?_) (fun hc2 => ?_)
    · replace hc2 := (bnot_t hc2)
      refine VCode.seq ?_
      refine VCode.region ?_
      refine VList.go0 (n' := 14) rfl rfl Eff.int0 rfl ?_
      refine VList.go0 (n' := 15) rfl rfl Eff.int0 rfl ?_
      refine VList.goS (n' := 16) rfl rfl (.store _ _ _ _ _ _ _ rfl rfl rfl rfl P_sz24 (Nat.le_of_ble_eq_true rfl) rfl) rfl ?_
      refine VList.goS (n' := 17) rfl rfl (.store _ _ _ _ _ _ _ rfl rfl rfl rfl P_sz24 (Nat.le_of_ble_eq_true rfl) rfl) rfl ?_
      refine VList.go0 (n' := 18) rfl rfl (.assign _ _ rfl) rfl ?_
      refine VList.nil (Then.go ?_)
      exact VCode.ret (Then.ret (⟨trivial, [.agg [boolB (false), u32S ([])], .agg [boolB (false), u32S ([])], numB .i64 (1)], (resVars_cons (resVar_cell rfl rfl P_agg24 P_sz24 (Nat.le_of_ble_eq_true rfl) rfl) (resVars_cons (resVar_cell rfl rfl P_agg24 P_sz24 (Nat.le_of_ble_eq_true rfl) rfl) (resVars_cons (resVar_tmp rfl rfl) resVars_nil))), (by rw [dmR_bad (by simp [*])]; rfl)⟩))
    · replace hc2 := (bnot_f hc2)
      refine VCode.skip (Then.go ?_)
      refine VCode.seq ?_
      refine VCode.seq ?_
      have va : validB n A = true := by assumption
      have vb : validB m B = true := by assumption
      have hv := vv va vb
      obtain ⟨nA, lA, sA⟩ := valid_norm oA va
      obtain ⟨nB, lB, sB⟩ := valid_norm oB vb
      have vA := val_nonneg oA
      have vB_ := val_nonneg oB
      refine VCode.region ?_
      refine VList.go0 (n' := 14) rfl rfl (.fieldAddr _ _ _ _ _ _ _ _ rfl P_fld24_1) rfl ?_
      refine VList.go0 (n' := 15) rfl rfl (.load1 _ _ _ _ _ _ rfl rfl P_agg22 rfl) rfl ?_
      refine VList.go0 (n' := 16) rfl rfl (Eff.lenS rfl Try.underlying22) rfl ?_
      refine VList.go0 (n' := 17) rfl rfl (.bin _ _ _ _ _ _ _ _ rfl rfl rfl) rfl ?_
      refine VList.nil (Then.go ?_)
      refine VCode.cond _ rfl (fun hc3 => ?_) (fun hc3 => ?_)
      · replace hc3 := eq_of_beq hc3
        refine VCode.seq ?_
        refine VCode.region ?_
        refine VList.go0 (n' := 18) rfl rfl Eff.int0 rfl ?_
        refine VList.go0 (n' := 19) rfl rfl Eff.int0 rfl ?_
        refine VList.goS (n' := 20) rfl rfl (.store _ _ _ _ _ _ _ rfl rfl rfl rfl P_sz24 (Nat.le_of_ble_eq_true rfl) rfl) rfl ?_
        refine VList.goS (n' := 21) rfl rfl (.store _ _ _ _ _ _ _ rfl rfl rfl rfl P_sz24 (Nat.le_of_ble_eq_true rfl) rfl) rfl ?_
        refine VList.go0 (n' := 22) rfl rfl (.assign _ _ rfl) rfl ?_
        refine VList.nil (Then.go ?_)
        exact VCode.ret (Then.ret (⟨trivial, [.agg [boolB (false), u32S ([])], .agg [boolB (false), u32S ([])], numB .i64 (4)], (resVars_cons (resVar_cell rfl rfl P_agg24 P_sz24 (Nat.le_of_ble_eq_true rfl) rfl) (resVars_cons (resVar_cell rfl rfl P_agg24 P_sz24 (Nat.le_of_ble_eq_true rfl) rfl) (resVars_cons (resVar_tmp rfl rfl) resVars_nil))), (by rw [dmR_zero hv (by rw [zOf, norm_zero nB (by omega), sg_zero])]; rfl)⟩))
      · replace hc3 := ne_of_beq_false hc3
        refine VCode.skip (Then.go ?_)
        refine VCode.seq ?_
        have vA := val_nonneg oA
        have bP := norm_pos nB (fun e => hc3 (by rw [e]; rfl))
        have q0 := Int.ediv_nonneg vA (Int.le_of_lt bP)
        have m0 := Int.emod_nonneg (val A) (show val B ≠ 0 by omega)
        have m1 := Int.emod_lt_of_pos (val A) bP
        have hq1 : (dg (val A / val B)).length ≤ 128 := Nat.le_trans (len_le oA q0 (Int.ediv_le_self _ vA)) lA
        have hr1 : (dg (val A % val B)).length ≤ B.length := len_le oB m0 (Int.le_of_lt m1)
        have hy : zOf m B ≠ 0 := fun e => (by have := sg_zero.1 e; omega)
        refine VCode.region ?_
        refine VList.go0 (n' := 18) rfl rfl (.fieldAddr _ _ _ _ _ _ _ _ rfl P_fld24_1) rfl ?_
        refine VList.go0 (n' := 19) rfl rfl (.load1 _ _ _ _ _ _ rfl rfl P_agg22 rfl) rfl ?_
        refine VList.go0 (n' := 20) rfl rfl (.fieldAddr _ _ _ _ _ _ _ _ rfl P_fld24_1) rfl ?_
        refine VList.go0 (n' := 21) rfl rfl (.load1 _ _ _ _ _ _ rfl rfl P_agg22 rfl) rfl ?_
        refine VList.go0 (n' := 22) rfl rfl (Eff.callV0 rfl (ress_cons rfl (ress_cons rfl ress_nil)) (f55 _ _ (by first | omega | assumption | (simp; done) | (simp; omega)) (by first | omega | assumption | (simp; done) | (simp; omega)) (nA) (nB) (bP)) rfl) rfl ?_
        refine VList.go0 (n' := 23) rfl rfl (.move _ _ rfl) rfl ?_
        refine VList.go0 (n' := 24) rfl rfl (.extract _ _ _ _ rfl rfl) rfl ?_
        refine VList.go0 (n' := 25) rfl rfl (.extract _ _ _ _ rfl rfl) rfl ?_
        refine VList.go0 (n' := 26) rfl rfl (.assign _ _ rfl) rfl ?_
        refine VList.go0 (n' := 27) rfl rfl (.assign _ _ rfl) rfl ?_
        refine VList.nil (Then.go ?_)
        refine VCode.join (α := (List Int) × (List Int)) (fun (x_ : (List Int) × (List Int)) => match x_ with | (Q, R) => (4, sl [(2, .ptr 0 (0)), (3, .ptr 1 (0)), (4, .ptr 2 (0)), (5, .ptr 3 (0)), (7, vS (Q)), (8, vS (R))], en [(0, ⟨2, [vB (n), vS (A)], true⟩), (1, ⟨2, [vB (m), vS (B)], true⟩), (2, ⟨2, [vB (false), vS ([])], true⟩), (3, ⟨2, [vB (false), vS ([])], true⟩)])) (fun (x_ : (List Int) × (List Int)) => match x_ with | (Q, R) => (norm Q ∧ norm R) ∧ (sg (!(n == m)) (val Q) = (zOf n A).fdiv (zOf m B) ∧ sg m (val R) = (zOf n A).fmod (zOf m B)) ∧ Q.length ≤ 1000000000 ∧ R.length ≤ 1000000000) ?_ ?_
        · skip
          refine VCode.seq ?_
          refine VCode.region ?_
          refine VList.go0 (n' := 28) rfl rfl (.fieldAddr _ _ _ _ _ _ _ _ rfl P_fld24_0) rfl ?_
          refine VList.go0 (n' := 29) rfl rfl (.load1 _ _ _ _ _ _ rfl rfl P_agg4 rfl) rfl ?_
          refine VList.go0 (n' := 30) rfl rfl (.fieldAddr _ _ _ _ _ _ _ _ rfl P_fld24_0) rfl ?_
          refine VList.go0 (n' := 31) rfl rfl (.load1 _ _ _ _ _ _ rfl rfl P_agg4 rfl) rfl ?_
          refine VList.go0 (n' := 32) rfl rfl (.binB _ _ _ _ _ _ _ _ rfl rfl Try.underlying4 rfl) rfl ?_
          refine VList.go0 (n' := 33) rfl rfl (.move _ _ rfl) rfl ?_
          refine VList.split (d := 42) _ rfl (fun hc4 => ?_) (fun hc4 => ?_)
          · replace hc4 := ne_of_beq_false (bnot_t hc4)
            refine VList.go0 (n' := 34) rfl rfl (.move _ _ rfl) rfl ?_
            refine VList.go0 (n' := 35) rfl rfl (Eff.lenS rfl Try.underlying22) rfl ?_
            refine VList.go0 (n' := 36) rfl rfl (.bin _ _ _ _ _ _ _ _ rfl rfl rfl) rfl ?_
            refine VList.go0 (n' := 37) rfl rfl (.pick _ _ _ _ _ rfl rfl) rfl ?_
            refine VList.nil (Then.go ?_)
            refine VCode.cond _ rfl (fun hc5 => ?_) (fun hc5 => ?_)
            · replace hc5 := of_decide_eq_true hc5
              refine VCode.seq ?_
              refine VCode.region ?_
              refine VList.go0 (n' := 38) rfl rfl (.move _ _ rfl) rfl ?_
              refine VList.go1 (n' := 39) rfl rfl (Eff.lits1 rfl Try.underlying22 P_zero51 P_sz51) rfl ?_
              refine VList.goN (n' := 40) rfl rfl (.callV _ _ _ _ _ _ rfl (ress_cons rfl (ress_cons (res_row rfl (by first | omega | (simp; done) | (simp; omega) | (simp [*]; done) | (simp [*]; omega))) ress_nil)) (f56 _ _ (by first | omega | assumption | (simp; done) | (simp; omega)) (by first | omega | assumption | (simp; done) | (simp; omega)) (ok32_dg _) (ok32_cons.2 ⟨by omega, ok32_nil⟩))) rfl ?_
              refine VList.go0 (n' := 41) rfl rfl (.assign _ _ rfl) rfl ?_
              refine VList.nil (Then.go ?_)
              refine VCode.region ?_
              refine VList.go0 (n' := 42) rfl rfl (.fieldAddr _ _ _ _ _ _ _ _ rfl P_fld24_1) rfl ?_
              refine VList.go0 (n' := 43) rfl rfl (.load1 _ _ _ _ _ _ rfl rfl P_agg22 rfl) rfl ?_
              refine VList.go0 (n' := 44) rfl rfl (.move _ _ rfl) rfl ?_
              refine VList.go0 (n' := 45) rfl rfl (Eff.callV0 rfl (ress_cons rfl (ress_cons rfl ress_nil)) (f57 _ _ (by first | omega | assumption | (simp; done) | (simp; omega)) (by first | omega | assumption | (simp; done) | (simp; omega)) (oB) (ok32_dg _) (norm_le_len (norm_dg _) nB (by rw [val_dg m0]; omega)) ((by rw [val_dg m0]; omega))) rfl) rfl ?_
              refine VList.go0 (n' := 46) rfl rfl (.assign _ _ rfl) rfl ?_
              exact VList.nil (Joins.go (dg (val (dg (val A / val B)) + val ([1])), dg (val B - val (dg (val A % val B)))) (by obtain ⟨e1, e2⟩ := fdiv_odd (a := val A) hc4 vA bP (by have := dg_nil m0; omega); refine ⟨⟨norm_dg _, norm_dg _⟩, ⟨?_, ?_⟩, add_len (ok32_dg _) (B := [1]) (ok32_cons.2 ⟨by omega, ok32_nil⟩) hq1 (by simp), sub_len oB (ok32_dg _) lB⟩; rw [zOf, zOf, e1, val_dg q0, val_dg (by simp [val]; omega)]; simp [sg, hc4, val]; rw [zOf, zOf, e2, val_dg m0, val_dg (by omega)]) (Weak.of (show 0 ≤ 4 by decide) ⟨⟨rfl, rfl⟩, ⟨⟨rfl, rfl⟩, ⟨⟨rfl, rfl⟩, ⟨⟨rfl, rfl⟩, ⟨⟨rfl, rfl⟩, ⟨⟨rfl, rfl⟩, trivial⟩⟩⟩⟩⟩⟩ ⟨⟨rfl, (show 0 < 4 by decide), (by intro v_ hv_; simp at hv_; rcases hv_ with rfl | rfl <;> rfl)⟩, ⟨⟨rfl, (show 1 < 4 by decide), (by intro v_ hv_; simp at hv_; rcases hv_ with rfl | rfl <;> rfl)⟩, ⟨⟨rfl, (show 2 < 4 by decide), (by intro v_ hv_; simp at hv_; rcases hv_ with rfl | rfl <;> rfl)⟩, ⟨⟨rfl, (show 3 < 4 by decide), (by intro v_ hv_; simp at hv_; rcases hv_ with rfl | rfl <;> rfl)⟩, trivial⟩⟩⟩⟩))
            · replace hc5 := of_decide_eq_false hc5
              exact VCode.skip (Joins.go (dg (val A / val B), dg (val A % val B)) (by obtain ⟨e1, e2⟩ := fdiv_even (a := val A) hc4 vA bP (by have := dg_nil m0; omega); refine ⟨⟨norm_dg _, norm_dg _⟩, ⟨?_, ?_⟩, by omega, by omega⟩; rw [zOf, zOf, e1, val_dg q0]; simp [sg, hc4]; rw [zOf, zOf, e2, val_dg m0]) (Weak.of (show 0 ≤ 4 by decide) ⟨⟨rfl, rfl⟩, ⟨⟨rfl, rfl⟩, ⟨⟨rfl, rfl⟩, ⟨⟨rfl, rfl⟩, ⟨⟨rfl, rfl⟩, ⟨⟨rfl, rfl⟩, trivial⟩⟩⟩⟩⟩⟩ ⟨⟨rfl, (show 0 < 4 by decide), (by intro v_ hv_; simp at hv_; rcases hv_ with rfl | rfl <;> rfl)⟩, ⟨⟨rfl, (show 1 < 4 by decide), (by intro v_ hv_; simp at hv_; rcases hv_ with rfl | rfl <;> rfl)⟩, ⟨⟨rfl, (show 2 < 4 by decide), (by intro v_ hv_; simp at hv_; rcases hv_ with rfl | rfl <;> rfl)⟩, ⟨⟨rfl, (show 3 < 4 by decide), (by intro v_ hv_; simp at hv_; rcases hv_ with rfl | rfl <;> rfl)⟩, trivial⟩⟩⟩⟩))
          · replace hc4 := eq_of_beq (bnot_f hc4)
            refine VList.skip (n' := 34) rfl rfl rfl ?_
            refine VList.skip (n' := 35) rfl rfl rfl ?_
            refine VList.skip (n' := 36) rfl rfl rfl ?_
            refine VList.go0 (n' := 37) rfl rfl (.pick _ _ _ _ _ rfl rfl) rfl ?_
            refine VList.nil (Then.go ?_)
            refine VCode.cond _ rfl (fun h_ => Bool.noConfusion h_) (fun _ => ?_)
            exact VCode.skip (Joins.go (dg (val A / val B), dg (val A % val B)) (by subst hc4; obtain ⟨e1, e2⟩ := fdiv_same (n := n) vA bP; refine ⟨⟨norm_dg _, norm_dg _⟩, ⟨?_, ?_⟩, by omega, by omega⟩; rw [zOf, zOf, e1, val_dg q0]; simp [sg]; rw [zOf, zOf, e2, val_dg m0]) (Weak.of (show 0 ≤ 4 by decide) ⟨⟨rfl, rfl⟩, ⟨⟨rfl, rfl⟩, ⟨⟨rfl, rfl⟩, ⟨⟨rfl, rfl⟩, ⟨⟨rfl, rfl⟩, ⟨⟨rfl, rfl⟩, trivial⟩⟩⟩⟩⟩⟩ ⟨⟨rfl, (show 0 < 4 by decide), (by intro v_ hv_; simp at hv_; rcases hv_ with rfl | rfl <;> rfl)⟩, ⟨⟨rfl, (show 1 < 4 by decide), (by intro v_ hv_; simp at hv_; rcases hv_ with rfl | rfl <;> rfl)⟩, ⟨⟨rfl, (show 2 < 4 by decide), (by intro v_ hv_; simp at hv_; rcases hv_ with rfl | rfl <;> rfl)⟩, ⟨⟨rfl, (show 3 < 4 by decide), (by intro v_ hv_; simp at hv_; rcases hv_ with rfl | rfl <;> rfl)⟩, trivial⟩⟩⟩⟩))
        · rintro ⟨Q, R⟩ hok
          obtain ⟨⟨nQ, nR⟩, ⟨j3, j4⟩, j5, j6⟩ := hok
          show VCode Try.prog 0 _ 4 (sl [(2, .ptr 0 (0)), (3, .ptr 1 (0)), (4, .ptr 2 (0)), (5, .ptr 3 (0)), (7, vS (Q)), (8, vS (R))]) (en [(0, ⟨2, [vB (n), vS (A)], true⟩), (1, ⟨2, [vB (m), vS (B)], true⟩), (2, ⟨2, [vB (false), vS ([])], true⟩), (3, ⟨2, [vB (false), vS ([])], true⟩)]) _
          refine VCode.seq ?_
          refine VCode.region ?_
          refine VList.go0 (n' := 5) rfl rfl (.fieldAddr _ _ _ _ _ _ _ _ rfl P_fld24_0) rfl ?_
          refine VList.go0 (n' := 6) rfl rfl (.load1 _ _ _ _ _ _ rfl rfl P_agg4 rfl) rfl ?_
          refine VList.go0 (n' := 7) rfl rfl (.fieldAddr _ _ _ _ _ _ _ _ rfl P_fld24_0) rfl ?_
          refine VList.go0 (n' := 8) rfl rfl (.load1 _ _ _ _ _ _ rfl rfl P_agg4 rfl) rfl ?_
          refine VList.go0 (n' := 9) rfl rfl (.binB _ _ _ _ _ _ _ _ rfl rfl Try.underlying4 rfl) rfl ?_
          refine VList.go0 (n' := 10) rfl rfl (.move _ _ rfl) rfl ?_
          refine VList.go0 (n' := 11) rfl rfl (Eff.callV0 rfl (ress_cons rfl (ress_cons rfl ress_nil)) (f58 _ _ (by first | omega | assumption | (simp; done) | (simp; omega)) (nQ.1)) rfl) rfl ?_
          refine VList.go0 (n' := 12) rfl rfl (.move _ _ rfl) rfl ?_
          refine VList.go0 (n' := 13) rfl rfl (.extract _ _ _ _ rfl rfl) rfl ?_
          refine VList.go0 (n' := 14) rfl rfl (.extract _ _ _ _ rfl rfl) rfl ?_
          refine VList.go1 (n' := 15) rfl rfl (.alloc _ _ P_zero24 (List.cons_ne_nil _ _)) rfl ?_
          refine VList.goS (n' := 16) rfl rfl (.store _ _ _ _ _ _ _ rfl rfl rfl rfl P_sz24 (Nat.le_of_ble_eq_true rfl) rfl) rfl ?_
          refine VList.go0 (n' := 17) rfl rfl (.assign _ _ rfl) rfl ?_
          refine VList.nil (Then.go ?_)
          refine VCode.seq ?_
          refine VCode.seq ?_
          refine VCode.region ?_
          refine VList.go0 (n' := 18) rfl rfl (.move _ _ rfl) rfl ?_
          refine VList.go0 (n' := 19) rfl rfl (.bin _ _ _ _ _ _ _ _ rfl rfl rfl) rfl ?_
          refine VList.nil (Then.go ?_)
          refine VCode.cond _ rfl (fun hc6 => ?_) (fun hc6 => ?_)
          · replace hc6 := bne_iff_ne.1 hc6
            refine VCode.seq ?_
            refine VCode.region ?_
            refine VList.go0 (n' := 20) rfl rfl Eff.int0 rfl ?_
            refine VList.go0 (n' := 21) rfl rfl Eff.int0 rfl ?_
            refine VList.go0 (n' := 22) rfl rfl (.move _ _ rfl) rfl ?_
            refine VList.goS (n' := 23) rfl rfl (.store _ _ _ _ _ _ _ rfl rfl rfl rfl P_sz24 (Nat.le_of_ble_eq_true rfl) rfl) rfl ?_
            refine VList.goS (n' := 24) rfl rfl (.store _ _ _ _ _ _ _ rfl rfl rfl rfl P_sz24 (Nat.le_of_ble_eq_true rfl) rfl) rfl ?_
            refine VList.go0 (n' := 25) rfl rfl (.assign _ _ rfl) rfl ?_
            refine VList.nil (Then.go ?_)
            exact VCode.ret (Then.ret (⟨trivial, [.agg [boolB (false), u32S ([])], .agg [boolB (false), u32S ([])], numB .i64 (zE (sg ((!(n == m))) (val (Q))))], (resVars_cons (resVar_cell rfl rfl P_agg24 P_sz24 (Nat.le_of_ble_eq_true rfl) rfl) (resVars_cons (resVar_cell rfl rfl P_agg24 P_sz24 (Nat.le_of_ble_eq_true rfl) rfl) (resVars_cons (resVar_tmp rfl rfl) resVars_nil))), (by rw [dmR_big hv hy (by rw [← j3]; exact hc6), ← j3]; rfl)⟩))
          · replace hc6 := bne_eq_false_iff_eq.1 hc6
            refine VCode.skip (Then.go ?_)
            refine VCode.seq ?_
            refine VCode.region ?_
            refine VList.go0 (n' := 20) rfl rfl (.fieldAddr _ _ _ _ _ _ _ _ rfl P_fld24_0) rfl ?_
            refine VList.go0 (n' := 21) rfl rfl (.load1 _ _ _ _ _ _ rfl rfl P_agg4 rfl) rfl ?_
            refine VList.go0 (n' := 22) rfl rfl (.move _ _ rfl) rfl ?_
            refine VList.go0 (n' := 23) rfl rfl (Eff.callV0 rfl (ress_cons rfl (ress_cons rfl ress_nil)) (f58 _ _ (by first | omega | assumption | (simp; done) | (simp; omega)) (nR.1)) rfl) rfl ?_
            refine VList.go0 (n' := 24) rfl rfl (.move _ _ rfl) rfl ?_
            refine VList.go0 (n' := 25) rfl rfl (.extract _ _ _ _ rfl rfl) rfl ?_
            refine VList.go0 (n' := 26) rfl rfl (.extract _ _ _ _ rfl rfl) rfl ?_
            refine VList.go1 (n' := 27) rfl rfl (.alloc _ _ P_zero24 (List.cons_ne_nil _ _)) rfl ?_
            refine VList.goS (n' := 28) rfl rfl (.store _ _ _ _ _ _ _ rfl rfl rfl rfl P_sz24 (Nat.le_of_ble_eq_true rfl) rfl) rfl ?_
            refine VList.go0 (n' := 29) rfl rfl (.assign _ _ rfl) rfl ?_
            refine VList.nil (Then.go ?_)
            refine VCode.seq ?_
            refine VCode.draw (by kernel_rfl) ?_
            refine VLog.go0 (n' := 30) rfl rfl (.loadS _ _ _ _ _ _ rfl rfl P_agg24 P_sz24 (Nat.le_of_ble_eq_true rfl)) rfl ?_
            refine VLog.go0 (n' := 31) rfl rfl (.loadS _ _ _ _ _ _ rfl rfl P_agg24 P_sz24 (Nat.le_of_ble_eq_true rfl)) rfl ?_
            refine VLog.goS (n' := 32) rfl rfl (.store _ _ _ _ _ _ _ rfl rfl rfl rfl P_sz24 (Nat.le_of_ble_eq_true rfl) rfl) rfl ?_
            refine VLog.goS (n' := 33) rfl rfl (.store _ _ _ _ _ _ _ rfl rfl rfl rfl P_sz24 (Nat.le_of_ble_eq_true rfl) rfl) rfl ?_
            refine VLog.go0 (n' := 34) rfl rfl (.assign _ _ rfl) rfl ?_
            refine VLog.nil ⟨by kernel_rfl, Then.go ?_⟩
            exact VCode.ret (⟨trivial, [.agg [boolB (zN (sg ((!(n == m))) (val (Q)))), u32S (zL (sg ((!(n == m))) (val (Q))))], .agg [boolB (zN (sg (m) (val (R)))), u32S (zL (sg (m) (val (R))))], numB .i64 (0)], (resVars_cons (resVar_cell rfl rfl P_agg24 P_sz24 (Nat.le_of_ble_eq_true rfl) rfl) (resVars_cons (resVar_cell rfl rfl P_agg24 P_sz24 (Nat.le_of_ble_eq_true rfl) rfl) (resVars_cons (resVar_tmp rfl rfl) resVars_nil))), (by rw [dmR_ok hv hy (by rw [← j3]; exact hc6), ← j3, ← j4]; rfl)⟩)
end Go.VL

/- Walks over the Go functions, printed by a program of this session over the kit's print, and by hand. -/
set_option linter.unusedVariables false
set_option linter.unusedSimpArgs false
namespace Go.VL
open Go.Proofs
theorem f23 (n : Bool) (A : List Int) (hA : A.length ≤ 9223372036854775807) (oA : ok32 A) : VF Try.prog 23 [.agg [boolB (n), u32S (A)]] (.tup [.lit (.string (tS (validB n A) (zOf n A))), numB .i64 (tE (validB n A))]) := by
  refine VF_of P_mixed Try.func23 rfl rfl (by kernel_rfl) ?_
  refine VCode.seq ?_
  refine VCode.region ?_
  refine VList.go1 (n' := 1) rfl rfl (.box _ _ _ rfl (List.cons_ne_nil _ _) rfl) rfl ?_
  refine VList.go0 (n' := 2) rfl rfl (.assign _ _ rfl) rfl ?_
  refine VList.go0 (n' := 3) rfl rfl (.assign _ _ rfl) rfl ?_
  refine VList.nil (Then.go ?_)
  refine VCode.seq ?_
  refine VCode.seq ?_
  refine VCode.region ?_
  refine VList.go0 (n' := 4) rfl rfl (.loadS _ _ _ _ _ _ rfl rfl P_agg24 P_sz24 (Nat.le_of_ble_eq_true rfl)) rfl ?_
  refine VList.go0 (n' := 5) rfl rfl (.callF _ _ _ _ _ _ rfl (ress_cons rfl ress_nil) (f26 _ _ (by first | omega | assumption | (simp; done) | (simp; omega))) rfl) rfl ?_
  refine VList.go0 (n' := 6) rfl rfl (.un _ _ _ _ _ rfl rfl) rfl ?_
  refine VList.nil (Then.go ?_)
  refine VCode.cond _ rfl (fun hc1 => ?_) (fun hc1 => ?_)
  · replace hc1 := (bnot_t hc1)
    refine VCode.seq ?_
    refine VCode.region ?_
    refine VList.go0 (n' := 7) rfl rfl (.assign _ _ rfl) rfl ?_
    refine VList.go0 (n' := 8) rfl rfl (.assign _ _ rfl) rfl ?_
    refine VList.nil (Then.go ?_)
    exact VCode.ret (Then.ret (⟨trivial, [.lit (.string ((⟨#[]⟩ : ByteArray))), numB .i64 (1)], (resVars_cons (resVar_tmp rfl rfl) (resVars_cons (resVar_tmp rfl rfl) resVars_nil)), (by rw [tS_false hc1, tE, hc1]; rfl)⟩))
  · replace hc1 := (bnot_f hc1)
    refine VCode.skip (Then.go ?_)
    refine VCode.seq ?_
    obtain ⟨nA, lA, sA⟩ := valid_norm oA hc1
    have vA := val_nonneg oA
    refine VCode.region ?_
    refine VList.go0 (n' := 7) rfl rfl (.assign _ _ rfl) rfl ?_
    refine VList.nil (Then.go ?_)
    refine VCode.seq ?_
    refine VCode.seq ?_
    refine VCode.region ?_
    refine VList.go0 (n' := 8) rfl rfl (.fieldAddr _ _ _ _ _ _ _ _ rfl P_fld24_1) rfl ?_
    refine VList.go0 (n' := 9) rfl rfl (.load1 _ _ _ _ _ _ rfl rfl P_agg22 rfl) rfl ?_
    refine VList.go0 (n' := 10) rfl rfl (.assign _ _ rfl) rfl ?_
    refine VList.nil (Then.go ?_)
    refine VCode.block ?_
    refine VCode.loop (α := (List Int) × (ByteArray) × (List Int)) (fun (x_ : (List Int) × (ByteArray) × (List Int)) => match x_ with | (L, s, D) => (1, sl [(1, .ptr 0 (0)), (4, .b (.lit (.string (s)))), (5, vS (L))], en [(0, ⟨2, [vB (n), vS (A)], true⟩)])) (fun (x_ : (List Int) × (ByteArray) × (List Int)) => match x_ with | (L, s, D) => (norm L ∧ L.length ≤ 128) ∧ s = bytesOf D.reverse ∧ TInv (val A) L D) (fun (x_ : (List Int) × (ByteArray) × (List Int)) => match x_ with | (L, s, D) => (val L).toNat + (if D.length = 0 then 1 else 0)) (A, (⟨#[]⟩ : ByteArray), []) ⟨⟨nA, lA⟩, rfl, .inl ⟨rfl, rfl⟩⟩ (Weak.of (show 0 ≤ 1 by decide) ⟨⟨rfl, rfl⟩, ⟨⟨rfl, rfl⟩, ⟨⟨rfl, rfl⟩, trivial⟩⟩⟩ ⟨⟨rfl, (show 0 < 1 by decide), (by intro v_ hv_; simp at hv_; rcases hv_ with rfl | rfl <;> rfl)⟩, trivial⟩) ?_
    rintro ⟨L, s, D⟩ hok
    obtain ⟨⟨nL, lL⟩, hs, hT⟩ := hok
    have vL := val_nonneg nL.1
    have hDl := Nat.le_trans hT.len (txD_len oA lA rfl)
    have hsz : s.size = D.length := by rw [hs, bytesOf_size, List.length_reverse]
    show VCode Try.prog 0 _ 1 (sl [(1, .ptr 0 (0)), (4, .b (.lit (.string (s)))), (5, vS (L))]) (en [(0, ⟨2, [vB (n), vS (A)], true⟩)]) _
    refine VCode.seq ?_
    refine VCode.seq ?_
    refine VCode.region ?_
    refine VList.go0 (n' := 2) rfl rfl (.move _ _ rfl) rfl ?_
    refine VList.go0 (n' := 3) rfl rfl (Eff.lenS rfl Try.underlying22) rfl ?_
    refine VList.go0 (n' := 4) rfl rfl (.bin _ _ _ _ _ _ _ _ rfl rfl rfl) rfl ?_
    refine VList.go0 (n' := 5) rfl rfl (.move _ _ rfl) rfl ?_
    refine VList.split (d := 16) _ rfl (fun hc2 => ?_) (fun hc2 => ?_)
    · replace hc2 := of_decide_eq_true hc2
      refine VList.skip (n' := 6) rfl rfl rfl ?_
      refine VList.skip (n' := 7) rfl rfl rfl ?_
      refine VList.go0 (n' := 8) rfl rfl (.pick _ _ _ _ _ rfl rfl) rfl ?_
      refine VList.nil (Then.go ?_)
      refine VCode.cond _ rfl (fun _ => ?_) (fun h_ => Bool.noConfusion h_)
      refine VCode.skip (Then.go ?_)
      refine VCode.block ?_
      refine VCode.seq ?_
      have hpD : 0 < val L ∨ D = [] := by first | (right; exact of_empty (by rw [← hs]; assumption)) | (left; exact norm_pos nL (fun e => by rw [e] at hc2; simp at hc2))
      have hQl : (dg (val L / 10)).length ≤ 128 := Nat.le_trans (len_le nL.1 (by omega) (by omega)) lL
      refine VCode.region ?_
      refine VList.go0 (n' := 9) rfl rfl (.move _ _ rfl) rfl ?_
      refine VList.go0 (n' := 10) rfl rfl (Eff.callV0 rfl (ress_cons rfl (ress_cons rfl ress_nil)) (f61 _ _ (by first | omega | assumption | (simp; done) | (simp; omega)) (nL.1) (by first | omega | assumption | (simp; done) | (simp; omega)) (by first | omega | assumption | (simp; done) | (simp; omega))) rfl) rfl ?_
      refine VList.go0 (n' := 11) rfl rfl (.move _ _ rfl) rfl ?_
      refine VList.go0 (n' := 12) rfl rfl (.extract _ _ _ _ rfl rfl) rfl ?_
      refine VList.go0 (n' := 13) rfl rfl (.extract _ _ _ _ rfl rfl) rfl ?_
      refine VList.go0 (n' := 14) rfl rfl (.assign _ _ rfl) rfl ?_
      refine VList.go0 (n' := 15) rfl rfl (.assign _ _ rfl) rfl ?_
      refine VList.nil (Then.go ?_)
      refine VCode.seq ?_
      refine VCode.region ?_
      refine VList.go0 (n' := 16) rfl rfl (.move _ _ rfl) rfl ?_
      refine VList.go0 (n' := 17) rfl rfl (.bin _ _ _ _ _ _ _ _ rfl rfl (bop_add_u32 (by first | omega | (simp; done) | (simp; omega)))) rfl ?_
      refine VList.go0 (n' := 18) rfl rfl (Eff.convN_u8 rfl Try.underlying51 Try.underlying5 (by first | omega | (simp; done) | (simp; omega))) rfl ?_
      refine VList.go1 (n' := 19) rfl rfl (Eff.litsK1 rfl Try.underlying53 P_zero5 P_sz5) rfl ?_
      refine VList.go0 (n' := 20) rfl rfl (Eff.toStrK rfl rfl (by first | omega | (simp; done) | (simp; omega)) (fun x hx => by simp at hx; omega) Try.underlying53 Try.underlying5 Try.underlying9) rfl ?_
      refine VList.go0 (n' := 21) rfl rfl (.move _ _ rfl) rfl ?_
      refine VList.go0 (n' := 22) rfl rfl (.bin _ _ _ _ _ _ _ (.string (bytesOf ([(48 + (val (L) % (10)))]) ++ s)) rfl rfl (str_add (by rw [bytesOf_size]; simp; omega))) rfl ?_
      refine VList.go0 (n' := 23) rfl rfl (.assign _ _ rfl) rfl ?_
      refine VList.nil (Then.go ?_)
      refine VCode.region ?_
      refine VList.go0 (n' := 24) rfl rfl (.move _ _ rfl) rfl ?_
      refine VList.go0 (n' := 25) rfl rfl (.assign _ _ rfl) rfl ?_
      exact VList.nil (InBlock.go (Round.go (dg (val (L) / (10)), bytesOf ([(48 + (val (L) % (10)))]) ++ s, D ++ [48 + val L % 10]) ⟨⟨norm_dg _, hQl⟩, by rw [hs, bytesOf_cons, List.reverse_append]; rfl, hT.step vL hpD⟩ (by show (val (dg (val L / 10))).toNat + (if (D ++ [48 + val L % 10]).length = 0 then 1 else 0) < (val L).toNat + (if D.length = 0 then 1 else 0); rw [val_dg (by omega), if_neg (by simp)]; exact t_mu vL hpD) (Weak.of (show 0 ≤ 1 by decide) ⟨⟨rfl, rfl⟩, ⟨⟨rfl, rfl⟩, ⟨⟨rfl, rfl⟩, trivial⟩⟩⟩ ⟨⟨rfl, (show 0 < 1 by decide), (by intro v_ hv_; simp at hv_; rcases hv_ with rfl | rfl <;> rfl)⟩, trivial⟩)))
    · replace hc2 := of_decide_eq_false hc2
      refine VList.go0 (n' := 6) rfl rfl (.move _ _ rfl) rfl ?_
      refine VList.go0 (n' := 7) rfl rfl (.bin _ _ _ _ _ _ _ _ rfl rfl rfl) rfl ?_
      refine VList.go0 (n' := 8) rfl rfl (.pick _ _ _ _ _ rfl rfl) rfl ?_
      refine VList.nil (Then.go ?_)
      refine VCode.cond _ rfl (fun hc3 => ?_) (fun hc3 => ?_)
      · replace hc3 := strEq_t hc3
        refine VCode.skip (Then.go ?_)
        refine VCode.block ?_
        refine VCode.seq ?_
        have hpD : 0 < val L ∨ D = [] := by first | (right; exact of_empty (by rw [← hs]; assumption)) | (left; exact norm_pos nL (fun e => by rw [e] at hc2; simp at hc2))
        have hQl : (dg (val L / 10)).length ≤ 128 := Nat.le_trans (len_le nL.1 (by omega) (by omega)) lL
        refine VCode.region ?_
        refine VList.go0 (n' := 9) rfl rfl (.move _ _ rfl) rfl ?_
        refine VList.go0 (n' := 10) rfl rfl (Eff.callV0 rfl (ress_cons rfl (ress_cons rfl ress_nil)) (f61 _ _ (by first | omega | assumption | (simp; done) | (simp; omega)) (nL.1) (by first | omega | assumption | (simp; done) | (simp; omega)) (by first | omega | assumption | (simp; done) | (simp; omega))) rfl) rfl ?_
        refine VList.go0 (n' := 11) rfl rfl (.move _ _ rfl) rfl ?_
        refine VList.go0 (n' := 12) rfl rfl (.extract _ _ _ _ rfl rfl) rfl ?_
        refine VList.go0 (n' := 13) rfl rfl (.extract _ _ _ _ rfl rfl) rfl ?_
        refine VList.go0 (n' := 14) rfl rfl (.assign _ _ rfl) rfl ?_
        refine VList.go0 (n' := 15) rfl rfl (.assign _ _ rfl) rfl ?_
        refine VList.nil (Then.go ?_)
        refine VCode.seq ?_
        refine VCode.region ?_
        refine VList.go0 (n' := 16) rfl rfl (.move _ _ rfl) rfl ?_
        refine VList.go0 (n' := 17) rfl rfl (.bin _ _ _ _ _ _ _ _ rfl rfl (bop_add_u32 (by first | omega | (simp; done) | (simp; omega)))) rfl ?_
        refine VList.go0 (n' := 18) rfl rfl (Eff.convN_u8 rfl Try.underlying51 Try.underlying5 (by first | omega | (simp; done) | (simp; omega))) rfl ?_
        refine VList.go1 (n' := 19) rfl rfl (Eff.litsK1 rfl Try.underlying53 P_zero5 P_sz5) rfl ?_
        refine VList.go0 (n' := 20) rfl rfl (Eff.toStrK rfl rfl (by first | omega | (simp; done) | (simp; omega)) (fun x hx => by simp at hx; omega) Try.underlying53 Try.underlying5 Try.underlying9) rfl ?_
        refine VList.go0 (n' := 21) rfl rfl (.move _ _ rfl) rfl ?_
        refine VList.go0 (n' := 22) rfl rfl (.bin _ _ _ _ _ _ _ (.string (bytesOf ([(48 + (val (L) % (10)))]) ++ s)) rfl rfl (str_add (by rw [bytesOf_size]; simp; omega))) rfl ?_
        refine VList.go0 (n' := 23) rfl rfl (.assign _ _ rfl) rfl ?_
        refine VList.nil (Then.go ?_)
        refine VCode.region ?_
        refine VList.go0 (n' := 24) rfl rfl (.move _ _ rfl) rfl ?_
        refine VList.go0 (n' := 25) rfl rfl (.assign _ _ rfl) rfl ?_
        exact VList.nil (InBlock.go (Round.go (dg (val (L) / (10)), bytesOf ([(48 + (val (L) % (10)))]) ++ s, D ++ [48 + val L % 10]) ⟨⟨norm_dg _, hQl⟩, by rw [hs, bytesOf_cons, List.reverse_append]; rfl, hT.step vL hpD⟩ (by show (val (dg (val L / 10))).toNat + (if (D ++ [48 + val L % 10]).length = 0 then 1 else 0) < (val L).toNat + (if D.length = 0 then 1 else 0); rw [val_dg (by omega), if_neg (by simp)]; exact t_mu vL hpD) (Weak.of (show 0 ≤ 1 by decide) ⟨⟨rfl, rfl⟩, ⟨⟨rfl, rfl⟩, ⟨⟨rfl, rfl⟩, trivial⟩⟩⟩ ⟨⟨rfl, (show 0 < 1 by decide), (by intro v_ hv_; simp at hv_; rcases hv_ with rfl | rfl <;> rfl)⟩, trivial⟩)))
      · replace hc3 := strEq_f hc3
        refine VCode.exit (Then.exit (Round.exit (InBlock.here (Then.go ?_))))
        refine VCode.seq ?_
        refine VCode.seq ?_
        have hfin := tx_fin vA (neg_pos nA sA) (hT.done (by omega) (fun e => absurd (show s = ⟨#[]⟩ by rw [hs, e]; rfl) (by assumption)))
        refine VCode.region ?_
        refine VList.go0 (n' := 9) rfl rfl (.fieldAddr _ _ _ _ _ _ _ _ rfl P_fld24_0) rfl ?_
        refine VList.go0 (n' := 10) rfl rfl (.load1 _ _ _ _ _ _ rfl rfl P_agg4 rfl) rfl ?_
        refine VList.nil (Then.go ?_)
        refine VCode.cond _ rfl (fun hc4 => ?_) (fun hc4 => ?_)
        · (try simp at hc4)
          refine VCode.region ?_
          refine VList.go0 (n' := 11) rfl rfl (.move _ _ rfl) rfl ?_
          refine VList.go0 (n' := 12) rfl rfl (.bin _ _ _ _ _ _ _ (.string ((⟨#[45]⟩ : ByteArray) ++ s)) rfl rfl (str_add (by rw [minus_b, bytesOf_size]; simp; omega))) rfl ?_
          refine VList.go0 (n' := 13) rfl rfl (.assign _ _ rfl) rfl ?_
          refine VList.nil (Then.go ?_)
          refine VCode.seq ?_
          refine VCode.region ?_
          refine VList.go0 (n' := 14) rfl rfl (.move _ _ rfl) rfl ?_
          refine VList.go0 (n' := 15) rfl rfl (.assign _ _ rfl) rfl ?_
          refine VList.go0 (n' := 16) rfl rfl (.assign _ _ rfl) rfl ?_
          refine VList.nil (Then.go ?_)
          exact VCode.ret (⟨trivial, [.lit (.string ((⟨#[45]⟩ : ByteArray) ++ s)), numB .i64 (0)], (resVars_cons (resVar_tmp rfl rfl) (resVars_cons (resVar_tmp rfl rfl) resVars_nil)), (by rw [tS_true hc1, tE, if_pos hc1, hfin, if_pos (by assumption), hs]; rfl)⟩)
        · (try simp at hc4)
          refine VCode.skip (Then.go ?_)
          refine VCode.seq ?_
          refine VCode.region ?_
          refine VList.go0 (n' := 11) rfl rfl (.move _ _ rfl) rfl ?_
          refine VList.go0 (n' := 12) rfl rfl (.assign _ _ rfl) rfl ?_
          refine VList.go0 (n' := 13) rfl rfl (.assign _ _ rfl) rfl ?_
          refine VList.nil (Then.go ?_)
          exact VCode.ret (⟨trivial, [.lit (.string (s)), numB .i64 (0)], (resVars_cons (resVar_tmp rfl rfl) (resVars_cons (resVar_tmp rfl rfl) resVars_nil)), (by rw [tS_true hc1, tE, if_pos hc1, hfin, if_neg (by simp [*]), hs]; rfl)⟩)
theorem f25 (s : ByteArray) (hs : s.size ≤ 9223372036854775807) : VF Try.prog 25 [.lit (.string (s))] (prR s) := by
  refine VF_of P_mixed Try.func25 rfl rfl (by kernel_rfl) ?_
  refine VCode.seq ?_
  refine VCode.region ?_
  refine VList.go1 (n' := 1) rfl rfl (.alloc _ _ P_zero24 (List.cons_ne_nil _ _)) rfl ?_
  refine VList.go0 (n' := 2) rfl rfl (.assign _ _ rfl) rfl ?_
  refine VList.nil (Then.go ?_)
  refine VCode.seq ?_
  refine VCode.region ?_
  refine VList.go0 (n' := 3) rfl rfl (.move _ _ rfl) rfl ?_
  refine VList.go0 (n' := 4) rfl rfl (.assign _ _ rfl) rfl ?_
  refine VList.nil (Then.go ?_)
  refine VCode.join (α := (ByteArray)) (fun (d : (ByteArray)) => (1, sl [(0, .b (.lit (.string (s)))), (2, .ptr 0 (0)), (4, .b (.lit (.string (d))))], en [(0, ⟨2, [vB (false), vS ([])], true⟩)])) (fun (d : (ByteArray)) => d = digS s) ?_ ?_
  · skip
    refine VCode.seq ?_
    refine VCode.region ?_
    refine VList.go0 (n' := 5) rfl rfl (.move _ _ rfl) rfl ?_
    refine VList.go0 (n' := 6) rfl rfl (.bin _ _ _ _ _ _ _ _ rfl rfl rfl) rfl ?_
    refine VList.go0 (n' := 7) rfl rfl (.move _ _ rfl) rfl ?_
    refine VList.split (d := 11) _ rfl (fun hc1 => ?_) (fun hc1 => ?_)
    · replace hc1 := strEq_f (bnot_t hc1)
      refine VList.go0 (n' := 8) rfl rfl (.move _ _ rfl) rfl ?_
      have hpos0 := size_pos (show s ≠ ⟨#[]⟩ by assumption)
      refine VList.go0 (n' := 9) rfl rfl (Eff.indexSN (q := 0) rfl rfl Try.underlying9 (by first | omega | (simp; done) | (simp; omega))) rfl ?_
      refine VList.go0 (n' := 10) rfl rfl (.bin _ _ _ _ _ _ _ _ rfl rfl rfl) rfl ?_
      refine VList.go0 (n' := 11) rfl rfl (.pick _ _ _ _ _ rfl rfl) rfl ?_
      refine VList.nil (Then.go ?_)
      refine VCode.cond _ rfl (fun hc2 => ?_) (fun hc2 => ?_)
      · replace hc2 := eq_of_beq hc2
        refine VCode.region ?_
        refine VList.go0 (n' := 12) rfl rfl (.move _ _ rfl) rfl ?_
        have hpos1 := size_pos (show s ≠ ⟨#[]⟩ by assumption)
        refine VList.go0 (n' := 13) rfl rfl (Eff.strFromN (q := 1) rfl rfl Try.underlying9 (by first | omega | (simp; done) | (simp; omega))) rfl ?_
        refine VList.go0 (n' := 14) rfl rfl (.assign _ _ rfl) rfl ?_
        exact VList.nil (Joins.go ((s).extract (1) (s).size) (dig_yes (by rw [← neg_in (size_pos (by assumption))]; simp; assumption)) (Weak.of (show 0 ≤ 1 by decide) ⟨⟨rfl, rfl⟩, ⟨⟨rfl, rfl⟩, ⟨⟨rfl, rfl⟩, trivial⟩⟩⟩ ⟨⟨rfl, (show 0 < 1 by decide), (by intro v_ hv_; simp at hv_; rcases hv_ with rfl | rfl <;> rfl)⟩, trivial⟩))
      · replace hc2 := ne_of_beq_false hc2
        exact VCode.skip (Joins.go (s) (dig_no (by rw [← neg_in (size_pos (by assumption))]; simp; assumption)) (Weak.of (show 0 ≤ 1 by decide) ⟨⟨rfl, rfl⟩, ⟨⟨rfl, rfl⟩, ⟨⟨rfl, rfl⟩, trivial⟩⟩⟩ ⟨⟨rfl, (show 0 < 1 by decide), (by intro v_ hv_; simp at hv_; rcases hv_ with rfl | rfl <;> rfl)⟩, trivial⟩))
    · replace hc1 := strEq_t (bnot_f hc1)
      refine VList.skip (n' := 8) rfl rfl rfl ?_
      refine VList.skip (n' := 9) rfl rfl rfl ?_
      refine VList.skip (n' := 10) rfl rfl rfl ?_
      refine VList.go0 (n' := 11) rfl rfl (.pick _ _ _ _ _ rfl rfl) rfl ?_
      refine VList.nil (Then.go ?_)
      refine VCode.cond _ rfl (fun h_ => Bool.noConfusion h_) (fun _ => ?_)
      exact VCode.skip (Joins.go (s) (dig_no (neg_out (by have h : s = ⟨#[]⟩ := (by assumption); rw [h]; decide))) (Weak.of (show 0 ≤ 1 by decide) ⟨⟨rfl, rfl⟩, ⟨⟨rfl, rfl⟩, ⟨⟨rfl, rfl⟩, trivial⟩⟩⟩ ⟨⟨rfl, (show 0 < 1 by decide), (by intro v_ hv_; simp at hv_; rcases hv_ with rfl | rfl <;> rfl)⟩, trivial⟩))
  · intro d hd
    have hds := digS_size s
    rw [← hd] at hds
    show VCode Try.prog 0 _ 1 (sl [(0, .b (.lit (.string (s)))), (2, .ptr 0 (0)), (4, .b (.lit (.string (d))))]) (en [(0, ⟨2, [vB (false), vS ([])], true⟩)]) _
    refine VCode.join (α := (Unit)) (fun (u : (Unit)) => (1, sl [(0, .b (.lit (.string (s)))), (2, .ptr 0 (0)), (4, .b (.lit (.string (d))))], en [(0, ⟨2, [vB (false), vS ([])], true⟩)])) (fun (u : (Unit)) => preS s = true) ?_ ?_
    · skip
      refine VCode.seq ?_
      refine VCode.region ?_
      refine VList.go0 (n' := 2) rfl rfl (.move _ _ rfl) rfl ?_
      refine VList.go0 (n' := 3) rfl rfl (.bin _ _ _ _ _ _ _ _ rfl rfl rfl) rfl ?_
      refine VList.go0 (n' := 4) rfl rfl (.move _ _ rfl) rfl ?_
      refine VList.split (d := 20) _ rfl (fun hc3 => ?_) (fun hc3 => ?_)
      · replace hc3 := strEq_t hc3
        refine VList.skip (n' := 5) rfl rfl rfl ?_
        refine VList.skip (n' := 6) rfl rfl rfl ?_
        refine VList.skip (n' := 7) rfl rfl rfl ?_
        refine VList.skip (n' := 8) rfl rfl rfl ?_
        refine VList.skip (n' := 9) rfl rfl rfl ?_
        refine VList.skip (n' := 10) rfl rfl rfl ?_
        refine VList.skip (n' := 11) rfl rfl rfl ?_
        refine VList.go0 (n' := 12) rfl rfl (.pick _ _ _ _ _ rfl rfl) rfl ?_
        refine VList.nil (Then.go ?_)
        refine VCode.cond _ rfl (fun _ => ?_) (fun h_ => Bool.noConfusion h_)
        refine VCode.seq ?_
        refine VCode.region ?_
        refine VList.go0 (n' := 13) rfl rfl Eff.int0 rfl ?_
        refine VList.goS (n' := 14) rfl rfl (.store _ _ _ _ _ _ _ rfl rfl rfl rfl P_sz24 (Nat.le_of_ble_eq_true rfl) rfl) rfl ?_
        refine VList.go0 (n' := 15) rfl rfl (.assign _ _ rfl) rfl ?_
        refine VList.nil (Then.go ?_)
        exact VCode.ret (Joins.ret (⟨trivial, [.agg [boolB (false), u32S ([])], numB .i64 (3)], (resVars_cons (resVar_cell rfl rfl P_agg24 P_sz24 (Nat.le_of_ble_eq_true rfl) rfl) (resVars_cons (resVar_tmp rfl rfl) resVars_nil)), (by rw [pr_bad (ok_empty (by rw [← hd]; assumption))]; rfl)⟩))
      · replace hc3 := strEq_f hc3
        refine VList.go0 (n' := 5) rfl rfl (.move _ _ rfl) rfl ?_
        have hpos := size_pos (show d ≠ ⟨#[]⟩ by assumption)
        refine VList.go0 (n' := 6) rfl rfl (Eff.indexSN (q := 0) rfl rfl Try.underlying9 (by first | omega | (simp; done) | (simp; omega))) rfl ?_
        refine VList.go0 (n' := 7) rfl rfl (.bin _ _ _ _ _ _ _ _ rfl rfl rfl) rfl ?_
        refine VList.go0 (n' := 8) rfl rfl (.move _ _ rfl) rfl ?_
        refine VList.split (d := 24) _ rfl (fun hc4 => ?_) (fun hc4 => ?_)
        · replace hc4 := eq_of_beq hc4
          refine VList.go0 (n' := 9) rfl rfl (.move _ _ rfl) rfl ?_
          refine VList.go0 (n' := 10) rfl rfl (.bin _ _ _ _ _ _ _ _ rfl rfl rfl) rfl ?_
          refine VList.go0 (n' := 11) rfl rfl (.pick _ _ _ _ _ rfl rfl) rfl ?_
          refine VList.go0 (n' := 12) rfl rfl (.pick _ _ _ _ _ rfl rfl) rfl ?_
          refine VList.nil (Then.go ?_)
          refine VCode.cond _ rfl (fun hc5 => ?_) (fun hc5 => ?_)
          · replace hc5 := strEq_f (bnot_t hc5)
            refine VCode.seq ?_
            refine VCode.region ?_
            refine VList.go0 (n' := 13) rfl rfl Eff.int0 rfl ?_
            refine VList.goS (n' := 14) rfl rfl (.store _ _ _ _ _ _ _ rfl rfl rfl rfl P_sz24 (Nat.le_of_ble_eq_true rfl) rfl) rfl ?_
            refine VList.go0 (n' := 15) rfl rfl (.assign _ _ rfl) rfl ?_
            refine VList.nil (Then.go ?_)
            exact VCode.ret (Joins.ret (⟨trivial, [.agg [boolB (false), u32S ([])], numB .i64 (3)], (resVars_cons (resVar_cell rfl rfl P_agg24 P_sz24 (Nat.le_of_ble_eq_true rfl) rfl) (resVars_cons (resVar_tmp rfl rfl) resVars_nil)), (by rw [pr_bad (ok_zero (by rw [← hd]; assumption) (by assumption))]; rfl)⟩))
          · replace hc5 := strEq_t (bnot_f hc5)
            exact VCode.skip (Joins.go (()) (pre_a (by rw [← hd]; assumption) (by assumption)) (Weak.of (show 0 ≤ 1 by decide) ⟨⟨rfl, rfl⟩, ⟨⟨rfl, rfl⟩, ⟨⟨rfl, rfl⟩, trivial⟩⟩⟩ ⟨⟨rfl, (show 0 < 1 by decide), (by intro v_ hv_; simp at hv_; rcases hv_ with rfl | rfl <;> rfl)⟩, trivial⟩))
        · replace hc4 := ne_of_beq_false hc4
          refine VList.skip (n' := 9) rfl rfl rfl ?_
          refine VList.skip (n' := 10) rfl rfl rfl ?_
          refine VList.go0 (n' := 11) rfl rfl (.pick _ _ _ _ _ rfl rfl) rfl ?_
          refine VList.go0 (n' := 12) rfl rfl (.pick _ _ _ _ _ rfl rfl) rfl ?_
          refine VList.nil (Then.go ?_)
          refine VCode.cond _ rfl (fun h_ => Bool.noConfusion h_) (fun _ => ?_)
          exact VCode.skip (Joins.go (()) (pre_b (by rw [← hd]; assumption) (by rw [← hd]; assumption)) (Weak.of (show 0 ≤ 1 by decide) ⟨⟨rfl, rfl⟩, ⟨⟨rfl, rfl⟩, ⟨⟨rfl, rfl⟩, trivial⟩⟩⟩ ⟨⟨rfl, (show 0 < 1 by decide), (by intro v_ hv_; simp at hv_; rcases hv_ with rfl | rfl <;> rfl)⟩, trivial⟩))
    · intro u hpre
      show VCode Try.prog 0 _ 1 (sl [(0, .b (.lit (.string (s)))), (2, .ptr 0 (0)), (4, .b (.lit (.string (d))))]) (en [(0, ⟨2, [vB (false), vS ([])], true⟩)]) _
      refine VCode.join (α := (Unit)) (fun (u : (Unit)) => (1, sl [(0, .b (.lit (.string (s)))), (2, .ptr 0 (0)), (4, .b (.lit (.string (d))))], en [(0, ⟨2, [vB (false), vS ([])], true⟩)])) (fun (u : (Unit)) => okS s = true) ?_ ?_
      · skip
        refine VCode.seq ?_
        refine VCode.region ?_
        refine VList.go0 (n' := 2) rfl rfl (.assign _ _ rfl) rfl ?_
        refine VList.nil (Then.go ?_)
        refine VCode.block ?_
        refine VCode.loop (α := (Nat)) (fun (i : (Nat)) => (1, sl [(0, .b (.lit (.string (s)))), (2, .ptr 0 (0)), (4, .b (.lit (.string (d)))), (5, vI .i64 ((i : Int)))], en [(0, ⟨2, [vB (false), vS ([])], true⟩)])) (fun (i : (Nat)) => i ≤ d.size ∧ ∀ j, j < i → 48 ≤ at8 d j ∧ at8 d j ≤ 57) (fun (i : (Nat)) => d.size - i) (0) ⟨by omega, fun j hj => by omega⟩ (Weak.of (show 0 ≤ 1 by decide) ⟨⟨rfl, rfl⟩, ⟨⟨rfl, rfl⟩, ⟨⟨rfl, rfl⟩, ⟨⟨rfl, rfl⟩, trivial⟩⟩⟩⟩ ⟨⟨rfl, (show 0 < 1 by decide), (by intro v_ hv_; simp at hv_; rcases hv_ with rfl | rfl <;> rfl)⟩, trivial⟩) ?_
        intro i hok2
        show VCode Try.prog 0 _ 1 (sl [(0, .b (.lit (.string (s)))), (2, .ptr 0 (0)), (4, .b (.lit (.string (d)))), (5, vI .i64 ((i : Int)))]) (en [(0, ⟨2, [vB (false), vS ([])], true⟩)]) _
        refine VCode.seq ?_
        refine VCode.seq ?_
        refine VCode.region ?_
        refine VList.go0 (n' := 2) rfl rfl (.move _ _ rfl) rfl ?_
        refine VList.go0 (n' := 3) rfl rfl (.move _ _ rfl) rfl ?_
        refine VList.go0 (n' := 4) rfl rfl (.lenStr _ _ _ rfl Try.underlying9) rfl ?_
        refine VList.go0 (n' := 5) rfl rfl (.bin _ _ _ _ _ _ _ _ rfl rfl rfl) rfl ?_
        refine VList.nil (Then.go ?_)
        refine VCode.cond _ rfl (fun hc6 => ?_) (fun hc6 => ?_)
        · replace hc6 := of_decide_eq_true hc6
          refine VCode.skip (Then.go ?_)
          refine VCode.seq ?_
          refine VCode.block ?_
          refine VCode.seq ?_
          have hr := at8_range d i
          refine VCode.region ?_
          refine VList.go0 (n' := 6) rfl rfl (.move _ _ rfl) rfl ?_
          refine VList.go0 (n' := 7) rfl rfl (.move _ _ rfl) rfl ?_
          refine VList.go0 (n' := 8) rfl rfl (Eff.indexSN (q := i) rfl rfl Try.underlying9 (by first | omega | (simp; done) | (simp; omega))) rfl ?_
          refine VList.go0 (n' := 9) rfl rfl (.bin _ _ _ _ _ _ _ _ rfl rfl rfl) rfl ?_
          refine VList.go0 (n' := 10) rfl rfl (.move _ _ rfl) rfl ?_
          refine VList.split (d := 40) _ rfl (fun hc7 => ?_) (fun hc7 => ?_)
          · replace hc7 := of_decide_eq_true hc7
            refine VList.skip (n' := 11) rfl rfl rfl ?_
            refine VList.skip (n' := 12) rfl rfl rfl ?_
            refine VList.skip (n' := 13) rfl rfl rfl ?_
            refine VList.skip (n' := 14) rfl rfl rfl ?_
            refine VList.go0 (n' := 15) rfl rfl (.pick _ _ _ _ _ rfl rfl) rfl ?_
            refine VList.nil (Then.go ?_)
            refine VCode.cond _ rfl (fun _ => ?_) (fun h_ => Bool.noConfusion h_)
            refine VCode.seq ?_
            refine VCode.region ?_
            refine VList.go0 (n' := 16) rfl rfl Eff.int0 rfl ?_
            refine VList.goS (n' := 17) rfl rfl (.store _ _ _ _ _ _ _ rfl rfl rfl rfl P_sz24 (Nat.le_of_ble_eq_true rfl) rfl) rfl ?_
            refine VList.go0 (n' := 18) rfl rfl (.assign _ _ rfl) rfl ?_
            refine VList.nil (Then.go ?_)
            exact VCode.ret (InBlock.ret (Then.ret (Round.ret (InBlock.ret (Joins.ret (⟨trivial, [.agg [boolB (false), u32S ([])], numB .i64 (3)], (resVars_cons (resVar_cell rfl rfl P_agg24 P_sz24 (Nat.le_of_ble_eq_true rfl) rfl) (resVars_cons (resVar_tmp rfl rfl) resVars_nil)), (by rw [pr_bad (ok_bad (i := i) (by rw [← hd]; omega) (by rw [← hd]; omega))]; rfl)⟩))))))
          · replace hc7 := of_decide_eq_false hc7
            refine VList.go0 (n' := 11) rfl rfl (.move _ _ rfl) rfl ?_
            refine VList.go0 (n' := 12) rfl rfl (.move _ _ rfl) rfl ?_
            refine VList.go0 (n' := 13) rfl rfl (Eff.indexSN (q := i) rfl rfl Try.underlying9 (by first | omega | (simp; done) | (simp; omega))) rfl ?_
            refine VList.go0 (n' := 14) rfl rfl (.bin _ _ _ _ _ _ _ _ rfl rfl rfl) rfl ?_
            refine VList.go0 (n' := 15) rfl rfl (.pick _ _ _ _ _ rfl rfl) rfl ?_
            refine VList.nil (Then.go ?_)
            refine VCode.cond _ rfl (fun hc8 => ?_) (fun hc8 => ?_)
            · replace hc8 := of_decide_eq_true hc8
              refine VCode.seq ?_
              refine VCode.region ?_
              refine VList.go0 (n' := 16) rfl rfl Eff.int0 rfl ?_
              refine VList.goS (n' := 17) rfl rfl (.store _ _ _ _ _ _ _ rfl rfl rfl rfl P_sz24 (Nat.le_of_ble_eq_true rfl) rfl) rfl ?_
              refine VList.go0 (n' := 18) rfl rfl (.assign _ _ rfl) rfl ?_
              refine VList.nil (Then.go ?_)
              exact VCode.ret (InBlock.ret (Then.ret (Round.ret (InBlock.ret (Joins.ret (⟨trivial, [.agg [boolB (false), u32S ([])], numB .i64 (3)], (resVars_cons (resVar_cell rfl rfl P_agg24 P_sz24 (Nat.le_of_ble_eq_true rfl) rfl) (resVars_cons (resVar_tmp rfl rfl) resVars_nil)), (by rw [pr_bad (ok_bad (i := i) (by rw [← hd]; omega) (by rw [← hd]; omega))]; rfl)⟩))))))
            · replace hc8 := of_decide_eq_false hc8
              refine VCode.skip (InBlock.go (Then.go ?_))
              refine VCode.region ?_
              refine VList.go0 (n' := 16) rfl rfl (.move _ _ rfl) rfl ?_
              refine VList.go0 (n' := 17) rfl rfl (.bin _ _ _ _ _ _ _ _ rfl rfl (bop_add_i64 (by first | omega | (simp; done) | (simp; omega)))) rfl ?_
              refine VList.go0 (n' := 18) rfl rfl (.assign _ _ rfl) rfl ?_
              exact VList.nil (Round.go (i + 1) ⟨by omega, fun j hj => by rcases Nat.lt_or_eq_of_le (Nat.le_of_lt_succ hj) with h | h; exact hok2.2 j h; subst h; omega⟩ (by first | (dsimp only; omega) | omega) (Weak.of (show 0 ≤ 1 by decide) ⟨⟨rfl, rfl⟩, ⟨⟨rfl, rfl⟩, ⟨⟨rfl, rfl⟩, ⟨⟨rfl, rfl⟩, trivial⟩⟩⟩⟩ ⟨⟨rfl, (show 0 < 1 by decide), (by intro v_ hv_; simp at hv_; rcases hv_ with rfl | rfl <;> rfl)⟩, trivial⟩))
        · replace hc6 := of_decide_eq_false hc6
          exact VCode.exit (Then.exit (Round.exit (InBlock.here (Joins.go (()) (ok_good hpre (fun j hj => by rw [← hd] at hj ⊢; exact hok2.2 j (by omega))) (Weak.of (show 0 ≤ 1 by decide) ⟨⟨rfl, rfl⟩, ⟨⟨rfl, rfl⟩, ⟨⟨rfl, rfl⟩, trivial⟩⟩⟩ ⟨⟨rfl, (show 0 < 1 by decide), (by intro v_ hv_; simp at hv_; rcases hv_ with rfl | rfl <;> rfl)⟩, trivial⟩)))))
      · intro u ho
        have hnum := ok_num ho
        rw [← hd] at hnum
        show VCode Try.prog 0 _ 1 (sl [(0, .b (.lit (.string (s)))), (2, .ptr 0 (0)), (4, .b (.lit (.string (d))))]) (en [(0, ⟨2, [vB (false), vS ([])], true⟩)]) _
        refine VCode.seq ?_
        refine VCode.region ?_
        refine VList.go0 (n' := 2) rfl rfl (.assign _ _ rfl) rfl ?_
        refine VList.nil (Then.go ?_)
        refine VCode.seq ?_
        refine VCode.seq ?_
        refine VCode.region ?_
        refine VList.go0 (n' := 3) rfl rfl (.assign _ _ rfl) rfl ?_
        refine VList.nil (Then.go ?_)
        refine VCode.block ?_
        refine VCode.loop (α := (Nat) × (List Int)) (fun (x_ : (Nat) × (List Int)) => match x_ with | (i, X) => (1, sl [(0, .b (.lit (.string (s)))), (2, .ptr 0 (0)), (4, .b (.lit (.string (d)))), (6, vS (X)), (7, vI .i64 ((i : Int)))], en [(0, ⟨2, [vB (false), vS ([])], true⟩)])) (fun (x_ : (Nat) × (List Int)) => match x_ with | (i, X) => (norm X ∧ X.length ≤ 130) ∧ val X = pvn d i ∧ i ≤ d.size) (fun (x_ : (Nat) × (List Int)) => match x_ with | (i, X) => d.size - i) (0, []) ⟨⟨⟨ok32_nil, .inl rfl⟩, by simp⟩, rfl, by omega⟩ (Weak.of (show 0 ≤ 1 by decide) ⟨⟨rfl, rfl⟩, ⟨⟨rfl, rfl⟩, ⟨⟨rfl, rfl⟩, ⟨⟨rfl, rfl⟩, ⟨⟨rfl, rfl⟩, trivial⟩⟩⟩⟩⟩ ⟨⟨rfl, (show 0 < 1 by decide), (by intro v_ hv_; simp at hv_; rcases hv_ with rfl | rfl <;> rfl)⟩, trivial⟩) ?_
        rintro ⟨i, X⟩ hok3
        obtain ⟨⟨nX, lX⟩, hX, hi⟩ := hok3
        show VCode Try.prog 0 _ 1 (sl [(0, .b (.lit (.string (s)))), (2, .ptr 0 (0)), (4, .b (.lit (.string (d)))), (6, vS (X)), (7, vI .i64 ((i : Int)))]) (en [(0, ⟨2, [vB (false), vS ([])], true⟩)]) _
        refine VCode.seq ?_
        refine VCode.seq ?_
        refine VCode.region ?_
        refine VList.go0 (n' := 2) rfl rfl (.move _ _ rfl) rfl ?_
        refine VList.go0 (n' := 3) rfl rfl (.move _ _ rfl) rfl ?_
        refine VList.go0 (n' := 4) rfl rfl (.lenStr _ _ _ rfl Try.underlying9) rfl ?_
        refine VList.go0 (n' := 5) rfl rfl (.bin _ _ _ _ _ _ _ _ rfl rfl rfl) rfl ?_
        refine VList.go0 (n' := 6) rfl rfl (.move _ _ rfl) rfl ?_
        refine VList.split (d := 51) _ rfl (fun hc9 => ?_) (fun hc9 => ?_)
        · replace hc9 := of_decide_eq_true hc9
          refine VList.go0 (n' := 7) rfl rfl (.move _ _ rfl) rfl ?_
          refine VList.go0 (n' := 8) rfl rfl (Eff.lenS rfl Try.underlying22) rfl ?_
          refine VList.go0 (n' := 9) rfl rfl (.bin _ _ _ _ _ _ _ _ rfl rfl rfl) rfl ?_
          refine VList.go0 (n' := 10) rfl rfl (.pick _ _ _ _ _ rfl rfl) rfl ?_
          refine VList.nil (Then.go ?_)
          refine VCode.cond _ rfl (fun hc10 => ?_) (fun hc10 => ?_)
          · replace hc10 := of_decide_eq_true hc10
            refine VCode.skip (Then.go ?_)
            refine VCode.seq ?_
            refine VCode.block ?_
            have hnum2 := hnum i (by omega)
            refine VCode.draw (by kernel_rfl) ?_
            refine VLog.go0 (n' := 11) rfl rfl (.move _ _ rfl) rfl ?_
            refine VLog.go1 (n' := 12) rfl rfl (Eff.lits1 rfl Try.underlying22 P_zero51 P_sz51) rfl ?_
            refine VLog.goN (n' := 13) rfl rfl (.callV _ _ _ _ _ _ rfl (ress_cons rfl (ress_cons (res_row rfl (by first | omega | (simp; done) | (simp; omega) | (simp [*]; done) | (simp [*]; omega))) ress_nil)) (f65 _ _ (by first | omega | assumption | (simp; done) | (simp; omega)) (by first | omega | assumption | (simp; done) | (simp; omega)) (nX.1) (ok32_cons.2 ⟨by omega, ok32_nil⟩))) rfl ?_
            refine VLog.go0 (n' := 14) rfl rfl (.move _ _ rfl) rfl ?_
            refine VLog.go0 (n' := 15) rfl rfl (.move _ _ rfl) rfl ?_
            refine VLog.go0 (n' := 16) rfl rfl (Eff.indexSN (q := i) rfl rfl Try.underlying9 (by first | omega | (simp; done) | (simp; omega))) rfl ?_
            refine VLog.go0 (n' := 17) rfl rfl (.bin _ _ _ _ _ _ _ _ rfl rfl (bop_sub_u8 (by first | omega | (simp; done) | (simp; omega)))) rfl ?_
            refine VLog.go0 (n' := 18) rfl rfl (Eff.convN_u32 rfl Try.underlying5 Try.underlying51 (by first | omega | (simp; done) | (simp; omega))) rfl ?_
            refine VLog.go1 (n' := 19) rfl rfl (Eff.lits1 rfl Try.underlying22 P_zero51 P_sz51) rfl ?_
            refine VLog.goN (n' := 20) rfl rfl (.callV _ _ _ _ _ _ rfl (ress_cons (res_row rfl (by first | omega | (simp; done) | (simp; omega) | (simp [*]; done) | (simp [*]; omega))) ress_nil) (f66 _ (by simp) (ok32_cons.2 ⟨by omega, ok32_nil⟩))) rfl ?_
            refine VLog.go0 (n' := 21) rfl rfl (Eff.callV0 rfl (ress_cons rfl (ress_cons rfl ress_nil)) (f56 _ _ (mulw_len nX.1 (by omega) (by omega) (by omega)) (Nat.le_trans (len_le (L := [at8 d i - 48]) (ok32_cons.2 ⟨by omega, ok32_nil⟩) (by simp [val]; omega) (by simp [val])) (by simp)) (ok32_dg _) (ok32_dg _)) rfl) rfl ?_
            refine VLog.go0 (n' := 22) rfl rfl (.assign _ _ rfl) rfl ?_
            refine VLog.nil ⟨by kernel_rfl, InBlock.go (Then.go ?_)⟩
            refine VCode.region ?_
            refine VList.go0 (n' := 23) rfl rfl (.move _ _ rfl) rfl ?_
            refine VList.go0 (n' := 24) rfl rfl (.bin _ _ _ _ _ _ _ _ rfl rfl (bop_add_i64 (by first | omega | (simp; done) | (simp; omega)))) rfl ?_
            refine VList.go0 (n' := 25) rfl rfl (.assign _ _ rfl) rfl ?_
            exact VList.nil (Round.go (i + 1, dg (val (dg (val (X) * val ([10]))) + val (dg (val ([(at8 (d) (i) - 48)]))))) ⟨⟨norm_dg _, par_len nX.1 (by omega) (by omega) (by omega)⟩, par_step (by omega) hnum2 nX.1 hX, by omega⟩ (by first | (dsimp only; omega) | omega) (Weak.of (show 0 ≤ 1 by decide) ⟨⟨rfl, rfl⟩, ⟨⟨rfl, rfl⟩, ⟨⟨rfl, rfl⟩, ⟨⟨rfl, rfl⟩, ⟨⟨rfl, rfl⟩, trivial⟩⟩⟩⟩⟩ ⟨⟨rfl, (show 0 < 1 by decide), (by intro v_ hv_; simp at hv_; rcases hv_ with rfl | rfl <;> rfl)⟩, trivial⟩))
          · replace hc10 := of_decide_eq_false hc10
            refine VCode.exit (Then.exit (Round.exit (InBlock.here (Then.go ?_))))
            refine VCode.seq ?_
            have hpf := par_fin ho nX (i := i) (by rw [← hd]; exact hX) (by rw [← hd]; omega)
            refine VCode.region ?_
            refine VList.go0 (n' := 11) rfl rfl (.move _ _ rfl) rfl ?_
            refine VList.go0 (n' := 12) rfl rfl (.lenStr _ _ _ rfl Try.underlying9) rfl ?_
            refine VList.go0 (n' := 13) rfl rfl (.move _ _ rfl) rfl ?_
            refine VList.go0 (n' := 14) rfl rfl (.lenStr _ _ _ rfl Try.underlying9) rfl ?_
            refine VList.go0 (n' := 15) rfl rfl (.bin _ _ _ _ _ _ _ _ rfl rfl rfl) rfl ?_
            refine VList.go0 (n' := 16) rfl rfl (.move _ _ rfl) rfl ?_
            refine VList.go0 (n' := 17) rfl rfl (Eff.callV0 rfl (ress_cons rfl (ress_cons rfl ress_nil)) (f58 _ _ (by first | omega | assumption | (simp; done) | (simp; omega)) (nX.1)) rfl) rfl ?_
            refine VList.go0 (n' := 18) rfl rfl (.extract _ _ _ _ rfl rfl) rfl ?_
            refine VList.go0 (n' := 19) rfl rfl (.extract _ _ _ _ rfl rfl) rfl ?_
            refine VList.goS (n' := 20) rfl rfl (.store _ _ _ _ _ _ _ rfl rfl rfl rfl P_sz24 (Nat.le_of_ble_eq_true rfl) rfl) rfl ?_
            refine VList.go0 (n' := 21) rfl rfl (.assign _ _ rfl) rfl ?_
            refine VList.nil (Then.go ?_)
            exact VCode.ret (⟨trivial, [.agg [boolB (zN (sg (decide (((d).size : Int) < ((s).size : Int))) (val (X)))), u32S (zL (sg (decide (((d).size : Int) < ((s).size : Int))) (val (X))))], numB .i64 (zE (sg (decide (((d).size : Int) < ((s).size : Int))) (val (X))))], (resVars_cons (resVar_cell rfl rfl P_agg24 P_sz24 (Nat.le_of_ble_eq_true rfl) rfl) (resVars_cons (resVar_tmp rfl rfl) resVars_nil)), (by rw [pr_ok ho, ← hpf, ← neg_size_lt, ← hd]; rfl)⟩)
        · replace hc9 := of_decide_eq_false hc9
          refine VList.skip (n' := 7) rfl rfl rfl ?_
          refine VList.skip (n' := 8) rfl rfl rfl ?_
          refine VList.skip (n' := 9) rfl rfl rfl ?_
          refine VList.go0 (n' := 10) rfl rfl (.pick _ _ _ _ _ rfl rfl) rfl ?_
          refine VList.nil (Then.go ?_)
          refine VCode.cond _ rfl (fun h_ => Bool.noConfusion h_) (fun _ => ?_)
          refine VCode.exit (Then.exit (Round.exit (InBlock.here (Then.go ?_))))
          refine VCode.seq ?_
          have hpf := par_fin ho nX (i := i) (by rw [← hd]; exact hX) (by rw [← hd]; omega)
          refine VCode.region ?_
          refine VList.go0 (n' := 11) rfl rfl (.move _ _ rfl) rfl ?_
          refine VList.go0 (n' := 12) rfl rfl (.lenStr _ _ _ rfl Try.underlying9) rfl ?_
          refine VList.go0 (n' := 13) rfl rfl (.move _ _ rfl) rfl ?_
          refine VList.go0 (n' := 14) rfl rfl (.lenStr _ _ _ rfl Try.underlying9) rfl ?_
          refine VList.go0 (n' := 15) rfl rfl (.bin _ _ _ _ _ _ _ _ rfl rfl rfl) rfl ?_
          refine VList.go0 (n' := 16) rfl rfl (.move _ _ rfl) rfl ?_
          refine VList.go0 (n' := 17) rfl rfl (Eff.callV0 rfl (ress_cons rfl (ress_cons rfl ress_nil)) (f58 _ _ (by first | omega | assumption | (simp; done) | (simp; omega)) (nX.1)) rfl) rfl ?_
          refine VList.go0 (n' := 18) rfl rfl (.extract _ _ _ _ rfl rfl) rfl ?_
          refine VList.go0 (n' := 19) rfl rfl (.extract _ _ _ _ rfl rfl) rfl ?_
          refine VList.goS (n' := 20) rfl rfl (.store _ _ _ _ _ _ _ rfl rfl rfl rfl P_sz24 (Nat.le_of_ble_eq_true rfl) rfl) rfl ?_
          refine VList.go0 (n' := 21) rfl rfl (.assign _ _ rfl) rfl ?_
          refine VList.nil (Then.go ?_)
          exact VCode.ret (⟨trivial, [.agg [boolB (zN (sg (decide (((d).size : Int) < ((s).size : Int))) (val (X)))), u32S (zL (sg (decide (((d).size : Int) < ((s).size : Int))) (val (X))))], numB .i64 (zE (sg (decide (((d).size : Int) < ((s).size : Int))) (val (X))))], (resVars_cons (resVar_cell rfl rfl P_agg24 P_sz24 (Nat.le_of_ble_eq_true rfl) rfl) (resVars_cons (resVar_tmp rfl rfl) resVars_nil)), (by rw [pr_ok ho, ← hpf, ← neg_size_lt, ← hd]; rfl)⟩)
end Go.VL

/- Walks over the Go functions, printed by a program of this session over the kit's print, and by hand. -/
set_option linter.unusedVariables false
set_option linter.unusedSimpArgs false
namespace Go.VL
open Go.Proofs
theorem f45 (n : Bool) (A : List Int) (hA : A.length ≤ 9223372036854775807) (oA : ok32 A) : VF Try.prog 45 [.agg [boolB (n), u32S (A)]] (sqR (validB n A) (zOf n A)) := by
  refine VF_of P_mixed Try.func45 rfl rfl (by kernel_rfl) ?_
  refine VCode.seq ?_
  refine VCode.region ?_
  refine VList.go1 (n' := 1) rfl rfl (.box _ _ _ rfl (List.cons_ne_nil _ _) rfl) rfl ?_
  refine VList.go1 (n' := 2) rfl rfl (.alloc _ _ P_zero24 (List.cons_ne_nil _ _)) rfl ?_
  refine VList.go0 (n' := 3) rfl rfl (.assign _ _ rfl) rfl ?_
  refine VList.go0 (n' := 4) rfl rfl (.assign _ _ rfl) rfl ?_
  refine VList.nil (Then.go ?_)
  refine VCode.seq ?_
  refine VCode.seq ?_
  refine VCode.region ?_
  refine VList.go0 (n' := 5) rfl rfl (.loadS _ _ _ _ _ _ rfl rfl P_agg24 P_sz24 (Nat.le_of_ble_eq_true rfl)) rfl ?_
  refine VList.go0 (n' := 6) rfl rfl (.callF _ _ _ _ _ _ rfl (ress_cons rfl ress_nil) (f26 _ _ (by first | omega | assumption | (simp; done) | (simp; omega))) rfl) rfl ?_
  refine VList.go0 (n' := 7) rfl rfl (.un _ _ _ _ _ rfl rfl) rfl ?_
  refine VList.nil (Then.go ?_)
  refine VCode.cond _ rfl (fun hc1 => ?_) (fun hc1 => ?_)
  · replace hc1 := (bnot_t hc1)
    refine VCode.seq ?_
    refine VCode.region ?_
    refine VList.go0 (n' := 8) rfl rfl Eff.int0 rfl ?_
    refine VList.goS (n' := 9) rfl rfl (.store _ _ _ _ _ _ _ rfl rfl rfl rfl P_sz24 (Nat.le_of_ble_eq_true rfl) rfl) rfl ?_
    refine VList.go0 (n' := 10) rfl rfl (.assign _ _ rfl) rfl ?_
    refine VList.go0 (n' := 11) rfl rfl (.assign _ _ rfl) rfl ?_
    refine VList.nil (Then.go ?_)
    exact VCode.ret (Then.ret (⟨trivial, [.agg [boolB (false), u32S ([])], boolB (false), numB .i64 (1)], (resVars_cons (resVar_cell rfl rfl P_agg24 P_sz24 (Nat.le_of_ble_eq_true rfl) rfl) (resVars_cons (resVar_tmp rfl rfl) (resVars_cons (resVar_tmp rfl rfl) resVars_nil))), (by rw [sqR_bad hc1]; rfl)⟩))
  · replace hc1 := (bnot_f hc1)
    refine VCode.skip (Then.go ?_)
    refine VCode.seq ?_
    refine VCode.seq ?_
    obtain ⟨nA, lA, sA⟩ := valid_norm oA hc1
    refine VCode.region ?_
    refine VList.go0 (n' := 8) rfl rfl (.fieldAddr _ _ _ _ _ _ _ _ rfl P_fld24_0) rfl ?_
    refine VList.go0 (n' := 9) rfl rfl (.load1 _ _ _ _ _ _ rfl rfl P_agg4 rfl) rfl ?_
    refine VList.nil (Then.go ?_)
    refine VCode.cond _ rfl (fun hc2 => ?_) (fun hc2 => ?_)
    · (try simp at hc2)
      refine VCode.seq ?_
      refine VCode.region ?_
      refine VList.go0 (n' := 10) rfl rfl Eff.int0 rfl ?_
      refine VList.goS (n' := 11) rfl rfl (.store _ _ _ _ _ _ _ rfl rfl rfl rfl P_sz24 (Nat.le_of_ble_eq_true rfl) rfl) rfl ?_
      refine VList.go0 (n' := 12) rfl rfl (.assign _ _ rfl) rfl ?_
      refine VList.go0 (n' := 13) rfl rfl (.assign _ _ rfl) rfl ?_
      refine VList.nil (Then.go ?_)
      exact VCode.ret (Then.ret (⟨trivial, [.agg [boolB (false), u32S ([])], boolB (false), numB .i64 (5)], (resVars_cons (resVar_cell rfl rfl P_agg24 P_sz24 (Nat.le_of_ble_eq_true rfl) rfl) (resVars_cons (resVar_tmp rfl rfl) (resVars_cons (resVar_tmp rfl rfl) resVars_nil))), (by rw [sqR_neg hc1 (by have h2 : n = true := (by first | assumption | simpa using hc2); have := neg_pos nA sA h2; simp [zOf, sg, h2]; omega)]; rfl)⟩))
    · (try simp at hc2)
      refine VCode.skip (Then.go ?_)
      refine VCode.seq ?_
      have hn : n = false := by first | assumption | simpa using hc2
      have vA := val_nonneg oA
      have zA : zOf n A = val A := by rw [hn]; rfl
      refine VCode.region ?_
      refine VList.go0 (n' := 10) rfl rfl (.assign _ _ rfl) rfl ?_
      refine VList.nil (Then.go ?_)
      refine VCode.seq ?_
      refine VCode.region ?_
      refine VList.go0 (n' := 11) rfl rfl (.assign _ _ rfl) rfl ?_
      refine VList.nil (Then.go ?_)
      refine VCode.seq ?_
      refine VCode.seq ?_
      have bl : blen (val A).toNat ≤ 4096 := (blen_lt 4096 (val A).toNat).2 (blen_limit vA (val_limit oA lA))
      refine VCode.region ?_
      refine VList.go0 (n' := 12) rfl rfl (.fieldAddr _ _ _ _ _ _ _ _ rfl P_fld24_1) rfl ?_
      refine VList.go0 (n' := 13) rfl rfl (.load1 _ _ _ _ _ _ rfl rfl P_agg22 rfl) rfl ?_
      refine VList.go0 (n' := 14) rfl rfl (.callF _ _ _ _ _ _ rfl (ress_cons rfl ress_nil) (f78 _ (by first | omega | assumption | (simp; done) | (simp; omega)) (nA)) rfl) rfl ?_
      refine VList.go0 (n' := 15) rfl rfl (.bin _ _ _ _ _ _ _ _ rfl rfl (bop_add_i64 (by first | omega | (simp; done) | (simp; omega)))) rfl ?_
      refine VList.go0 (n' := 16) rfl rfl (.bin _ _ _ _ _ _ _ _ rfl rfl (bop_quo_i64 (by first | omega | (simp; done) | (simp; omega)) (by first | omega | (simp; done) | (simp; omega)) (by first | omega | (simp; done) | (simp; omega)))) rfl ?_
      refine VList.go0 (n' := 17) rfl rfl (.assign _ _ rfl) rfl ?_
      refine VList.nil (Then.go ?_)
      refine VCode.block ?_
      refine VCode.loop (α := (Int) × (List Int) × (List Int)) (fun (x_ : (Int) × (List Int) × (List Int)) => match x_ with | (q, U, R) => (2, sl [(1, .ptr 0 (0)), (2, .ptr 1 (0)), (5, vS (U)), (6, vS (R)), (7, vI .i64 (q))], en [(0, ⟨2, [vB (n), vS (A)], true⟩), (1, ⟨2, [vB (false), vS ([])], true⟩)])) (fun (x_ : (Int) × (List Int) × (List Int)) => match x_ with | (q, U, R) => RootInv (val A) U R q.toNat ∧ 0 ≤ q ∧ q ≤ 5000) (fun (x_ : (Int) × (List Int) × (List Int)) => match x_ with | (q, U, R) => q.toNat) (((((blen (val (A)).toNat : Nat) : Int) + 1) / 2), [], []) ⟨RootInv.start vA (blen_even vA (by omega)), by omega, by omega⟩ (Weak.of (show 0 ≤ 2 by decide) ⟨⟨rfl, rfl⟩, ⟨⟨rfl, rfl⟩, ⟨⟨rfl, rfl⟩, ⟨⟨rfl, rfl⟩, ⟨⟨rfl, rfl⟩, trivial⟩⟩⟩⟩⟩ ⟨⟨rfl, (show 0 < 2 by decide), (by intro v_ hv_; simp at hv_; rcases hv_ with rfl | rfl <;> rfl)⟩, ⟨⟨rfl, (show 1 < 2 by decide), (by intro v_ hv_; simp at hv_; rcases hv_ with rfl | rfl <;> rfl)⟩, trivial⟩⟩) ?_
      rintro ⟨q, U, R⟩ hok0
      obtain ⟨hok, hq0, hq1⟩ := hok0
      obtain ⟨hlU, hlR⟩ := hok.len oA
      show VCode Try.prog 0 _ 2 (sl [(1, .ptr 0 (0)), (2, .ptr 1 (0)), (5, vS (U)), (6, vS (R)), (7, vI .i64 (q))]) (en [(0, ⟨2, [vB (n), vS (A)], true⟩), (1, ⟨2, [vB (false), vS ([])], true⟩)]) _
      refine VCode.seq ?_
      refine VCode.seq ?_
      refine VCode.region ?_
      refine VList.go0 (n' := 3) rfl rfl (.move _ _ rfl) rfl ?_
      refine VList.go0 (n' := 4) rfl rfl (.bin _ _ _ _ _ _ _ _ rfl rfl rfl) rfl ?_
      refine VList.nil (Then.go ?_)
      refine VCode.cond _ rfl (fun hc3 => ?_) (fun hc3 => ?_)
      · replace hc3 := of_decide_eq_true hc3
        refine VCode.skip (Then.go ?_)
        refine VCode.seq ?_
        refine VCode.block ?_
        refine VCode.seq ?_
        obtain ⟨i, hi⟩ : ∃ i : Nat, q = (i : Int) + 1 := ⟨(q - 1).toNat, by omega⟩
        have e1 : (((2 * q) - 1)).toNat = 2 * i + 1 := by omega
        have e2 : (((2 * q) - 2)).toNat = 2 * i := by omega
        have hi0 : (q - 1).toNat = i := by omega
        have hI : RootInv (val A) U R (i + 1) := by rw [show i + 1 = q.toNat by omega]; exact hok
        have vR := val_nonneg hI.n2.1
        have vU := val_nonneg hI.n1.1
        have b1r : 0 ≤ (val (A) / 2 ^ (((2 * q) - 1)).toNat % 2) ∧ (val (A) / 2 ^ (((2 * q) - 1)).toNat % 2) < 2 := by omega
        have b0r : 0 ≤ (val (A) / 2 ^ (((2 * q) - 2)).toNat % 2) ∧ (val (A) / 2 ^ (((2 * q) - 2)).toNat % 2) < 2 := by omega
        have l1 : (dg (2 * val (R) + (val (A) / 2 ^ (((2 * q) - 1)).toNat % 2))).length ≤ 129 + 1 := dbl_len2 hI.n2.1 (by omega) b1r.1 b1r.2
        have l2 : (dg (2 * val (dg (2 * val (R) + (val (A) / 2 ^ (((2 * q) - 1)).toNat % 2))) + (val (A) / 2 ^ (((2 * q) - 2)).toNat % 2))).length ≤ 129 + 1 + 1 := dbl_len2 (ok32_dg _) l1 b0r.1 b0r.2
        have l3 : (dg (2 * val (U) + 0)).length ≤ 129 + 1 := dbl_len2 hI.n1.1 (by omega) (by omega) (by omega)
        have l4 : (dg (2 * val (dg (2 * val (U) + 0)) + 1)).length ≤ 129 + 1 + 1 := dbl_len2 (ok32_dg _) l3 (by omega) (by omega)
        have vRR : val (dg (2 * val (dg (2 * val (R) + (val (A) / 2 ^ (((2 * q) - 1)).toNat % 2))) + (val (A) / 2 ^ (((2 * q) - 2)).toNat % 2))) = 2 * (2 * val R + val A / 2 ^ (2 * i + 1) % 2) + val A / 2 ^ (2 * i) % 2 := by rw [val_dg (show 0 ≤ 2 * val R + (val (A) / 2 ^ (((2 * q) - 1)).toNat % 2) by omega), val_dg (by omega), e1, e2]
        have vTR : val (dg (2 * val (dg (2 * val (U) + 0)) + 1)) = 2 * (2 * val U + 0) + 1 := by rw [val_dg (show 0 ≤ 2 * val U + 0 by omega), val_dg (by omega)]
        have hst := hI.step vA vRR vTR
        refine VCode.draw (by kernel_rfl) ?_
        refine VLog.go0 (n' := 5) rfl rfl (.move _ _ rfl) rfl ?_
        refine VLog.go0 (n' := 6) rfl rfl (.fieldAddr _ _ _ _ _ _ _ _ rfl P_fld24_1) rfl ?_
        refine VLog.go0 (n' := 7) rfl rfl (.load1 _ _ _ _ _ _ rfl rfl P_agg22 rfl) rfl ?_
        refine VLog.go0 (n' := 8) rfl rfl (.move _ _ rfl) rfl ?_
        refine VLog.go0 (n' := 9) rfl rfl (.bin _ _ _ _ _ _ _ _ rfl rfl (bop_mul_i64 (by first | omega | (simp; done) | (simp; omega)))) rfl ?_
        refine VLog.go0 (n' := 10) rfl rfl (.bin _ _ _ _ _ _ _ _ rfl rfl (bop_sub_i64 (by first | omega | (simp; done) | (simp; omega)))) rfl ?_
        refine VLog.go0 (n' := 11) rfl rfl (.callF _ _ _ _ _ _ rfl (ress_cons rfl (ress_cons rfl ress_nil)) (f70 _ _ (by omega) (oA) (by omega) (by omega)) rfl) rfl ?_
        refine VLog.go0 (n' := 12) rfl rfl (Eff.callV0 rfl (ress_cons rfl (ress_cons rfl ress_nil)) (f79 _ _ (by first | omega | assumption | (simp; done) | (simp; omega)) (hI.n2.1) (by omega) (by omega)) rfl) rfl ?_
        refine VLog.go0 (n' := 13) rfl rfl (.fieldAddr _ _ _ _ _ _ _ _ rfl P_fld24_1) rfl ?_
        refine VLog.go0 (n' := 14) rfl rfl (.load1 _ _ _ _ _ _ rfl rfl P_agg22 rfl) rfl ?_
        refine VLog.go0 (n' := 15) rfl rfl (.move _ _ rfl) rfl ?_
        refine VLog.go0 (n' := 16) rfl rfl (.bin _ _ _ _ _ _ _ _ rfl rfl (bop_mul_i64 (by first | omega | (simp; done) | (simp; omega)))) rfl ?_
        refine VLog.go0 (n' := 17) rfl rfl (.bin _ _ _ _ _ _ _ _ rfl rfl (bop_sub_i64 (by first | omega | (simp; done) | (simp; omega)))) rfl ?_
        refine VLog.go0 (n' := 18) rfl rfl (.callF _ _ _ _ _ _ rfl (ress_cons rfl (ress_cons rfl ress_nil)) (f70 _ _ (by omega) (oA) (by omega) (by omega)) rfl) rfl ?_
        refine VLog.go0 (n' := 19) rfl rfl (Eff.callV0 rfl (ress_cons rfl (ress_cons rfl ress_nil)) (f79 _ _ (by omega) (ok32_dg _) (by omega) (by omega)) rfl) rfl ?_
        refine VLog.go0 (n' := 20) rfl rfl (.assign _ _ rfl) rfl ?_
        refine VLog.nil ⟨by kernel_rfl, Then.go ?_⟩
        refine VCode.seq ?_
        refine VCode.region ?_
        refine VList.go0 (n' := 21) rfl rfl (.move _ _ rfl) rfl ?_
        refine VList.go0 (n' := 22) rfl rfl (Eff.callV0 rfl (ress_cons rfl (ress_cons rfl ress_nil)) (f79 _ _ (by first | omega | assumption | (simp; done) | (simp; omega)) (hI.n1.1) (by first | omega | assumption | (simp; done) | (simp; omega)) (by first | omega | assumption | (simp; done) | (simp; omega))) rfl) rfl ?_
        refine VList.go0 (n' := 23) rfl rfl (Eff.callV0 rfl (ress_cons rfl (ress_cons rfl ress_nil)) (f79 _ _ (by omega) (ok32_dg _) (by first | omega | assumption | (simp; done) | (simp; omega)) (by first | omega | assumption | (simp; done) | (simp; omega))) rfl) rfl ?_
        refine VList.go0 (n' := 24) rfl rfl (.assign _ _ rfl) rfl ?_
        refine VList.nil (Then.go ?_)
        refine VCode.seq ?_
        refine VCode.region ?_
        refine VList.go0 (n' := 25) rfl rfl (.move _ _ rfl) rfl ?_
        refine VList.go0 (n' := 26) rfl rfl (.move _ _ rfl) rfl ?_
        refine VList.go0 (n' := 27) rfl rfl (.callF _ _ _ _ _ _ rfl (ress_cons rfl (ress_cons rfl ress_nil)) (f72 _ _ (by omega) (by omega) (ok32_dg _) (ok32_dg _) (fun h => cmp_len (norm_dg _) (norm_dg _) h)) rfl) rfl ?_
        refine VList.go0 (n' := 28) rfl rfl (.bin _ _ _ _ _ _ _ _ rfl rfl rfl) rfl ?_
        refine VList.nil (Then.go ?_)
        refine VCode.cond _ rfl (fun hc4 => ?_) (fun hc4 => ?_)
        · replace hc4 := of_decide_eq_true hc4
          refine VCode.seq ?_
          have hge := cmp3_ge (by assumption)
          refine VCode.region ?_
          refine VList.go0 (n' := 29) rfl rfl (.move _ _ rfl) rfl ?_
          refine VList.go0 (n' := 30) rfl rfl (.move _ _ rfl) rfl ?_
          refine VList.go0 (n' := 31) rfl rfl (Eff.callV0 rfl (ress_cons rfl (ress_cons rfl ress_nil)) (f57 _ _ (by omega) (by omega) (ok32_dg _) (ok32_dg _) (norm_le_len (norm_dg _) (norm_dg _) hge) (hge)) rfl) rfl ?_
          refine VList.go0 (n' := 32) rfl rfl (.assign _ _ rfl) rfl ?_
          refine VList.nil (Then.go ?_)
          refine VCode.region ?_
          refine VList.go0 (n' := 33) rfl rfl (.move _ _ rfl) rfl ?_
          refine VList.go0 (n' := 34) rfl rfl (Eff.callV0 rfl (ress_cons rfl (ress_cons rfl ress_nil)) (f79 _ _ (by first | omega | assumption | (simp; done) | (simp; omega)) (hI.n1.1) (by first | omega | assumption | (simp; done) | (simp; omega)) (by first | omega | assumption | (simp; done) | (simp; omega))) rfl) rfl ?_
          refine VList.go0 (n' := 35) rfl rfl (.assign _ _ rfl) rfl ?_
          refine VList.nil (InBlock.go (Then.go ?_))
          refine VCode.region ?_
          refine VList.go0 (n' := 36) rfl rfl (.move _ _ rfl) rfl ?_
          refine VList.go0 (n' := 37) rfl rfl (.bin _ _ _ _ _ _ _ _ rfl rfl (bop_sub_i64 (by first | omega | (simp; done) | (simp; omega)))) rfl ?_
          refine VList.go0 (n' := 38) rfl rfl (.assign _ _ rfl) rfl ?_
          exact VList.nil (Round.go (q - 1, dg (2 * val (U) + 1), dg (val (dg (2 * val (dg (2 * val (R) + (val (A) / 2 ^ (((2 * q) - 1)).toNat % 2))) + (val (A) / 2 ^ (((2 * q) - 2)).toNat % 2))) - val (dg (2 * val (dg (2 * val (U) + 0)) + 1)))) (by first | exact ⟨by rw [hi0]; exact ⟨norm_dg _, norm_dg _, by rw [val_dg (by omega)]; exact (hst.1 hge).1.symm, by rw [val_dg (by omega)]; exact (hst.1 hge).2⟩, by omega, by omega⟩ | exact ⟨by rw [hi0]; exact ⟨norm_dg _, norm_dg _, by rw [val_dg (by omega)]; exact (hst.2 (cmp3_nge (by assumption))).1.symm, (hst.2 (cmp3_nge (by assumption))).2⟩, by omega, by omega⟩) (by first | (dsimp only; omega) | omega) (Weak.of (show 0 ≤ 2 by decide) ⟨⟨rfl, rfl⟩, ⟨⟨rfl, rfl⟩, ⟨⟨rfl, rfl⟩, ⟨⟨rfl, rfl⟩, ⟨⟨rfl, rfl⟩, trivial⟩⟩⟩⟩⟩ ⟨⟨rfl, (show 0 < 2 by decide), (by intro v_ hv_; simp at hv_; rcases hv_ with rfl | rfl <;> rfl)⟩, ⟨⟨rfl, (show 1 < 2 by decide), (by intro v_ hv_; simp at hv_; rcases hv_ with rfl | rfl <;> rfl)⟩, trivial⟩⟩))
        · replace hc4 := of_decide_eq_false hc4
          refine VCode.region ?_
          refine VList.go0 (n' := 29) rfl rfl (.move _ _ rfl) rfl ?_
          refine VList.go0 (n' := 30) rfl rfl (Eff.callV0 rfl (ress_cons rfl (ress_cons rfl ress_nil)) (f79 _ _ (by first | omega | assumption | (simp; done) | (simp; omega)) (hI.n1.1) (by first | omega | assumption | (simp; done) | (simp; omega)) (by first | omega | assumption | (simp; done) | (simp; omega))) rfl) rfl ?_
          refine VList.go0 (n' := 31) rfl rfl (.assign _ _ rfl) rfl ?_
          refine VList.nil (InBlock.go (Then.go ?_))
          refine VCode.region ?_
          refine VList.go0 (n' := 32) rfl rfl (.move _ _ rfl) rfl ?_
          refine VList.go0 (n' := 33) rfl rfl (.bin _ _ _ _ _ _ _ _ rfl rfl (bop_sub_i64 (by first | omega | (simp; done) | (simp; omega)))) rfl ?_
          refine VList.go0 (n' := 34) rfl rfl (.assign _ _ rfl) rfl ?_
          exact VList.nil (Round.go (q - 1, dg (2 * val (U) + 0), dg (2 * val (dg (2 * val (R) + (val (A) / 2 ^ (((2 * q) - 1)).toNat % 2))) + (val (A) / 2 ^ (((2 * q) - 2)).toNat % 2))) (by first | exact ⟨by rw [hi0]; exact ⟨norm_dg _, norm_dg _, by rw [val_dg (by omega)]; exact (hst.1 hge).1.symm, by rw [val_dg (by omega)]; exact (hst.1 hge).2⟩, by omega, by omega⟩ | exact ⟨by rw [hi0]; exact ⟨norm_dg _, norm_dg _, by rw [val_dg (by omega)]; exact (hst.2 (cmp3_nge (by assumption))).1.symm, (hst.2 (cmp3_nge (by assumption))).2⟩, by omega, by omega⟩) (by first | (dsimp only; omega) | omega) (Weak.of (show 0 ≤ 2 by decide) ⟨⟨rfl, rfl⟩, ⟨⟨rfl, rfl⟩, ⟨⟨rfl, rfl⟩, ⟨⟨rfl, rfl⟩, ⟨⟨rfl, rfl⟩, trivial⟩⟩⟩⟩⟩ ⟨⟨rfl, (show 0 < 2 by decide), (by intro v_ hv_; simp at hv_; rcases hv_ with rfl | rfl <;> rfl)⟩, ⟨⟨rfl, (show 1 < 2 by decide), (by intro v_ hv_; simp at hv_; rcases hv_ with rfl | rfl <;> rfl)⟩, trivial⟩⟩))
      · replace hc3 := of_decide_eq_false hc3
        refine VCode.exit (Then.exit (Round.exit (InBlock.here (Then.go ?_))))
        refine VCode.seq ?_
        have hfin : RootInv (val A) U R 0 := by rw [show (0 : Nat) = q.toNat by omega]; exact hok
        obtain ⟨f1, f2⟩ := hfin.fin
        have hE := zE_small (val_nonneg hok.n1.1) (val_limit hok.n1.1 (Nat.le_trans hlU lA))
        refine VCode.region ?_
        refine VList.go0 (n' := 5) rfl rfl (.move _ _ rfl) rfl ?_
        refine VList.go0 (n' := 6) rfl rfl (Eff.callV0 rfl (ress_cons rfl (ress_cons rfl ress_nil)) (f58 _ _ (by first | omega | assumption | (simp; done) | (simp; omega)) (hok.n1.1)) rfl) rfl ?_
        refine VList.go0 (n' := 7) rfl rfl (.move _ _ rfl) rfl ?_
        refine VList.go0 (n' := 8) rfl rfl (.extract _ _ _ _ rfl rfl) rfl ?_
        refine VList.go0 (n' := 9) rfl rfl (.extract _ _ _ _ rfl rfl) rfl ?_
        refine VList.go1 (n' := 10) rfl rfl (.alloc _ _ P_zero24 (List.cons_ne_nil _ _)) rfl ?_
        refine VList.goS (n' := 11) rfl rfl (.store _ _ _ _ _ _ _ rfl rfl rfl rfl P_sz24 (Nat.le_of_ble_eq_true rfl) rfl) rfl ?_
        refine VList.go0 (n' := 12) rfl rfl (.assign _ _ rfl) rfl ?_
        refine VList.nil (Then.go ?_)
        refine VCode.seq ?_
        refine VCode.region ?_
        refine VList.go0 (n' := 13) rfl rfl (.loadS _ _ _ _ _ _ rfl rfl P_agg24 P_sz24 (Nat.le_of_ble_eq_true rfl)) rfl ?_
        refine VList.go0 (n' := 14) rfl rfl (.move _ _ rfl) rfl ?_
        refine VList.go0 (n' := 15) rfl rfl (Eff.lenS rfl Try.underlying22) rfl ?_
        refine VList.go0 (n' := 16) rfl rfl (.bin _ _ _ _ _ _ _ _ rfl rfl rfl) rfl ?_
        refine VList.go0 (n' := 17) rfl rfl (.move _ _ rfl) rfl ?_
        refine VList.goS (n' := 18) rfl rfl (.store _ _ _ _ _ _ _ rfl rfl rfl rfl P_sz24 (Nat.le_of_ble_eq_true rfl) rfl) rfl ?_
        refine VList.go0 (n' := 19) rfl rfl (.assign _ _ rfl) rfl ?_
        refine VList.go0 (n' := 20) rfl rfl (.assign _ _ rfl) rfl ?_
        refine VList.nil (Then.go ?_)
        exact VCode.ret (⟨trivial, [.agg [boolB (zN (sg (false) (val (U)))), u32S (zL (sg (false) (val (U))))], boolB ((((R).length : Int) == 0)), numB .i64 (zE (sg (false) (val (U))))], (resVars_cons (resVar_cell rfl rfl P_agg24 P_sz24 (Nat.le_of_ble_eq_true rfl) rfl) (resVars_cons (resVar_tmp rfl rfl) (resVars_cons (resVar_tmp rfl rfl) resVars_nil))), (by rw [sqR_ok hc1 (by omega), zA, ← rest_zero hok.n2 f2, ← f1]; show _ = B.tup [_, _, numB .i64 (zE (val U))]; rw [hE]; rfl)⟩)
end Go.VL

/- Walks over the Go functions, printed by a program of this session over the kit's print, and by hand. -/
set_option linter.unusedVariables false
set_option linter.unusedSimpArgs false
namespace Go.VL
open Go.Proofs
theorem f71 (L : List Int) (hL : L.length ≤ 10000) (nL : norm L) (h0 : 0 < val L) : VF Try.prog 71 [u32S (L)] (u32S (dg (oddZ (val L)))) := by
  refine VF_of P_mixed Try.func71 rfl rfl (by kernel_rfl) ?_
  refine VCode.seq ?_
  refine VCode.region ?_
  refine VList.go0 (n' := 1) rfl rfl (.assign _ _ rfl) rfl ?_
  refine VList.nil (Then.go ?_)
  refine VCode.seq ?_
  have hbl := blen_words nL.1
  refine VCode.region ?_
  refine VList.go0 (n' := 2) rfl rfl (.assign _ _ rfl) rfl ?_
  refine VList.nil (Then.go ?_)
  refine VCode.seq ?_
  refine VCode.block ?_
  refine VCode.loop (α := (Nat)) (fun (k : (Nat)) => (0, sl [(0, vS (L)), (3, vI .i64 ((k : Int)))], en [])) (fun (k : (Nat)) => TzInv (val L) k) (fun (k : (Nat)) => blen (val L).toNat - k) (0) ⟨h0, by simp⟩ (Weak.of (show 0 ≤ 0 by decide) ⟨⟨rfl, rfl⟩, ⟨⟨rfl, rfl⟩, trivial⟩⟩ trivial) ?_
  intro k hok
  have hlt := hok.lt
  show VCode Try.prog 0 _ 0 (sl [(0, vS (L)), (3, vI .i64 ((k : Int)))]) (en []) _
  refine VCode.seq ?_
  refine VCode.seq ?_
  refine VCode.region ?_
  refine VList.go0 (n' := 1) rfl rfl (.move _ _ rfl) rfl ?_
  refine VList.go0 (n' := 2) rfl rfl (.move _ _ rfl) rfl ?_
  refine VList.go0 (n' := 3) rfl rfl (.callF _ _ _ _ _ _ rfl (ress_cons rfl (ress_cons rfl ress_nil)) (f70 _ _ (by omega) (nL.1) (by omega) (by omega)) rfl) rfl ?_
  refine VList.go0 (n' := 4) rfl rfl (.bin _ _ _ _ _ _ _ _ rfl rfl rfl) rfl ?_
  refine VList.nil (Then.go ?_)
  refine VCode.cond _ rfl (fun hc1 => ?_) (fun hc1 => ?_)
  · replace hc1 := eq_of_beq hc1
    refine VCode.skip (Then.go ?_)
    refine VCode.block ?_
    refine VCode.region ?_
    refine VList.go0 (n' := 5) rfl rfl (.move _ _ rfl) rfl ?_
    refine VList.go0 (n' := 6) rfl rfl (.bin _ _ _ _ _ _ _ _ rfl rfl (bop_add_i64 (by first | omega | (simp; done) | (simp; omega)))) rfl ?_
    refine VList.go0 (n' := 7) rfl rfl (.assign _ _ rfl) rfl ?_
    exact VList.nil (InBlock.go (Round.go (k + 1) (hok.step (by assumption)) (by first | (dsimp only; omega) | omega) (Weak.of (show 0 ≤ 0 by decide) ⟨⟨rfl, rfl⟩, ⟨⟨rfl, rfl⟩, trivial⟩⟩ trivial)))
  · replace hc1 := ne_of_beq_false hc1
    refine VCode.exit (Then.exit (Round.exit (InBlock.here (Then.go ?_))))
    refine VCode.seq ?_
    refine VCode.region ?_
    refine VList.go0 (n' := 5) rfl rfl (.move _ _ rfl) rfl ?_
    refine VList.go0 (n' := 6) rfl rfl (.move _ _ rfl) rfl ?_
    refine VList.go0 (n' := 7) rfl rfl (Eff.callV0 rfl (ress_cons rfl (ress_cons rfl ress_nil)) (f80 _ _ (by omega) (nL) (by omega) (by omega)) rfl) rfl ?_
    refine VList.go0 (n' := 8) rfl rfl (.move _ _ rfl) rfl ?_
    refine VList.go0 (n' := 9) rfl rfl (.extract _ _ _ _ rfl rfl) rfl ?_
    refine VList.go0 (n' := 10) rfl rfl (.extract _ _ _ _ rfl rfl) rfl ?_
    refine VList.go0 (n' := 11) rfl rfl (.assign _ _ rfl) rfl ?_
    refine VList.go0 (n' := 12) rfl rfl (.assign _ _ rfl) rfl ?_
    refine VList.nil (Then.go ?_)
    refine VCode.seq ?_
    refine VCode.region ?_
    refine VList.go0 (n' := 13) rfl rfl (.move _ _ rfl) rfl ?_
    refine VList.go0 (n' := 14) rfl rfl (.assign _ _ rfl) rfl ?_
    refine VList.nil (Then.go ?_)
    exact VCode.ret (⟨trivial, [u32S (dg (val (L) / 2 ^ ((k : Int)).toNat))], (resVars_cons (resVar_tmp rfl rfl) resVars_nil), (by rw [← hok.fin (by assumption)]; rfl)⟩)
theorem f32 (n : Bool) (A : List Int) (m : Bool) (B : List Int) (hA : A.length ≤ 9223372036854775807) (hB : B.length ≤ 9223372036854775807) (oA : ok32 A) (oB : ok32 B) : VF Try.prog 32 [.agg [boolB (n), u32S (A)], .agg [boolB (m), u32S (B)]] (gR (validB n A && validB m B) ((Int.gcd (zOf n A) (zOf m B) : Nat) : Int)) := by
  refine VF_of P_mixed Try.func32 rfl rfl (by kernel_rfl) ?_
  refine VCode.seq ?_
  refine VCode.region ?_
  refine VList.go1 (n' := 1) rfl rfl (.box _ _ _ rfl (List.cons_ne_nil _ _) rfl) rfl ?_
  refine VList.go1 (n' := 2) rfl rfl (.box _ _ _ rfl (List.cons_ne_nil _ _) rfl) rfl ?_
  refine VList.go1 (n' := 3) rfl rfl (.alloc _ _ P_zero24 (List.cons_ne_nil _ _)) rfl ?_
  refine VList.go0 (n' := 4) rfl rfl (.assign _ _ rfl) rfl ?_
  refine VList.nil (Then.go ?_)
  refine VCode.seq ?_
  refine VCode.seq ?_
  refine VCode.region ?_
  refine VList.go0 (n' := 5) rfl rfl (.loadS _ _ _ _ _ _ rfl rfl P_agg24 P_sz24 (Nat.le_of_ble_eq_true rfl)) rfl ?_
  refine VList.go0 (n' := 6) rfl rfl (.callF _ _ _ _ _ _ rfl (ress_cons rfl ress_nil) (f26 _ _ (by first | omega | assumption | (simp; done) | (simp; omega))) rfl) rfl ?_
  refine VList.go0 (n' := 7) rfl rfl (.un _ _ _ _ _ rfl rfl) rfl ?_
  refine VList.go0 (n' := 8) rfl rfl (.move _ _ rfl) rfl ?_
  refine VList.split (d := 13) _ rfl (fun hc1 => ?_) (fun hc1 => ?_)
  · replace hc1 := (bnot_t hc1)
    refine VList.skip (n' := 9) rfl rfl rfl ?_
    refine VList.skip (n' := 10) rfl rfl rfl ?_
    refine VList.skip (n' := 11) rfl rfl rfl ?_
    refine VList.go0 (n' := 12) rfl rfl (.pick _ _ _ _ _ rfl rfl) rfl ?_
    refine VList.nil (Then.go ?_)
    refine VCode.cond _ rfl (fun _ => ?_) (fun h_ => Bool.noConfusion h_)
    refine VCode.seq ?_
    refine VCode.region ?_
    refine VList.go0 (n' := 13) rfl rfl Eff.int0 rfl ?_
    refine VList.goS (n' := 14) rfl rfl (.store _ _ _ _ _ _ _ rfl rfl rfl rfl P_sz24 (Nat.le_of_ble_eq_true rfl) rfl) rfl ?_
    refine VList.go0 (n' := 15) rfl rfl (.assign _ _ rfl) rfl ?_
    refine VList.nil (Then.go ?_)
    exact VCode.ret (Then.ret (⟨trivial, [.agg [boolB (false), u32S ([])], numB .i64 (1)], (resVars_cons (resVar_cell rfl rfl P_agg24 P_sz24 (Nat.le_of_ble_eq_true rfl) rfl) (resVars_cons (resVar_tmp rfl rfl) resVars_nil)), (by rw [gR_false (by simp [*])]; rfl)⟩))
  · replace hc1 := (bnot_f hc1)
    refine VList.go0 (n' := 9) rfl rfl (.loadS _ _ _ _ _ _ rfl rfl P_agg24 P_sz24 (Nat.le_of_ble_eq_true rfl)) rfl ?_
    refine VList.go0 (n' := 10) rfl rfl (.callF _ _ _ _ _ _ rfl (ress_cons rfl ress_nil) (f26 _ _ (by first | omega | assumption | (simp; done) | (simp; omega))) rfl) rfl ?_
    refine VList.go0 (n' := 11) rfl rfl (.un _ _ _ _ _ rfl rfl) rfl ?_
    refine VList.go0 (n' := 12) rfl rfl (.pick _ _ _ _ _ rfl rfl) rfl ?_
    refine VList.nil (Then.go ?_)
    refine VCode.cond _ rfl (fun hc2 => ?_) (fun hc2 => ?_)
    · replace hc2 := (bnot_t hc2)
      refine VCode.seq ?_
      refine VCode.region ?_
      refine VList.go0 (n' := 13) rfl rfl Eff.int0 rfl ?_
      refine VList.goS (n' := 14) rfl rfl (.store _ _ _ _ _ _ _ rfl rfl rfl rfl P_sz24 (Nat.le_of_ble_eq_true rfl) rfl) rfl ?_
      refine VList.go0 (n' := 15) rfl rfl (.assign _ _ rfl) rfl ?_
      refine VList.nil (Then.go ?_)
      exact VCode.ret (Then.ret (⟨trivial, [.agg [boolB (false), u32S ([])], numB .i64 (1)], (resVars_cons (resVar_cell rfl rfl P_agg24 P_sz24 (Nat.le_of_ble_eq_true rfl) rfl) (resVars_cons (resVar_tmp rfl rfl) resVars_nil)), (by rw [gR_false (by simp [*])]; rfl)⟩))
    · replace hc2 := (bnot_f hc2)
      refine VCode.skip (Then.go ?_)
      refine VCode.seq ?_
      have va : validB n A = true := by assumption
      have vb : validB m B = true := by assumption
      have hv := vv va vb
      obtain ⟨nA, lA, sA⟩ := valid_norm oA va
      obtain ⟨nB, lB, sB⟩ := valid_norm oB vb
      have vA := val_nonneg oA
      have vB_ := val_nonneg oB
      refine VCode.region ?_
      refine VList.go1 (n' := 13) rfl rfl (Eff.lits0 Try.underlying22 P_zero51 P_sz51) rfl ?_
      refine VList.go0 (n' := 14) rfl rfl (.fieldAddr _ _ _ _ _ _ _ _ rfl P_fld24_1) rfl ?_
      refine VList.go0 (n' := 15) rfl rfl (.load1 _ _ _ _ _ _ rfl rfl P_agg22 rfl) rfl ?_
      refine VList.goN (n' := 16) rfl rfl (Eff.appendRow rfl rfl (by first | omega | (simp; done) | (simp; omega)) rfl rfl (show _ ∉ ([] : List Nat) from List.not_mem_nil) Try.underlying22 P_sz51 P_bytes51 P_zero51 (by first | omega | (simp; done) | (simp; omega))) rfl ?_
      refine VList.go0 (n' := 17) rfl rfl (.assign _ _ rfl) rfl ?_
      refine VList.nil (Then.go ?_)
      refine VCode.join (α := (Nat) × (Nat)) (fun (x_ : (Nat) × (Nat)) => match x_ with | (a, b) => (92, sl [(4, .ptr 2 (0)), (6, .own 90 (a)), (7, .own 91 (b))], en [(2, ⟨2, [vB (false), vS ([])], true⟩), (90, row (A)), (91, row (B))])) (fun (x_ : (Nat) × (Nat)) => match x_ with | (a, b) => A.length = a ∧ B.length = b) ?_ ?_
      · skip
        refine VCode.region ?_
        refine VList.go1 (n' := 18) rfl rfl (Eff.lits0 Try.underlying22 P_zero51 P_sz51) rfl ?_
        refine VList.go0 (n' := 19) rfl rfl (.fieldAddr _ _ _ _ _ _ _ _ rfl P_fld24_1) rfl ?_
        refine VList.go0 (n' := 20) rfl rfl (.load1 _ _ _ _ _ _ rfl rfl P_agg22 rfl) rfl ?_
        refine VList.goN (n' := 21) rfl rfl (Eff.appendRow rfl rfl (by first | omega | (simp; done) | (simp; omega)) rfl rfl (show _ ∉ ([] : List Nat) from List.not_mem_nil) Try.underlying22 P_sz51 P_bytes51 P_zero51 (by first | omega | (simp; done) | (simp; omega))) rfl ?_
        refine VList.go0 (n' := 22) rfl rfl (.assign _ _ rfl) rfl ?_
        exact VList.nil (Joins.go ((0) + (A).length, (0) + (B).length) ⟨by simp, by simp⟩ (Weak.ofR (fun i_ => match i_ with | 90 => 15 | 91 => 20 | i_ => i_) (show 0 ≤ 92 by decide) rfl rfl ⟨⟨rfl, rfl⟩, ⟨⟨rfl, rfl⟩, ⟨⟨rfl, rfl⟩, trivial⟩⟩⟩ ⟨⟨rfl, (show 2 < 92 by decide), (by intro v_ hv_; simp at hv_; rcases hv_ with rfl | rfl <;> rfl)⟩, ⟨⟨(by rw [row_ren]; rfl), (show 90 < 92 by decide), row_cells⟩, ⟨⟨(by rw [row_ren]; rfl), (show 91 < 92 by decide), row_cells⟩, trivial⟩⟩⟩))
      · rintro ⟨a, b⟩ hab
        obtain ⟨ha, hb⟩ := hab
        show VCode Try.prog 0 _ 92 (sl [(4, .ptr 2 (0)), (6, .own 90 (a)), (7, .own 91 (b))]) (en [(2, ⟨2, [vB (false), vS ([])], true⟩), (90, row (A)), (91, row (B))]) _
        refine VCode.seq ?_
        refine VCode.seq ?_
        refine VCode.region ?_
        refine VList.go0 (n' := 93) rfl rfl (.move _ _ rfl) rfl ?_
        refine VList.go0 (n' := 94) rfl rfl (Eff.lenO rfl Try.underlying22) rfl ?_
        refine VList.go0 (n' := 95) rfl rfl (.bin _ _ _ _ _ _ _ _ rfl rfl rfl) rfl ?_
        refine VList.go0 (n' := 96) rfl rfl (.move _ _ rfl) rfl ?_
        refine VList.split (d := 30) _ rfl (fun hc3 => ?_) (fun hc3 => ?_)
        · replace hc3 := eq_of_beq hc3
          refine VList.skip (n' := 97) rfl rfl rfl ?_
          refine VList.skip (n' := 98) rfl rfl rfl ?_
          refine VList.skip (n' := 99) rfl rfl rfl ?_
          refine VList.go0 (n' := 100) rfl rfl (.pick _ _ _ _ _ rfl rfl) rfl ?_
          refine VList.nil (Then.go ?_)
          refine VCode.cond _ rfl (fun _ => ?_) (fun h_ => Bool.noConfusion h_)
          refine VCode.seq ?_
          refine VCode.region ?_
          refine VList.go0 (n' := 101) rfl rfl (.move _ _ rfl) rfl ?_
          refine VList.go0 (n' := 102) rfl rfl (.move _ _ rfl) rfl ?_
          refine VList.goN (n' := 103) rfl rfl (.callV _ _ _ _ _ _ rfl (ress_cons (res_row rfl (by first | omega | (simp; done) | (simp; omega) | (simp [*]; done) | (simp [*]; omega))) (ress_cons (res_row rfl (by first | omega | (simp; done) | (simp; omega) | (simp [*]; done) | (simp [*]; omega))) ress_nil)) (f56 _ _ (by first | omega | assumption | (simp; done) | (simp; omega)) (by first | omega | assumption | (simp; done) | (simp; omega)) (oA) (oB))) rfl ?_
          refine VList.go0 (n' := 104) rfl rfl (Eff.callV0 rfl (ress_cons rfl (ress_cons rfl ress_nil)) (f58 _ _ (add_len oA oB lA lB) (ok32_dg _)) rfl) rfl ?_
          refine VList.go0 (n' := 105) rfl rfl (.extract _ _ _ _ rfl rfl) rfl ?_
          refine VList.go0 (n' := 106) rfl rfl (.extract _ _ _ _ rfl rfl) rfl ?_
          refine VList.goS (n' := 107) rfl rfl (.store _ _ _ _ _ _ _ rfl rfl rfl rfl P_sz24 (Nat.le_of_ble_eq_true rfl) rfl) rfl ?_
          refine VList.go0 (n' := 108) rfl rfl (.assign _ _ rfl) rfl ?_
          refine VList.nil (Then.go ?_)
          exact VCode.ret (Then.ret (⟨trivial, [.agg [boolB (zN (sg (false) (val (dg (val (A) + val (B)))))), u32S (zL (sg (false) (val (dg (val (A) + val (B))))))], numB .i64 (zE (sg (false) (val (dg (val (A) + val (B))))))], (resVars_cons (resVar_cell rfl rfl P_agg24 P_sz24 (Nat.le_of_ble_eq_true rfl) rfl) (resVars_cons (resVar_tmp rfl rfl) resVars_nil)), (by rw [gR_true hv, gcd_sg, gcd_nil vA vB_ (by first | (left; exact norm_zero nA (by omega)) | (right; exact norm_zero nB (by omega))), val_dg (by omega)]; rfl)⟩))
        · replace hc3 := ne_of_beq_false hc3
          refine VList.go0 (n' := 97) rfl rfl (.move _ _ rfl) rfl ?_
          refine VList.go0 (n' := 98) rfl rfl (Eff.lenO rfl Try.underlying22) rfl ?_
          refine VList.go0 (n' := 99) rfl rfl (.bin _ _ _ _ _ _ _ _ rfl rfl rfl) rfl ?_
          refine VList.go0 (n' := 100) rfl rfl (.pick _ _ _ _ _ rfl rfl) rfl ?_
          refine VList.nil (Then.go ?_)
          refine VCode.cond _ rfl (fun hc4 => ?_) (fun hc4 => ?_)
          · replace hc4 := eq_of_beq hc4
            refine VCode.seq ?_
            refine VCode.region ?_
            refine VList.go0 (n' := 101) rfl rfl (.move _ _ rfl) rfl ?_
            refine VList.go0 (n' := 102) rfl rfl (.move _ _ rfl) rfl ?_
            refine VList.goN (n' := 103) rfl rfl (.callV _ _ _ _ _ _ rfl (ress_cons (res_row rfl (by first | omega | (simp; done) | (simp; omega) | (simp [*]; done) | (simp [*]; omega))) (ress_cons (res_row rfl (by first | omega | (simp; done) | (simp; omega) | (simp [*]; done) | (simp [*]; omega))) ress_nil)) (f56 _ _ (by first | omega | assumption | (simp; done) | (simp; omega)) (by first | omega | assumption | (simp; done) | (simp; omega)) (oA) (oB))) rfl ?_
            refine VList.go0 (n' := 104) rfl rfl (Eff.callV0 rfl (ress_cons rfl (ress_cons rfl ress_nil)) (f58 _ _ (add_len oA oB lA lB) (ok32_dg _)) rfl) rfl ?_
            refine VList.go0 (n' := 105) rfl rfl (.extract _ _ _ _ rfl rfl) rfl ?_
            refine VList.go0 (n' := 106) rfl rfl (.extract _ _ _ _ rfl rfl) rfl ?_
            refine VList.goS (n' := 107) rfl rfl (.store _ _ _ _ _ _ _ rfl rfl rfl rfl P_sz24 (Nat.le_of_ble_eq_true rfl) rfl) rfl ?_
            refine VList.go0 (n' := 108) rfl rfl (.assign _ _ rfl) rfl ?_
            refine VList.nil (Then.go ?_)
            exact VCode.ret (Then.ret (⟨trivial, [.agg [boolB (zN (sg (false) (val (dg (val (A) + val (B)))))), u32S (zL (sg (false) (val (dg (val (A) + val (B))))))], numB .i64 (zE (sg (false) (val (dg (val (A) + val (B))))))], (resVars_cons (resVar_cell rfl rfl P_agg24 P_sz24 (Nat.le_of_ble_eq_true rfl) rfl) (resVars_cons (resVar_tmp rfl rfl) resVars_nil)), (by rw [gR_true hv, gcd_sg, gcd_nil vA vB_ (by first | (left; exact norm_zero nA (by omega)) | (right; exact norm_zero nB (by omega))), val_dg (by omega)]; rfl)⟩))
          · replace hc4 := ne_of_beq_false hc4
            refine VCode.skip (Then.go ?_)
            refine VCode.seq ?_
            have pA := norm_pos nA (fun e => by rw [e] at ha; simp at ha; omega)
            have pB := norm_pos nB (fun e => by rw [e] at hb; simp at hb; omega)
            have hbl := blen_words oA
            refine VCode.region ?_
            refine VList.go0 (n' := 101) rfl rfl (.assign _ _ rfl) rfl ?_
            refine VList.nil (Then.go ?_)
            refine VCode.join (α := (Nat)) (fun (c : (Nat)) => (92, sl [(4, .ptr 2 (0)), (6, .own 90 (a)), (7, .own 91 (b)), (8, vI .i64 ((c : Int)))], en [(2, ⟨2, [vB (false), vS ([])], true⟩), (90, row (A)), (91, row (B))])) (fun (c : (Nat)) => (TzInv (val A) c ∧ TzInv (val B) c) ∧ (val A / 2 ^ c % 2 ≠ 0 ∨ val B / 2 ^ c % 2 ≠ 0)) ?_ ?_
            · skip
              refine VCode.block ?_
              refine VCode.loop (α := (Nat)) (fun (c : (Nat)) => (92, sl [(4, .ptr 2 (0)), (6, .own 90 (a)), (7, .own 91 (b)), (8, vI .i64 ((c : Int)))], en [(2, ⟨2, [vB (false), vS ([])], true⟩), (90, row (A)), (91, row (B))])) (fun (c : (Nat)) => TzInv (val A) c ∧ TzInv (val B) c) (fun (c : (Nat)) => blen (val A).toNat - c) (0) ⟨⟨pA, by simp⟩, ⟨pB, by simp⟩⟩ (Weak.of (show 0 ≤ 92 by decide) ⟨⟨rfl, rfl⟩, ⟨⟨rfl, rfl⟩, ⟨⟨rfl, rfl⟩, ⟨⟨rfl, rfl⟩, trivial⟩⟩⟩⟩ ⟨⟨rfl, (show 2 < 92 by decide), (by intro v_ hv_; simp at hv_; rcases hv_ with rfl | rfl <;> rfl)⟩, ⟨⟨rfl, (show 90 < 92 by decide), row_cells⟩, ⟨⟨rfl, (show 91 < 92 by decide), row_cells⟩, trivial⟩⟩⟩) ?_
              intro c htz
              obtain ⟨tA, tB⟩ := htz
              have hltA := tA.lt
              show VCode Try.prog 0 _ 92 (sl [(4, .ptr 2 (0)), (6, .own 90 (a)), (7, .own 91 (b)), (8, vI .i64 ((c : Int)))]) (en [(2, ⟨2, [vB (false), vS ([])], true⟩), (90, row (A)), (91, row (B))]) _
              refine VCode.seq ?_
              refine VCode.seq ?_
              refine VCode.region ?_
              refine VList.go0 (n' := 93) rfl rfl (.move _ _ rfl) rfl ?_
              refine VList.go0 (n' := 94) rfl rfl (.move _ _ rfl) rfl ?_
              refine VList.go0 (n' := 95) rfl rfl (.callF _ _ _ _ _ _ rfl (ress_cons (res_row rfl (by first | omega | (simp; done) | (simp; omega) | (simp [*]; done) | (simp [*]; omega))) (ress_cons rfl ress_nil)) (f70 _ _ (by omega) (oA) (by omega) (by omega)) rfl) rfl ?_
              refine VList.go0 (n' := 96) rfl rfl (.bin _ _ _ _ _ _ _ _ rfl rfl rfl) rfl ?_
              refine VList.go0 (n' := 97) rfl rfl (.move _ _ rfl) rfl ?_
              refine VList.split (d := 45) _ rfl (fun hc5 => ?_) (fun hc5 => ?_)
              · replace hc5 := eq_of_beq hc5
                refine VList.go0 (n' := 98) rfl rfl (.move _ _ rfl) rfl ?_
                refine VList.go0 (n' := 99) rfl rfl (.move _ _ rfl) rfl ?_
                refine VList.go0 (n' := 100) rfl rfl (.callF _ _ _ _ _ _ rfl (ress_cons (res_row rfl (by first | omega | (simp; done) | (simp; omega) | (simp [*]; done) | (simp [*]; omega))) (ress_cons rfl ress_nil)) (f70 _ _ (by omega) (oB) (by omega) (by omega)) rfl) rfl ?_
                refine VList.go0 (n' := 101) rfl rfl (.bin _ _ _ _ _ _ _ _ rfl rfl rfl) rfl ?_
                refine VList.go0 (n' := 102) rfl rfl (.pick _ _ _ _ _ rfl rfl) rfl ?_
                refine VList.nil (Then.go ?_)
                refine VCode.cond _ rfl (fun hc6 => ?_) (fun hc6 => ?_)
                · replace hc6 := eq_of_beq hc6
                  refine VCode.skip (Then.go ?_)
                  refine VCode.block ?_
                  refine VCode.region ?_
                  refine VList.go0 (n' := 103) rfl rfl (.move _ _ rfl) rfl ?_
                  refine VList.go0 (n' := 104) rfl rfl (.bin _ _ _ _ _ _ _ _ rfl rfl (bop_add_i64 (by first | omega | (simp; done) | (simp; omega)))) rfl ?_
                  refine VList.go0 (n' := 105) rfl rfl (.assign _ _ rfl) rfl ?_
                  exact VList.nil (InBlock.go (Round.go (c + 1) ⟨tA.step (by assumption), tB.step (by assumption)⟩ (by first | (dsimp only; omega) | omega) (Weak.of (show 0 ≤ 92 by decide) ⟨⟨rfl, rfl⟩, ⟨⟨rfl, rfl⟩, ⟨⟨rfl, rfl⟩, ⟨⟨rfl, rfl⟩, trivial⟩⟩⟩⟩ ⟨⟨rfl, (show 2 < 92 by decide), (by intro v_ hv_; simp at hv_; rcases hv_ with rfl | rfl <;> rfl)⟩, ⟨⟨rfl, (show 90 < 92 by decide), row_cells⟩, ⟨⟨rfl, (show 91 < 92 by decide), row_cells⟩, trivial⟩⟩⟩)))
                · replace hc6 := ne_of_beq_false hc6
                  exact VCode.exit (Then.exit (Round.exit (InBlock.here (Joins.go (c) ⟨⟨tA, tB⟩, by first | (right; assumption) | (left; assumption)⟩ (Weak.of (show 0 ≤ 92 by decide) ⟨⟨rfl, rfl⟩, ⟨⟨rfl, rfl⟩, ⟨⟨rfl, rfl⟩, ⟨⟨rfl, rfl⟩, trivial⟩⟩⟩⟩ ⟨⟨rfl, (show 2 < 92 by decide), (by intro v_ hv_; simp at hv_; rcases hv_ with rfl | rfl <;> rfl)⟩, ⟨⟨rfl, (show 90 < 92 by decide), row_cells⟩, ⟨⟨rfl, (show 91 < 92 by decide), row_cells⟩, trivial⟩⟩⟩)))))
              · replace hc5 := ne_of_beq_false hc5
                refine VList.skip (n' := 98) rfl rfl rfl ?_
                refine VList.skip (n' := 99) rfl rfl rfl ?_
                refine VList.skip (n' := 100) rfl rfl rfl ?_
                refine VList.skip (n' := 101) rfl rfl rfl ?_
                refine VList.go0 (n' := 102) rfl rfl (.pick _ _ _ _ _ rfl rfl) rfl ?_
                refine VList.nil (Then.go ?_)
                refine VCode.cond _ rfl (fun h_ => Bool.noConfusion h_) (fun _ => ?_)
                exact VCode.exit (Then.exit (Round.exit (InBlock.here (Joins.go (c) ⟨⟨tA, tB⟩, by first | (right; assumption) | (left; assumption)⟩ (Weak.of (show 0 ≤ 92 by decide) ⟨⟨rfl, rfl⟩, ⟨⟨rfl, rfl⟩, ⟨⟨rfl, rfl⟩, ⟨⟨rfl, rfl⟩, trivial⟩⟩⟩⟩ ⟨⟨rfl, (show 2 < 92 by decide), (by intro v_ hv_; simp at hv_; rcases hv_ with rfl | rfl <;> rfl)⟩, ⟨⟨rfl, (show 90 < 92 by decide), row_cells⟩, ⟨⟨rfl, (show 91 < 92 by decide), row_cells⟩, trivial⟩⟩⟩)))))
            · intro c hj
              obtain ⟨⟨tA, tB⟩, hbit⟩ := hj
              have hltA := tA.lt
              have sA2 := oddZ_spec pA
              have sB2 := oddZ_spec pB
              show VCode Try.prog 0 _ 92 (sl [(4, .ptr 2 (0)), (6, .own 90 (a)), (7, .own 91 (b)), (8, vI .i64 ((c : Int)))]) (en [(2, ⟨2, [vB (false), vS ([])], true⟩), (90, row (A)), (91, row (B))]) _
              refine VCode.seq ?_
              refine VCode.region ?_
              refine VList.go0 (n' := 93) rfl rfl (.move _ _ rfl) rfl ?_
              refine VList.goN (n' := 94) rfl rfl (.callV _ _ _ _ _ _ rfl (ress_cons (res_row rfl (by first | omega | (simp; done) | (simp; omega) | (simp [*]; done) | (simp [*]; omega))) ress_nil) (f71 _ (by omega) (nA) (pA))) rfl ?_
              refine VList.go0 (n' := 95) rfl rfl (.assign _ _ rfl) rfl ?_
              refine VList.nil (Then.go ?_)
              refine VCode.seq ?_
              refine VCode.region ?_
              refine VList.go0 (n' := 96) rfl rfl (.move _ _ rfl) rfl ?_
              refine VList.goN (n' := 97) rfl rfl (.callV _ _ _ _ _ _ rfl (ress_cons (res_row rfl (by first | omega | (simp; done) | (simp; omega) | (simp [*]; done) | (simp [*]; omega))) ress_nil) (f71 _ (by omega) (nB) (pB))) rfl ?_
              refine VList.go0 (n' := 98) rfl rfl (.assign _ _ rfl) rfl ?_
              refine VList.nil (Then.go ?_)
              refine VCode.seq ?_
              refine VCode.block ?_
              refine VCode.loop (α := (List Int) × (List Int)) (fun (x_ : (List Int) × (List Int)) => match x_ with | (X, Y) => (3, sl [(4, .ptr 2 (0)), (6, vS (X)), (7, vS (Y)), (8, vI .i64 ((c : Int)))], en [(2, ⟨2, [vB (false), vS ([])], true⟩)])) (fun (x_ : (List Int) × (List Int)) => match x_ with | (X, Y) => (norm X ∧ norm Y) ∧ (X.length ≤ 128 ∧ Y.length ≤ 128) ∧ (0 < val X ∧ val X % 2 = 1) ∧ (0 < val Y ∧ val Y % 2 = 1) ∧ Nat.gcd (val X).toNat (val Y).toNat = Nat.gcd (oddN (val A).toNat) (oddN (val B).toNat)) (fun (x_ : (List Int) × (List Int)) => match x_ with | (X, Y) => (val X).toNat + (val Y).toNat) (dg (oddZ (val A)), dg (oddZ (val B))) ⟨⟨norm_dg _, norm_dg _⟩, ⟨Nat.le_trans (odd_len oA pA (Int.le_refl _)) lA, Nat.le_trans (odd_len oB pB (Int.le_refl _)) lB⟩, by rw [val_dg (by omega)]; exact ⟨sA2.1, sA2.2.2⟩, by rw [val_dg (by omega)]; exact ⟨sB2.1, sB2.2.2⟩, by rw [val_dg (by omega), val_dg (by omega)]; rfl⟩ (Weak.of (show 0 ≤ 3 by decide) ⟨⟨rfl, rfl⟩, ⟨⟨rfl, rfl⟩, ⟨⟨rfl, rfl⟩, ⟨⟨rfl, rfl⟩, trivial⟩⟩⟩⟩ ⟨⟨rfl, (show 2 < 3 by decide), (by intro v_ hv_; simp at hv_; rcases hv_ with rfl | rfl <;> rfl)⟩, trivial⟩) ?_
              rintro ⟨X, Y⟩ hg0
              obtain ⟨⟨nX, nY⟩, ⟨lX, lY⟩, ⟨pX, oX⟩, ⟨pY, oY⟩, hG⟩ := hg0
              show VCode Try.prog 0 _ 3 (sl [(4, .ptr 2 (0)), (6, vS (X)), (7, vS (Y)), (8, vI .i64 ((c : Int)))]) (en [(2, ⟨2, [vB (false), vS ([])], true⟩)]) _
              refine VCode.seq ?_
              refine VCode.seq ?_
              refine VCode.region ?_
              refine VList.go0 (n' := 4) rfl rfl (.move _ _ rfl) rfl ?_
              refine VList.go0 (n' := 5) rfl rfl (.move _ _ rfl) rfl ?_
              refine VList.go0 (n' := 6) rfl rfl (.callF _ _ _ _ _ _ rfl (ress_cons rfl (ress_cons rfl ress_nil)) (f72 _ _ (by first | omega | assumption | (simp; done) | (simp; omega)) (by first | omega | assumption | (simp; done) | (simp; omega)) (nX.1) (nY.1) (fun h => cmp_len nX nY h)) rfl) rfl ?_
              refine VList.go0 (n' := 7) rfl rfl (.bin _ _ _ _ _ _ _ _ rfl rfl rfl) rfl ?_
              refine VList.nil (Then.go ?_)
              refine VCode.cond _ rfl (fun hc7 => ?_) (fun hc7 => ?_)
              · replace hc7 := bne_iff_ne.1 hc7
                refine VCode.skip (Then.go ?_)
                refine VCode.block ?_
                refine VCode.join (α := (List Int) × (List Int)) (fun (x_ : (List Int) × (List Int)) => match x_ with | (X2, Y2) => (3, sl [(4, .ptr 2 (0)), (6, vS (X2)), (7, vS (Y2)), (8, vI .i64 ((c : Int)))], en [(2, ⟨2, [vB (false), vS ([])], true⟩)])) (fun (x_ : (List Int) × (List Int)) => match x_ with | (X2, Y2) => (norm X2 ∧ norm Y2) ∧ (X2.length ≤ 128 ∧ Y2.length ≤ 128) ∧ (0 < val X2 ∧ val X2 % 2 = 1) ∧ (0 < val Y2 ∧ val Y2 % 2 = 1) ∧ Nat.gcd (val X2).toNat (val Y2).toNat = Nat.gcd (oddN (val A).toNat) (oddN (val B).toNat) ∧ val Y2 < val X2 ∧ val X2 + val Y2 = val X + val Y) ?_ ?_
                · skip
                  refine VCode.seq ?_
                  refine VCode.region ?_
                  refine VList.go0 (n' := 8) rfl rfl (.move _ _ rfl) rfl ?_
                  refine VList.go0 (n' := 9) rfl rfl (.move _ _ rfl) rfl ?_
                  refine VList.go0 (n' := 10) rfl rfl (.callF _ _ _ _ _ _ rfl (ress_cons rfl (ress_cons rfl ress_nil)) (f72 _ _ (by first | omega | assumption | (simp; done) | (simp; omega)) (by first | omega | assumption | (simp; done) | (simp; omega)) (nX.1) (nY.1) (fun h => cmp_len nX nY h)) rfl) rfl ?_
                  refine VList.go0 (n' := 11) rfl rfl (.bin _ _ _ _ _ _ _ _ rfl rfl rfl) rfl ?_
                  refine VList.nil (Then.go ?_)
                  refine VCode.cond _ rfl (fun hc8 => ?_) (fun hc8 => ?_)
                  · replace hc8 := of_decide_eq_true hc8
                    refine VCode.seq ?_
                    refine VCode.region ?_
                    refine VList.go0 (n' := 12) rfl rfl (.move _ _ rfl) rfl ?_
                    refine VList.go0 (n' := 13) rfl rfl (.assign _ _ rfl) rfl ?_
                    refine VList.nil (Then.go ?_)
                    refine VCode.seq ?_
                    refine VCode.region ?_
                    refine VList.go0 (n' := 14) rfl rfl (.move _ _ rfl) rfl ?_
                    refine VList.go0 (n' := 15) rfl rfl (.assign _ _ rfl) rfl ?_
                    refine VList.nil (Then.go ?_)
                    refine VCode.region ?_
                    refine VList.go0 (n' := 16) rfl rfl (.move _ _ rfl) rfl ?_
                    refine VList.go0 (n' := 17) rfl rfl (.assign _ _ rfl) rfl ?_
                    exact VList.nil (Joins.go (Y, X) ⟨⟨nY, nX⟩, ⟨lY, lX⟩, ⟨pY, oY⟩, ⟨pX, oX⟩, by rw [Nat.gcd_comm]; exact hG, cmp3_lt.1 (by assumption), by omega⟩ (Weak.of (show 0 ≤ 3 by decide) ⟨⟨rfl, rfl⟩, ⟨⟨rfl, rfl⟩, ⟨⟨rfl, rfl⟩, ⟨⟨rfl, rfl⟩, trivial⟩⟩⟩⟩ ⟨⟨rfl, (show 2 < 3 by decide), (by intro v_ hv_; simp at hv_; rcases hv_ with rfl | rfl <;> rfl)⟩, trivial⟩))
                  · replace hc8 := of_decide_eq_false hc8
                    exact VCode.skip (Joins.go (X, Y) ⟨⟨nX, nY⟩, ⟨lX, lY⟩, ⟨pX, oX⟩, ⟨pY, oY⟩, hG, by have h1 := cmp3_ge (a := val X) (b := val Y) (by omega); have h2 := mt cmp3_zero.2 (show cmp3 (val X) (val Y) ≠ 0 by assumption) ; omega, rfl⟩ (Weak.of (show 0 ≤ 3 by decide) ⟨⟨rfl, rfl⟩, ⟨⟨rfl, rfl⟩, ⟨⟨rfl, rfl⟩, ⟨⟨rfl, rfl⟩, trivial⟩⟩⟩⟩ ⟨⟨rfl, (show 2 < 3 by decide), (by intro v_ hv_; simp at hv_; rcases hv_ with rfl | rfl <;> rfl)⟩, trivial⟩))
                · rintro ⟨X2, Y2⟩ hk
                  obtain ⟨⟨nX2, nY2⟩, ⟨lX2, lY2⟩, ⟨pX2, oX2⟩, ⟨pY2, oY2⟩, hG2, hlt2, hsum⟩ := hk
                  have vd : val (dg (val X2 - val Y2)) = val X2 - val Y2 := val_dg (by omega)
                  have sp := oddZ_spec (v := val X2 - val Y2) (by omega)
                  have ldg : (dg (val X2 - val Y2)).length ≤ 128 := Nat.le_trans (len_le nX2.1 (by omega) (by omega)) lX2
                  have ve : val (dg (oddZ (val (dg (val X2 - val Y2))))) = oddZ (val X2 - val Y2) := by rw [vd, val_dg (by omega)]
                  show VCode Try.prog 0 _ 3 (sl [(4, .ptr 2 (0)), (6, vS (X2)), (7, vS (Y2)), (8, vI .i64 ((c : Int)))]) (en [(2, ⟨2, [vB (false), vS ([])], true⟩)]) _
                  refine VCode.region ?_
                  refine VList.go0 (n' := 4) rfl rfl (.move _ _ rfl) rfl ?_
                  refine VList.go0 (n' := 5) rfl rfl (.move _ _ rfl) rfl ?_
                  refine VList.go0 (n' := 6) rfl rfl (Eff.callV0 rfl (ress_cons rfl (ress_cons rfl ress_nil)) (f57 _ _ (by first | omega | assumption | (simp; done) | (simp; omega)) (by first | omega | assumption | (simp; done) | (simp; omega)) (nX2.1) (nY2.1) (norm_le_len nY2 nX2 (by omega)) (by omega)) rfl) rfl ?_
                  refine VList.go0 (n' := 7) rfl rfl (Eff.callV0 rfl (ress_cons rfl ress_nil) (f71 _ (by omega) (norm_dg _) (by rw [vd]; omega)) rfl) rfl ?_
                  refine VList.go0 (n' := 8) rfl rfl (.assign _ _ rfl) rfl ?_
                  exact VList.nil (InBlock.go (Round.go (dg (oddZ (val (dg (val (X2) - val (Y2))))), Y2) ⟨⟨norm_dg _, nY2⟩, ⟨by rw [vd]; exact Nat.le_trans (odd_len nX2.1 (by omega) (by omega)) lX2, lY2⟩, by rw [ve]; exact ⟨sp.1, sp.2.2⟩, ⟨pY2, oY2⟩, by rw [ve, gcd_step pX2 pY2 hlt2 oY2]; exact hG2⟩ (by show (val (dg (oddZ (val (dg (val X2 - val Y2)))))).toNat + (val Y2).toNat < (val X).toNat + (val Y).toNat; rw [ve]; omega) (Weak.of (show 0 ≤ 3 by decide) ⟨⟨rfl, rfl⟩, ⟨⟨rfl, rfl⟩, ⟨⟨rfl, rfl⟩, ⟨⟨rfl, rfl⟩, trivial⟩⟩⟩⟩ ⟨⟨rfl, (show 2 < 3 by decide), (by intro v_ hv_; simp at hv_; rcases hv_ with rfl | rfl <;> rfl)⟩, trivial⟩)))
              · replace hc7 := bne_eq_false_iff_eq.1 hc7
                refine VCode.exit (Then.exit (Round.exit (InBlock.here (Then.go ?_))))
                refine VCode.seq ?_
                have hXY : val X = val Y := cmp3_zero.1 (by assumption)
                have hfin := gcd_bin tA tB hbit pX (by rw [hXY] at hG ⊢; exact hG)
                refine VCode.region ?_
                refine VList.go0 (n' := 8) rfl rfl (.move _ _ rfl) rfl ?_
                refine VList.go0 (n' := 9) rfl rfl (.move _ _ rfl) rfl ?_
                refine VList.go0 (n' := 10) rfl rfl (Eff.callV0 rfl (ress_cons rfl (ress_cons rfl ress_nil)) (f73 _ _ (by first | omega | assumption | (simp; done) | (simp; omega)) (nX.1) (by omega) (by omega)) rfl) rfl ?_
                refine VList.go0 (n' := 11) rfl rfl (Eff.callV0 rfl (ress_cons rfl (ress_cons rfl ress_nil)) (f58 _ _ (shl_len nX.1 lX (by omega)) (ok32_dg _)) rfl) rfl ?_
                refine VList.go0 (n' := 12) rfl rfl (.extract _ _ _ _ rfl rfl) rfl ?_
                refine VList.go0 (n' := 13) rfl rfl (.extract _ _ _ _ rfl rfl) rfl ?_
                refine VList.goS (n' := 14) rfl rfl (.store _ _ _ _ _ _ _ rfl rfl rfl rfl P_sz24 (Nat.le_of_ble_eq_true rfl) rfl) rfl ?_
                refine VList.go0 (n' := 15) rfl rfl (.assign _ _ rfl) rfl ?_
                refine VList.nil (Then.go ?_)
                exact VCode.ret (⟨trivial, [.agg [boolB (zN (sg (false) (val (dg (val (X) * 2 ^ ((c : Int)).toNat))))), u32S (zL (sg (false) (val (dg (val (X) * 2 ^ ((c : Int)).toNat)))))], numB .i64 (zE (sg (false) (val (dg (val (X) * 2 ^ ((c : Int)).toNat)))))], (resVars_cons (resVar_cell rfl rfl P_agg24 P_sz24 (Nat.le_of_ble_eq_true rfl) rfl) (resVars_cons (resVar_tmp rfl rfl) resVars_nil)), (by rw [gR_true hv, gcd_sg, hfin, val_dg (Int.mul_nonneg (Int.le_of_lt pX) (Int.le_of_lt (two_pow_pos _)))]; rfl)⟩)
end Go.VL
