/- A small program logic over the translated Go code, plain laws, and walks over the functions: several texts in one. No condition. -/
import Derived.Test.YtipajnobkladeaaK2
/- Walks over the Go functions, printed by a program of this session over the kit's print, and by hand. -/
set_option linter.unusedVariables false
set_option linter.unusedSimpArgs false
namespace Go.VL
open Go.Proofs
theorem f31 (n : Bool) (A : List Int) (m : Bool) (B : List Int) (hA : A.length ≤ 9223372036854775807) (hB : B.length ≤ 9223372036854775807) (oA : ok32 A) (oB : ok32 B) : VF Try.prog 31 [.agg [boolB (n), u32S (A)], .agg [boolB (m), u32S (B)]] (gR (validB n A && validB m B) ((Int.gcd (zOf n A) (zOf m B) : Nat) : Int)) := by
  refine VF_of P_mixed Try.func31 rfl rfl (by kernel_rfl) ?_
  refine VCode.seq ?_
  refine VCode.region ?_
  refine VList.go1 (n' := 1) rfl rfl (.box _ _ _ rfl (List.cons_ne_nil _ _) rfl) rfl ?_
  refine VList.go1 (n' := 2) rfl rfl (.box _ _ _ rfl (List.cons_ne_nil _ _) rfl) rfl ?_
  refine VList.go1 (n' := 3) rfl rfl (.alloc _ _ P_zero24 (List.cons_ne_nil _ _)) rfl ?_
  refine VList.go0 (n' := 4) rfl rfl (.assign _ _ rfl) rfl ?_
  refine VList.nil (Then.go ?_)
  refine VCode.seq ?_
  refine VCode.seq ?_
  refine VCode.region ?_
  refine VList.go0 (n' := 5) rfl rfl (.loadS _ _ _ _ _ _ rfl rfl P_agg24 P_sz24 (Nat.le_of_ble_eq_true rfl)) rfl ?_
  refine VList.go0 (n' := 6) rfl rfl (.loadS _ _ _ _ _ _ rfl rfl P_agg24 P_sz24 (Nat.le_of_ble_eq_true rfl)) rfl ?_
  refine VList.go0 (n' := 7) rfl rfl (.callF _ _ _ _ _ _ rfl (ress_cons rfl (ress_cons rfl ress_nil)) (f50 _ _ _ _ (by first | omega | (simp; done) | (simp; omega)) (by first | omega | (simp; done) | (simp; omega))) rfl) rfl ?_
  refine VList.go0 (n' := 8) rfl rfl (.un _ _ _ _ _ rfl rfl) rfl ?_
  refine VList.nil (Then.go ?_)
  refine VCode.cond _ rfl (fun hc1 => ?_) (fun hc1 => ?_)
  · replace hc1 := (bnot_t hc1)
    refine VCode.seq ?_
    refine VCode.region ?_
    refine VList.go0 (n' := 9) rfl rfl Eff.int0 rfl ?_
    refine VList.goS (n' := 10) rfl rfl (.store _ _ _ _ _ _ _ rfl rfl rfl rfl P_sz24 (Nat.le_of_ble_eq_true rfl) rfl) rfl ?_
    refine VList.go0 (n' := 11) rfl rfl (.assign _ _ rfl) rfl ?_
    refine VList.nil (Then.go ?_)
    exact VCode.ret (Then.ret (⟨trivial, [.agg [boolB (false), u32S ([])], numB .i64 (1)], (resVars_cons (resVar_cell rfl rfl P_agg24 P_sz24 (Nat.le_of_ble_eq_true rfl) rfl) (resVars_cons (resVar_tmp rfl rfl) resVars_nil)), (by rw [gR_false hc1]; rfl)⟩))
  · replace hc1 := (bnot_f hc1)
    refine VCode.skip (Then.go ?_)
    refine VCode.seq ?_
    obtain ⟨v1, v2⟩ := Bool.and_eq_true_iff.1 hc1
    obtain ⟨nA, lA, sA⟩ := valid_norm oA v1
    obtain ⟨nB, lB, sB⟩ := valid_norm oB v2
    refine VCode.draw (by kernel_rfl) ?_
    refine VLog.go0 (n' := 9) rfl rfl (.fieldAddr _ _ _ _ _ _ _ _ rfl P_fld24_1) rfl ?_
    refine VLog.go0 (n' := 10) rfl rfl (.load1 _ _ _ _ _ _ rfl rfl P_agg22 rfl) rfl ?_
    refine VLog.go0 (n' := 11) rfl rfl (.fieldAddr _ _ _ _ _ _ _ _ rfl P_fld24_1) rfl ?_
    refine VLog.go0 (n' := 12) rfl rfl (.load1 _ _ _ _ _ _ rfl rfl P_agg22 rfl) rfl ?_
    refine VLog.go0 (n' := 13) rfl rfl (.assign _ _ rfl) rfl ?_
    refine VLog.go0 (n' := 14) rfl rfl (.assign _ _ rfl) rfl ?_
    refine VLog.nil ⟨by kernel_rfl, Then.go ?_⟩
    refine VCode.join (α := (List Int) × (List Int)) (fun (x_ : (List Int) × (List Int)) => match x_ with | (X, Y) => (3, sl [(4, .ptr 2 (0)), (6, vS (X)), (7, vS (Y))], en [(2, ⟨2, [vB (false), vS ([])], true⟩)])) (fun (x_ : (List Int) × (List Int)) => match x_ with | (X, Y) => (norm X ∧ norm Y) ∧ (X.length ≤ 128 ∧ Y.length ≤ 2) ∧ Int.gcd (val X) (val Y) = Int.gcd (val A) (val B) ∧ (X.length > 2 → Y.length = 0)) ?_ ?_
    · skip
      refine VCode.block ?_
      refine VCode.loop (α := (List Int) × (List Int)) (fun (x_ : (List Int) × (List Int)) => match x_ with | (X, Y) => (3, sl [(4, .ptr 2 (0)), (6, vS (X)), (7, vS (Y))], en [(2, ⟨2, [vB (false), vS ([])], true⟩)])) (fun (x_ : (List Int) × (List Int)) => match x_ with | (X, Y) => (norm X ∧ norm Y) ∧ (X.length ≤ 128 ∧ Y.length ≤ 128) ∧ Int.gcd (val X) (val Y) = Int.gcd (val A) (val B)) (fun (x_ : (List Int) × (List Int)) => match x_ with | (X, Y) => (val Y).toNat) (A, B) ⟨⟨nA, nB⟩, ⟨lA, lB⟩, rfl⟩ (Weak.of (show 0 ≤ 3 by decide) ⟨⟨rfl, rfl⟩, ⟨⟨rfl, rfl⟩, ⟨⟨rfl, rfl⟩, trivial⟩⟩⟩ ⟨⟨rfl, (show 2 < 3 by decide), (by intro v_ hv_; simp at hv_; rcases hv_ with rfl | rfl <;> rfl)⟩, trivial⟩) ?_
      rintro ⟨X, Y⟩ hok
      obtain ⟨⟨nX, nY⟩, ⟨lX, lY⟩, hg⟩ := hok
      show VCode Try.prog 0 _ 3 (sl [(4, .ptr 2 (0)), (6, vS (X)), (7, vS (Y))]) (en [(2, ⟨2, [vB (false), vS ([])], true⟩)]) _
      refine VCode.seq ?_
      refine VCode.seq ?_
      refine VCode.region ?_
      refine VList.go0 (n' := 4) rfl rfl (.move _ _ rfl) rfl ?_
      refine VList.go0 (n' := 5) rfl rfl (Eff.lenS rfl Try.underlying22) rfl ?_
      refine VList.go0 (n' := 6) rfl rfl (.bin _ _ _ _ _ _ _ _ rfl rfl rfl) rfl ?_
      refine VList.go0 (n' := 7) rfl rfl (.move _ _ rfl) rfl ?_
      refine VList.split (d := 24) _ rfl (fun hc2 => ?_) (fun hc2 => ?_)
      · replace hc2 := of_decide_eq_true hc2
        refine VList.go0 (n' := 8) rfl rfl (.move _ _ rfl) rfl ?_
        refine VList.go0 (n' := 9) rfl rfl (Eff.lenS rfl Try.underlying22) rfl ?_
        refine VList.go0 (n' := 10) rfl rfl (.bin _ _ _ _ _ _ _ _ rfl rfl rfl) rfl ?_
        refine VList.go0 (n' := 11) rfl rfl (.move _ _ rfl) rfl ?_
        refine VList.split (d := 28) _ rfl (fun hc3 => ?_) (fun hc3 => ?_)
        · replace hc3 := of_decide_eq_true hc3
          refine VList.skip (n' := 12) rfl rfl rfl ?_
          refine VList.skip (n' := 13) rfl rfl rfl ?_
          refine VList.skip (n' := 14) rfl rfl rfl ?_
          refine VList.go0 (n' := 15) rfl rfl (.pick _ _ _ _ _ rfl rfl) rfl ?_
          refine VList.go0 (n' := 16) rfl rfl (.pick _ _ _ _ _ rfl rfl) rfl ?_
          refine VList.nil (Then.go ?_)
          refine VCode.cond _ rfl (fun _ => ?_) (fun h_ => Bool.noConfusion h_)
          refine VCode.skip (Then.go ?_)
          refine VCode.block ?_
          refine VCode.seq ?_
          have yP := norm_pos nY (fun e => by rw [e] at hc2; simp at hc2)
          have m0 := Int.emod_nonneg (val X) (show val Y ≠ 0 by omega)
          have m1 := Int.emod_lt_of_pos (val X) yP
          have hR : (dg (val X % val Y)).length ≤ 128 := Nat.le_trans (len_le nY.1 m0 (Int.le_of_lt m1)) lY
          refine VCode.region ?_
          refine VList.go0 (n' := 17) rfl rfl (.move _ _ rfl) rfl ?_
          refine VList.go0 (n' := 18) rfl rfl (.move _ _ rfl) rfl ?_
          refine VList.go0 (n' := 19) rfl rfl (Eff.callV0 rfl (ress_cons rfl (ress_cons rfl ress_nil)) (f51 _ _ (by first | omega | (simp; done) | (simp; omega)) (by first | omega | (simp; done) | (simp; omega)) (nX) (nY) (yP)) rfl) rfl ?_
          refine VList.go0 (n' := 20) rfl rfl (.move _ _ rfl) rfl ?_
          refine VList.go0 (n' := 21) rfl rfl (.extract _ _ _ _ rfl rfl) rfl ?_
          refine VList.go0 (n' := 22) rfl rfl (.extract _ _ _ _ rfl rfl) rfl ?_
          refine VList.go0 (n' := 23) rfl rfl (.assign _ _ rfl) rfl ?_
          refine VList.go0 (n' := 24) rfl rfl (.assign _ _ rfl) rfl ?_
          refine VList.nil (Then.go ?_)
          refine VCode.region ?_
          refine VList.go0 (n' := 25) rfl rfl (.move _ _ rfl) rfl ?_
          refine VList.go0 (n' := 26) rfl rfl (.move _ _ rfl) rfl ?_
          refine VList.go0 (n' := 27) rfl rfl (.assign _ _ rfl) rfl ?_
          refine VList.go0 (n' := 28) rfl rfl (.assign _ _ rfl) rfl ?_
          exact VList.nil (InBlock.go (Round.go (Y, dg (val X % val Y)) ⟨⟨nY, norm_dg _⟩, ⟨lY, hR⟩, by rw [val_dg m0, gcd_swap (val_nonneg nX.1) (Int.le_of_lt yP), hg]⟩ (by show (val (dg (val X % val Y))).toNat < (val Y).toNat; rw [val_dg m0]; omega) (Weak.of (show 0 ≤ 3 by decide) ⟨⟨rfl, rfl⟩, ⟨⟨rfl, rfl⟩, ⟨⟨rfl, rfl⟩, trivial⟩⟩⟩ ⟨⟨rfl, (show 2 < 3 by decide), (by intro v_ hv_; simp at hv_; rcases hv_ with rfl | rfl <;> rfl)⟩, trivial⟩)))
        · replace hc3 := of_decide_eq_false hc3
          refine VList.go0 (n' := 12) rfl rfl (.move _ _ rfl) rfl ?_
          refine VList.go0 (n' := 13) rfl rfl (Eff.lenS rfl Try.underlying22) rfl ?_
          refine VList.go0 (n' := 14) rfl rfl (.bin _ _ _ _ _ _ _ _ rfl rfl rfl) rfl ?_
          refine VList.go0 (n' := 15) rfl rfl (.pick _ _ _ _ _ rfl rfl) rfl ?_
          refine VList.go0 (n' := 16) rfl rfl (.pick _ _ _ _ _ rfl rfl) rfl ?_
          refine VList.nil (Then.go ?_)
          refine VCode.cond _ rfl (fun hc4 => ?_) (fun hc4 => ?_)
          · replace hc4 := of_decide_eq_true hc4
            refine VCode.skip (Then.go ?_)
            refine VCode.block ?_
            refine VCode.seq ?_
            have yP := norm_pos nY (fun e => by rw [e] at hc2; simp at hc2)
            have m0 := Int.emod_nonneg (val X) (show val Y ≠ 0 by omega)
            have m1 := Int.emod_lt_of_pos (val X) yP
            have hR : (dg (val X % val Y)).length ≤ 128 := Nat.le_trans (len_le nY.1 m0 (Int.le_of_lt m1)) lY
            refine VCode.region ?_
            refine VList.go0 (n' := 17) rfl rfl (.move _ _ rfl) rfl ?_
            refine VList.go0 (n' := 18) rfl rfl (.move _ _ rfl) rfl ?_
            refine VList.go0 (n' := 19) rfl rfl (Eff.callV0 rfl (ress_cons rfl (ress_cons rfl ress_nil)) (f51 _ _ (by first | omega | (simp; done) | (simp; omega)) (by first | omega | (simp; done) | (simp; omega)) (nX) (nY) (yP)) rfl) rfl ?_
            refine VList.go0 (n' := 20) rfl rfl (.move _ _ rfl) rfl ?_
            refine VList.go0 (n' := 21) rfl rfl (.extract _ _ _ _ rfl rfl) rfl ?_
            refine VList.go0 (n' := 22) rfl rfl (.extract _ _ _ _ rfl rfl) rfl ?_
            refine VList.go0 (n' := 23) rfl rfl (.assign _ _ rfl) rfl ?_
            refine VList.go0 (n' := 24) rfl rfl (.assign _ _ rfl) rfl ?_
            refine VList.nil (Then.go ?_)
            refine VCode.region ?_
            refine VList.go0 (n' := 25) rfl rfl (.move _ _ rfl) rfl ?_
            refine VList.go0 (n' := 26) rfl rfl (.move _ _ rfl) rfl ?_
            refine VList.go0 (n' := 27) rfl rfl (.assign _ _ rfl) rfl ?_
            refine VList.go0 (n' := 28) rfl rfl (.assign _ _ rfl) rfl ?_
            exact VList.nil (InBlock.go (Round.go (Y, dg (val X % val Y)) ⟨⟨nY, norm_dg _⟩, ⟨lY, hR⟩, by rw [val_dg m0, gcd_swap (val_nonneg nX.1) (Int.le_of_lt yP), hg]⟩ (by show (val (dg (val X % val Y))).toNat < (val Y).toNat; rw [val_dg m0]; omega) (Weak.of (show 0 ≤ 3 by decide) ⟨⟨rfl, rfl⟩, ⟨⟨rfl, rfl⟩, ⟨⟨rfl, rfl⟩, trivial⟩⟩⟩ ⟨⟨rfl, (show 2 < 3 by decide), (by intro v_ hv_; simp at hv_; rcases hv_ with rfl | rfl <;> rfl)⟩, trivial⟩)))
          · replace hc4 := of_decide_eq_false hc4
            exact VCode.exit (Then.exit (Round.exit (InBlock.here (Joins.go (X, Y) ⟨⟨nX, nY⟩, ⟨lX, by omega⟩, hg, by omega⟩ (Weak.of (show 0 ≤ 3 by decide) ⟨⟨rfl, rfl⟩, ⟨⟨rfl, rfl⟩, ⟨⟨rfl, rfl⟩, trivial⟩⟩⟩ ⟨⟨rfl, (show 2 < 3 by decide), (by intro v_ hv_; simp at hv_; rcases hv_ with rfl | rfl <;> rfl)⟩, trivial⟩)))))
      · replace hc2 := of_decide_eq_false hc2
        refine VList.skip (n' := 8) rfl rfl rfl ?_
        refine VList.skip (n' := 9) rfl rfl rfl ?_
        refine VList.skip (n' := 10) rfl rfl rfl ?_
        refine VList.skip (n' := 11) rfl rfl rfl ?_
        refine VList.skip (n' := 12) rfl rfl rfl ?_
        refine VList.skip (n' := 13) rfl rfl rfl ?_
        refine VList.skip (n' := 14) rfl rfl rfl ?_
        refine VList.skip (n' := 15) rfl rfl rfl ?_
        refine VList.go0 (n' := 16) rfl rfl (.pick _ _ _ _ _ rfl rfl) rfl ?_
        refine VList.nil (Then.go ?_)
        refine VCode.cond _ rfl (fun h_ => Bool.noConfusion h_) (fun _ => ?_)
        exact VCode.exit (Then.exit (Round.exit (InBlock.here (Joins.go (X, Y) ⟨⟨nX, nY⟩, ⟨lX, by omega⟩, hg, by omega⟩ (Weak.of (show 0 ≤ 3 by decide) ⟨⟨rfl, rfl⟩, ⟨⟨rfl, rfl⟩, ⟨⟨rfl, rfl⟩, trivial⟩⟩⟩ ⟨⟨rfl, (show 2 < 3 by decide), (by intro v_ hv_; simp at hv_; rcases hv_ with rfl | rfl <;> rfl)⟩, trivial⟩)))))
    · rintro ⟨X, Y⟩ hok
      obtain ⟨⟨nX, nY⟩, ⟨lX, lY⟩, hg, hXY⟩ := hok
      show VCode Try.prog 0 _ 3 (sl [(4, .ptr 2 (0)), (6, vS (X)), (7, vS (Y))]) (en [(2, ⟨2, [vB (false), vS ([])], true⟩)]) _
      refine VCode.seq ?_
      refine VCode.seq ?_
      refine VCode.region ?_
      refine VList.go0 (n' := 4) rfl rfl (.move _ _ rfl) rfl ?_
      refine VList.go0 (n' := 5) rfl rfl (Eff.lenS rfl Try.underlying22) rfl ?_
      refine VList.go0 (n' := 6) rfl rfl (.bin _ _ _ _ _ _ _ _ rfl rfl rfl) rfl ?_
      refine VList.nil (Then.go ?_)
      refine VCode.cond _ rfl (fun hc5 => ?_) (fun hc5 => ?_)
      · replace hc5 := of_decide_eq_true hc5
        refine VCode.seq ?_
        refine VCode.region ?_
        refine VList.go0 (n' := 7) rfl rfl (.move _ _ rfl) rfl ?_
        refine VList.go0 (n' := 8) rfl rfl (Eff.callV0 rfl (ress_cons rfl (ress_cons rfl ress_nil)) (f54 _ _ (by first | omega | (simp; done) | (simp; omega)) (nX.1)) rfl) rfl ?_
        refine VList.go0 (n' := 9) rfl rfl (.extract _ _ _ _ rfl rfl) rfl ?_
        refine VList.go0 (n' := 10) rfl rfl (.extract _ _ _ _ rfl rfl) rfl ?_
        refine VList.goS (n' := 11) rfl rfl (.store _ _ _ _ _ _ _ rfl rfl rfl rfl P_sz24 (Nat.le_of_ble_eq_true rfl) rfl) rfl ?_
        refine VList.go0 (n' := 12) rfl rfl (.assign _ _ rfl) rfl ?_
        refine VList.nil (Then.go ?_)
        exact VCode.ret (Then.ret (⟨trivial, [.agg [boolB (zN (sg (false) (val (X)))), u32S (zL (sg (false) (val (X))))], numB .i64 (zE (sg (false) (val (X))))], (resVars_cons (resVar_cell rfl rfl P_agg24 P_sz24 (Nat.le_of_ble_eq_true rfl) rfl) (resVars_cons (resVar_tmp rfl rfl) resVars_nil)), (by rw [gR_true hc1, gcd_sg, ← hg, norm_zero nY (hXY (by omega)), gcd_val_zero (val_nonneg nX.1)]; rfl)⟩))
      · replace hc5 := of_decide_eq_false hc5
        refine VCode.skip (Then.go ?_)
        refine VCode.seq ?_
        have wX := word_lt nX.1 (by omega)
        have wY := word_lt nY.1 (by omega)
        refine VCode.region ?_
        refine VList.go0 (n' := 7) rfl rfl (.move _ _ rfl) rfl ?_
        refine VList.go0 (n' := 8) rfl rfl (.callF _ _ _ _ _ _ rfl (ress_cons rfl ress_nil) (f69 _ (by first | omega | (simp; done) | (simp; omega)) (nX.1)) rfl) rfl ?_
        refine VList.go0 (n' := 9) rfl rfl (.move _ _ rfl) rfl ?_
        refine VList.go0 (n' := 10) rfl rfl (.callF _ _ _ _ _ _ rfl (ress_cons rfl ress_nil) (f69 _ (by first | omega | (simp; done) | (simp; omega)) (nY.1)) rfl) rfl ?_
        refine VList.go0 (n' := 11) rfl rfl (.assign _ _ rfl) rfl ?_
        refine VList.go0 (n' := 12) rfl rfl (.assign _ _ rfl) rfl ?_
        refine VList.nil (Then.go ?_)
        refine VCode.seq ?_
        refine VCode.block ?_
        refine VCode.loop (α := (Int) × (Int)) (fun (x_ : (Int) × (Int)) => match x_ with | (x, y) => (3, sl [(4, .ptr 2 (0)), (10, vI .u64 (x)), (11, vI .u64 (y))], en [(2, ⟨2, [vB (false), vS ([])], true⟩)])) (fun (x_ : (Int) × (Int)) => match x_ with | (x, y) => (0 ≤ x ∧ x < 18446744073709551616) ∧ (0 ≤ y ∧ y < 18446744073709551616) ∧ Int.gcd x y = Int.gcd (val A) (val B)) (fun (x_ : (Int) × (Int)) => match x_ with | (x, y) => y.toNat) (val X, val Y) ⟨wX, wY, hg⟩ (Weak.of (show 0 ≤ 3 by decide) ⟨⟨rfl, rfl⟩, ⟨⟨rfl, rfl⟩, ⟨⟨rfl, rfl⟩, trivial⟩⟩⟩ ⟨⟨rfl, (show 2 < 3 by decide), (by intro v_ hv_; simp at hv_; rcases hv_ with rfl | rfl <;> rfl)⟩, trivial⟩) ?_
        rintro ⟨x, y⟩ hok2
        obtain ⟨hx, hy, hg2⟩ := hok2
        show VCode Try.prog 0 _ 3 (sl [(4, .ptr 2 (0)), (10, vI .u64 (x)), (11, vI .u64 (y))]) (en [(2, ⟨2, [vB (false), vS ([])], true⟩)]) _
        refine VCode.seq ?_
        refine VCode.seq ?_
        refine VCode.region ?_
        refine VList.go0 (n' := 4) rfl rfl (.move _ _ rfl) rfl ?_
        refine VList.go0 (n' := 5) rfl rfl (.bin _ _ _ _ _ _ _ _ rfl rfl rfl) rfl ?_
        refine VList.nil (Then.go ?_)
        refine VCode.cond _ rfl (fun hc6 => ?_) (fun hc6 => ?_)
        · replace hc6 := of_decide_eq_true hc6
          refine VCode.skip (Then.go ?_)
          refine VCode.block ?_
          refine VCode.draw (by kernel_rfl) ?_
          refine VLog.go0 (n' := 6) rfl rfl (.move _ _ rfl) rfl ?_
          refine VLog.go0 (n' := 7) rfl rfl (.move _ _ rfl) rfl ?_
          refine VLog.go0 (n' := 8) rfl rfl (.move _ _ rfl) rfl ?_
          refine VLog.go0 (n' := 9) rfl rfl (.bin _ _ _ _ _ _ _ _ rfl rfl (bop_rem_u64 (by first | omega | (simp; done) | (simp; omega)) (by first | omega | (simp; done) | (simp; omega)))) rfl ?_
          refine VLog.go0 (n' := 10) rfl rfl (.assign _ _ rfl) rfl ?_
          refine VLog.go0 (n' := 11) rfl rfl (.assign _ _ rfl) rfl ?_
          exact VLog.nil ⟨by kernel_rfl, InBlock.go (Round.go (y, x % y) (by have e1 := Int.emod_nonneg x (show y ≠ 0 by omega); have e2 := Int.emod_lt_of_pos x (show 0 < y by omega); exact ⟨hy, by omega, by rw [gcd_swap hx.1 hy.1, hg2]⟩) (by have e1 := Int.emod_nonneg x (show y ≠ 0 by omega); have e2 := Int.emod_lt_of_pos x (show 0 < y by omega); show (x % y).toNat < y.toNat; omega) (Weak.of (show 0 ≤ 3 by decide) ⟨⟨rfl, rfl⟩, ⟨⟨rfl, rfl⟩, ⟨⟨rfl, rfl⟩, trivial⟩⟩⟩ ⟨⟨rfl, (show 2 < 3 by decide), (by intro v_ hv_; simp at hv_; rcases hv_ with rfl | rfl <;> rfl)⟩, trivial⟩))⟩
        · replace hc6 := of_decide_eq_false hc6
          refine VCode.exit (Then.exit (Round.exit (InBlock.here (Then.go ?_))))
          refine VCode.seq ?_
          refine VCode.region ?_
          refine VList.go0 (n' := 6) rfl rfl (.move _ _ rfl) rfl ?_
          refine VList.go0 (n' := 7) rfl rfl (Eff.convM_u32 rfl Try.underlying62 Try.underlying51) rfl ?_
          refine VList.go0 (n' := 8) rfl rfl (.move _ _ rfl) rfl ?_
          refine VList.go0 (n' := 9) rfl rfl (.bin _ _ _ _ _ _ _ _ rfl rfl (bop_shrL_u64 (q := 4294967296) (by decide) (by decide) (by decide))) rfl ?_
          refine VList.go0 (n' := 10) rfl rfl (Eff.convM_u32 rfl Try.underlying62 Try.underlying51) rfl ?_
          refine VList.go1 (n' := 11) rfl rfl (Eff.lits2 rfl rfl Try.underlying22 P_zero51 P_sz51) rfl ?_
          refine VList.goN (n' := 12) rfl rfl (.callV _ _ _ _ _ _ rfl (ress_cons rfl (ress_cons (res_row rfl (by first | omega | (simp; done) | (simp; omega) | (simp [*]; done) | (simp [*]; omega))) ress_nil)) (f54 _ _ (by simp) (ok32_two (by omega) (by omega)))) rfl ?_
          refine VList.go0 (n' := 13) rfl rfl (.extract _ _ _ _ rfl rfl) rfl ?_
          refine VList.go0 (n' := 14) rfl rfl (.extract _ _ _ _ rfl rfl) rfl ?_
          refine VList.goS (n' := 15) rfl rfl (.store _ _ _ _ _ _ _ rfl rfl rfl rfl P_sz24 (Nat.le_of_ble_eq_true rfl) rfl) rfl ?_
          refine VList.go0 (n' := 16) rfl rfl (.assign _ _ rfl) rfl ?_
          refine VList.nil (Then.go ?_)
          exact VCode.ret (⟨trivial, [.agg [boolB (zN (sg (false) (val ([((x) % 4294967296), (((x / 4294967296)) % 4294967296)])))), u32S (zL (sg (false) (val ([((x) % 4294967296), (((x / 4294967296)) % 4294967296)]))))], numB .i64 (zE (sg (false) (val ([((x) % 4294967296), (((x / 4294967296)) % 4294967296)]))))], (resVars_cons (resVar_cell rfl rfl P_agg24 P_sz24 (Nat.le_of_ble_eq_true rfl) rfl) (resVars_cons (resVar_tmp rfl rfl) resVars_nil)), (by rw [gR_true hc1, gcd_sg, gcd_words x hx.1 hx.2, ← hg2, show y = 0 by omega, gcd_val_zero hx.1]; rfl)⟩)
end Go.VL

/- Walks over the Go functions, printed by a program of this session over the kit's print, and by hand. -/
set_option linter.unusedVariables false
set_option linter.unusedSimpArgs false
namespace Go.VL
open Go.Proofs
theorem f44 (n : Bool) (A : List Int) (hA : A.length ≤ 9223372036854775807) (oA : ok32 A) : VF Try.prog 44 [.agg [boolB (n), u32S (A)]] (sqR (validB n A) (zOf n A)) := by
  refine VF_of P_mixed Try.func44 rfl rfl (by kernel_rfl) ?_
  refine VCode.seq ?_
  refine VCode.region ?_
  refine VList.go1 (n' := 1) rfl rfl (.box _ _ _ rfl (List.cons_ne_nil _ _) rfl) rfl ?_
  refine VList.go1 (n' := 2) rfl rfl (.alloc _ _ P_zero24 (List.cons_ne_nil _ _)) rfl ?_
  refine VList.go0 (n' := 3) rfl rfl (.assign _ _ rfl) rfl ?_
  refine VList.go0 (n' := 4) rfl rfl (.assign _ _ rfl) rfl ?_
  refine VList.nil (Then.go ?_)
  refine VCode.seq ?_
  refine VCode.seq ?_
  refine VCode.region ?_
  refine VList.go0 (n' := 5) rfl rfl (.loadS _ _ _ _ _ _ rfl rfl P_agg24 P_sz24 (Nat.le_of_ble_eq_true rfl)) rfl ?_
  refine VList.go0 (n' := 6) rfl rfl (.callF _ _ _ _ _ _ rfl (ress_cons rfl ress_nil) (f36 _ _ (by first | omega | (simp; done) | (simp; omega))) rfl) rfl ?_
  refine VList.go0 (n' := 7) rfl rfl (.un _ _ _ _ _ rfl rfl) rfl ?_
  refine VList.nil (Then.go ?_)
  refine VCode.cond _ rfl (fun hc1 => ?_) (fun hc1 => ?_)
  · replace hc1 := (bnot_t hc1)
    refine VCode.seq ?_
    refine VCode.region ?_
    refine VList.go0 (n' := 8) rfl rfl Eff.int0 rfl ?_
    refine VList.goS (n' := 9) rfl rfl (.store _ _ _ _ _ _ _ rfl rfl rfl rfl P_sz24 (Nat.le_of_ble_eq_true rfl) rfl) rfl ?_
    refine VList.go0 (n' := 10) rfl rfl (.assign _ _ rfl) rfl ?_
    refine VList.go0 (n' := 11) rfl rfl (.assign _ _ rfl) rfl ?_
    refine VList.nil (Then.go ?_)
    exact VCode.ret (Then.ret (⟨trivial, [.agg [boolB (false), u32S ([])], boolB (false), numB .i64 (1)], (resVars_cons (resVar_cell rfl rfl P_agg24 P_sz24 (Nat.le_of_ble_eq_true rfl) rfl) (resVars_cons (resVar_tmp rfl rfl) (resVars_cons (resVar_tmp rfl rfl) resVars_nil))), (by rw [sqR_bad hc1]; rfl)⟩))
  · replace hc1 := (bnot_f hc1)
    refine VCode.skip (Then.go ?_)
    refine VCode.seq ?_
    refine VCode.seq ?_
    obtain ⟨nA, lA, sA⟩ := valid_norm oA hc1
    refine VCode.region ?_
    refine VList.go0 (n' := 8) rfl rfl (.fieldAddr _ _ _ _ _ _ _ _ rfl P_fld24_0) rfl ?_
    refine VList.go0 (n' := 9) rfl rfl (.load1 _ _ _ _ _ _ rfl rfl P_agg4 rfl) rfl ?_
    refine VList.nil (Then.go ?_)
    refine VCode.cond _ rfl (fun hc2 => ?_) (fun hc2 => ?_)
    · (try simp at hc2)
      refine VCode.seq ?_
      refine VCode.region ?_
      refine VList.go0 (n' := 10) rfl rfl Eff.int0 rfl ?_
      refine VList.goS (n' := 11) rfl rfl (.store _ _ _ _ _ _ _ rfl rfl rfl rfl P_sz24 (Nat.le_of_ble_eq_true rfl) rfl) rfl ?_
      refine VList.go0 (n' := 12) rfl rfl (.assign _ _ rfl) rfl ?_
      refine VList.go0 (n' := 13) rfl rfl (.assign _ _ rfl) rfl ?_
      refine VList.nil (Then.go ?_)
      exact VCode.ret (Then.ret (⟨trivial, [.agg [boolB (false), u32S ([])], boolB (false), numB .i64 (5)], (resVars_cons (resVar_cell rfl rfl P_agg24 P_sz24 (Nat.le_of_ble_eq_true rfl) rfl) (resVars_cons (resVar_tmp rfl rfl) (resVars_cons (resVar_tmp rfl rfl) resVars_nil))), (by rw [sqR_neg hc1 (by have := neg_pos nA sA hc2; simp [zOf, sg, hc2]; omega)]; rfl)⟩))
    · (try simp at hc2)
      refine VCode.skip (Then.go ?_)
      refine VCode.seq ?_
      refine VCode.seq ?_
      have vA := val_nonneg oA
      have zA : zOf n A = val A := by rw [hc2]; rfl
      refine VCode.region ?_
      refine VList.go0 (n' := 10) rfl rfl (.fieldAddr _ _ _ _ _ _ _ _ rfl P_fld24_1) rfl ?_
      refine VList.go0 (n' := 11) rfl rfl (.load1 _ _ _ _ _ _ rfl rfl P_agg22 rfl) rfl ?_
      refine VList.go0 (n' := 12) rfl rfl (Eff.lenS rfl Try.underlying22) rfl ?_
      refine VList.go0 (n' := 13) rfl rfl (.bin _ _ _ _ _ _ _ _ rfl rfl rfl) rfl ?_
      refine VList.nil (Then.go ?_)
      refine VCode.cond _ rfl (fun hc3 => ?_) (fun hc3 => ?_)
      · replace hc3 := eq_of_beq hc3
        refine VCode.seq ?_
        refine VCode.region ?_
        refine VList.go0 (n' := 14) rfl rfl Eff.int0 rfl ?_
        refine VList.goS (n' := 15) rfl rfl (.store _ _ _ _ _ _ _ rfl rfl rfl rfl P_sz24 (Nat.le_of_ble_eq_true rfl) rfl) rfl ?_
        refine VList.go0 (n' := 16) rfl rfl (.assign _ _ rfl) rfl ?_
        refine VList.go0 (n' := 17) rfl rfl (.assign _ _ rfl) rfl ?_
        refine VList.nil (Then.go ?_)
        exact VCode.ret (Then.ret (⟨trivial, [.agg [boolB (false), u32S ([])], boolB (true), numB .i64 (0)], (resVars_cons (resVar_cell rfl rfl P_agg24 P_sz24 (Nat.le_of_ble_eq_true rfl) rfl) (resVars_cons (resVar_tmp rfl rfl) (resVars_cons (resVar_tmp rfl rfl) resVars_nil))), (by rw [sqR_ok hc1 (by omega), zA, norm_zero nA (by omega), sq_zero]; rfl)⟩))
      · replace hc3 := ne_of_beq_false hc3
        refine VCode.skip (Then.go ?_)
        refine VCode.seq ?_
        have bP := norm_pos nA (fun e => hc3 (by rw [e]; rfl))
        have bl : blen (val A).toNat ≤ 4096 := (blen_lt 4096 (val A).toNat).2 (blen_limit vA (val_limit oA lA))
        have isp := isq_pos bP
        have hx0 : 0 ≤ val [1] * 2 ^ ((((blen (val A).toNat : Nat) : Int) + 1) / 2).toNat := Int.mul_nonneg (by decide) (Int.le_of_lt (two_pow_pos _))
        have hX0 : (dg (val [1] * 2 ^ ((((blen (val A).toNat : Nat) : Int) + 1) / 2).toNat)).length ≤ 1000 := start_len (by omega)
        refine VCode.region ?_
        refine VList.go1 (n' := 14) rfl rfl (Eff.lits1 rfl Try.underlying22 P_zero51 P_sz51) rfl ?_
        refine VList.go0 (n' := 15) rfl rfl (.fieldAddr _ _ _ _ _ _ _ _ rfl P_fld24_1) rfl ?_
        refine VList.go0 (n' := 16) rfl rfl (.load1 _ _ _ _ _ _ rfl rfl P_agg22 rfl) rfl ?_
        refine VList.go0 (n' := 17) rfl rfl (.callF _ _ _ _ _ _ rfl (ress_cons rfl ress_nil) (f77 _ (by first | omega | (simp; done) | (simp; omega)) (nA)) rfl) rfl ?_
        refine VList.go0 (n' := 18) rfl rfl (.bin _ _ _ _ _ _ _ _ rfl rfl (bop_add_i64 (by first | omega | (simp; done) | (simp; omega)))) rfl ?_
        refine VList.go0 (n' := 19) rfl rfl (.bin _ _ _ _ _ _ _ _ rfl rfl (bop_quo_i64 (by first | omega | (simp; done) | (simp; omega)) (by first | omega | (simp; done) | (simp; omega)) (by first | omega | (simp; done) | (simp; omega)))) rfl ?_
        refine VList.goN (n' := 20) rfl rfl (.callV _ _ _ _ _ _ rfl (ress_cons (res_row rfl (by first | omega | (simp; done) | (simp; omega) | (simp [*]; done) | (simp [*]; omega))) (ress_cons rfl ress_nil)) (f67 _ _ (by first | omega | (simp; done) | (simp; omega)) (ok32_cons.2 ⟨by omega, ok32_nil⟩) (by first | omega | (simp; done) | (simp; omega)) (by first | omega | (simp; done) | (simp; omega)))) rfl ?_
        refine VList.go0 (n' := 21) rfl rfl (.assign _ _ rfl) rfl ?_
        refine VList.nil (Then.go ?_)
        refine VCode.seq ?_
        refine VCode.block ?_
        refine VCode.loop (α := (List Int)) (fun (X : (List Int)) => (2, sl [(1, .ptr 0 (0)), (2, .ptr 1 (0)), (5, vS (X))], en [(0, ⟨2, [vB (n), vS (A)], true⟩), (1, ⟨2, [vB (false), vS ([])], true⟩)])) (fun (X : (List Int)) => norm X ∧ X.length ≤ 1000 ∧ isq (val A) ≤ val X) (fun (X : (List Int)) => (val X).toNat) (dg (val [1] * 2 ^ ((((blen (val A).toNat : Nat) : Int) + 1) / 2).toNat)) ⟨norm_dg _, hX0, by rw [val_dg hx0]; exact newton_start vA (by omega)⟩ (Weak.of (show 0 ≤ 2 by decide) ⟨⟨rfl, rfl⟩, ⟨⟨rfl, rfl⟩, ⟨⟨rfl, rfl⟩, trivial⟩⟩⟩ ⟨⟨rfl, (show 0 < 2 by decide), (by intro v_ hv_; simp at hv_; rcases hv_ with rfl | rfl <;> rfl)⟩, ⟨⟨rfl, (show 1 < 2 by decide), (by intro v_ hv_; simp at hv_; rcases hv_ with rfl | rfl <;> rfl)⟩, trivial⟩⟩) ?_
        intro X hok
        obtain ⟨nX, lX, sX⟩ := hok
        have xP : 0 < val X := by omega
        have q0 := Int.ediv_nonneg vA (Int.le_of_lt xP)
        have lQ : (dg (val A / val X)).length ≤ 128 := Nat.le_trans (len_le oA q0 (Int.ediv_le_self _ vA)) lA
        have eY : val (dg (val (dg (val X + val (dg (val A / val X)))) / 2 ^ (1 : Int).toNat)) = (val X + val A / val X) / 2 := newton_dg vA xP
        have hN := newton_ge vA xP
        have lS : (dg (val X + val (dg (val A / val X)))).length ≤ 900000000 := sum_len nX.1 (ok32_dg _) lX lQ
        show VCode Try.prog 0 _ 2 (sl [(1, .ptr 0 (0)), (2, .ptr 1 (0)), (5, vS (X))]) (en [(0, ⟨2, [vB (n), vS (A)], true⟩), (1, ⟨2, [vB (false), vS ([])], true⟩)]) _
        refine VCode.block ?_
        refine VCode.seq ?_
        refine VCode.region ?_
        refine VList.go0 (n' := 3) rfl rfl (.fieldAddr _ _ _ _ _ _ _ _ rfl P_fld24_1) rfl ?_
        refine VList.go0 (n' := 4) rfl rfl (.load1 _ _ _ _ _ _ rfl rfl P_agg22 rfl) rfl ?_
        refine VList.go0 (n' := 5) rfl rfl (.move _ _ rfl) rfl ?_
        refine VList.go0 (n' := 6) rfl rfl (Eff.callV0 rfl (ress_cons rfl (ress_cons rfl ress_nil)) (f51 _ _ (by first | omega | (simp; done) | (simp; omega)) (by first | omega | (simp; done) | (simp; omega)) (nA) (nX) (xP)) rfl) rfl ?_
        refine VList.go0 (n' := 7) rfl rfl (.move _ _ rfl) rfl ?_
        refine VList.go0 (n' := 8) rfl rfl (.extract _ _ _ _ rfl rfl) rfl ?_
        refine VList.go0 (n' := 9) rfl rfl (.extract _ _ _ _ rfl rfl) rfl ?_
        refine VList.go0 (n' := 10) rfl rfl (.assign _ _ rfl) rfl ?_
        refine VList.go0 (n' := 11) rfl rfl (.assign _ _ rfl) rfl ?_
        refine VList.nil (Then.go ?_)
        refine VCode.seq ?_
        refine VCode.region ?_
        refine VList.go0 (n' := 12) rfl rfl (.move _ _ rfl) rfl ?_
        refine VList.go0 (n' := 13) rfl rfl (.move _ _ rfl) rfl ?_
        refine VList.go0 (n' := 14) rfl rfl (Eff.callV0 rfl (ress_cons rfl (ress_cons rfl ress_nil)) (f52 _ _ (by first | omega | (simp; done) | (simp; omega)) (by first | omega | (simp; done) | (simp; omega)) (nX.1) (ok32_dg _)) rfl) rfl ?_
        refine VList.go0 (n' := 15) rfl rfl (Eff.callV0 rfl (ress_cons rfl (ress_cons rfl ress_nil)) (f68 _ _ (lS) (norm_dg _) (by first | omega | (simp; done) | (simp; omega)) (by first | omega | (simp; done) | (simp; omega))) rfl) rfl ?_
        refine VList.go0 (n' := 16) rfl rfl (.move _ _ rfl) rfl ?_
        refine VList.go0 (n' := 17) rfl rfl (.extract _ _ _ _ rfl rfl) rfl ?_
        refine VList.go0 (n' := 18) rfl rfl (.extract _ _ _ _ rfl rfl) rfl ?_
        refine VList.go0 (n' := 19) rfl rfl (.assign _ _ rfl) rfl ?_
        refine VList.go0 (n' := 20) rfl rfl (.assign _ _ rfl) rfl ?_
        refine VList.nil (Then.go ?_)
        refine VCode.seq ?_
        refine VCode.seq ?_
        refine VCode.region ?_
        refine VList.go0 (n' := 21) rfl rfl (.move _ _ rfl) rfl ?_
        refine VList.go0 (n' := 22) rfl rfl (.move _ _ rfl) rfl ?_
        refine VList.go0 (n' := 23) rfl rfl (.callF _ _ _ _ _ _ rfl (ress_cons rfl (ress_cons rfl ress_nil)) (f74 _ _ (Nat.le_trans (norm_le_len (norm_dg _) (norm_dg _) (newton_len vA xP)) (Nat.le_trans lS (by omega))) (by first | omega | (simp; done) | (simp; omega)) (ok32_dg _) (nX.1) (fun h => cmp_len (norm_dg _) nX h)) rfl) rfl ?_
        refine VList.go0 (n' := 24) rfl rfl (.bin _ _ _ _ _ _ _ _ rfl rfl rfl) rfl ?_
        refine VList.nil (Then.go ?_)
        refine VCode.cond _ rfl (fun hc4 => ?_) (fun hc4 => ?_)
        · replace hc4 := of_decide_eq_true hc4
          refine VCode.exit (Then.exit (InBlock.out (by decide) (Round.exit (InBlock.here (Then.go ?_)))))
          refine VCode.seq ?_
          have hge := cmp3_ge hc4
          have eX := newton_stop vA xP sX (by rw [← eY]; exact hge)
          have lX2 : X.length ≤ 128 := by rw [← dg_val nX, eX]; exact Nat.le_trans (isq_len oA rfl) lA
          have mX := mul_len2 nX.1 nX.1 lX2 lX2
          have xx := Int.mul_nonneg (Int.le_of_lt xP) (Int.le_of_lt xP)
          refine VCode.region ?_
          refine VList.go0 (n' := 25) rfl rfl (.move _ _ rfl) rfl ?_
          refine VList.go0 (n' := 26) rfl rfl (Eff.callV0 rfl (ress_cons rfl (ress_cons rfl ress_nil)) (f54 _ _ (by first | omega | (simp; done) | (simp; omega)) (nX.1)) rfl) rfl ?_
          refine VList.go0 (n' := 27) rfl rfl (.move _ _ rfl) rfl ?_
          refine VList.go0 (n' := 28) rfl rfl (.extract _ _ _ _ rfl rfl) rfl ?_
          refine VList.go0 (n' := 29) rfl rfl (.extract _ _ _ _ rfl rfl) rfl ?_
          refine VList.go1 (n' := 30) rfl rfl (.alloc _ _ P_zero24 (List.cons_ne_nil _ _)) rfl ?_
          refine VList.goS (n' := 31) rfl rfl (.store _ _ _ _ _ _ _ rfl rfl rfl rfl P_sz24 (Nat.le_of_ble_eq_true rfl) rfl) rfl ?_
          refine VList.go0 (n' := 32) rfl rfl (.assign _ _ rfl) rfl ?_
          refine VList.nil (Then.go ?_)
          refine VCode.seq ?_
          refine VCode.draw (by kernel_rfl) ?_
          refine VLog.go0 (n' := 33) rfl rfl (.loadS _ _ _ _ _ _ rfl rfl P_agg24 P_sz24 (Nat.le_of_ble_eq_true rfl)) rfl ?_
          refine VLog.go0 (n' := 34) rfl rfl (.move _ _ rfl) rfl ?_
          refine VLog.go0 (n' := 35) rfl rfl (.move _ _ rfl) rfl ?_
          refine VLog.go0 (n' := 36) rfl rfl (Eff.callV0 rfl (ress_cons rfl (ress_cons rfl ress_nil)) (f63 _ _ (by first | omega | (simp; done) | (simp; omega)) (by first | omega | (simp; done) | (simp; omega)) (nX.1) (nX.1)) rfl) rfl ?_
          refine VLog.go0 (n' := 37) rfl rfl (.fieldAddr _ _ _ _ _ _ _ _ rfl P_fld24_1) rfl ?_
          refine VLog.go0 (n' := 38) rfl rfl (.load1 _ _ _ _ _ _ rfl rfl P_agg22 rfl) rfl ?_
          refine VLog.go0 (n' := 39) rfl rfl (.callF _ _ _ _ _ _ rfl (ress_cons rfl (ress_cons rfl ress_nil)) (f74 _ _ (by first | omega | (simp; done) | (simp; omega)) (by first | omega | (simp; done) | (simp; omega)) (ok32_dg _) (oA) (fun h => cmp_len (norm_dg _) nA h)) rfl) rfl ?_
          refine VLog.go0 (n' := 40) rfl rfl (.bin _ _ _ _ _ _ _ _ rfl rfl rfl) rfl ?_
          refine VLog.go0 (n' := 41) rfl rfl (.move _ _ rfl) rfl ?_
          refine VLog.goS (n' := 42) rfl rfl (.store _ _ _ _ _ _ _ rfl rfl rfl rfl P_sz24 (Nat.le_of_ble_eq_true rfl) rfl) rfl ?_
          refine VLog.go0 (n' := 43) rfl rfl (.assign _ _ rfl) rfl ?_
          refine VLog.go0 (n' := 44) rfl rfl (.assign _ _ rfl) rfl ?_
          refine VLog.nil ⟨by kernel_rfl, Then.go ?_⟩
          exact VCode.ret (⟨trivial, [.agg [boolB (zN (sg (false) (val (X)))), u32S (zL (sg (false) (val (X))))], boolB ((cmp3 (val (dg (val (X) * val (X)))) (val (A)) == 0)), numB .i64 (zE (sg (false) (val (X))))], (resVars_cons (resVar_cell rfl rfl P_agg24 P_sz24 (Nat.le_of_ble_eq_true rfl) rfl) (resVars_cons (resVar_tmp rfl rfl) (resVars_cons (resVar_tmp rfl rfl) resVars_nil))), (by rw [sqR_ok hc1 (by omega), zA, ← eX, ← sq_eq xx, ← zE_small (Int.le_of_lt xP) (val_limit nX.1 lX2)]; rfl)⟩)
        · replace hc4 := of_decide_eq_false hc4
          refine VCode.skip (Then.go ?_)
          refine VCode.region ?_
          refine VList.go0 (n' := 25) rfl rfl (.move _ _ rfl) rfl ?_
          refine VList.go0 (n' := 26) rfl rfl (.assign _ _ rfl) rfl ?_
          exact VList.nil (InBlock.go (Round.go (dg (val (dg (val X + val (dg (val A / val X)))) / 2 ^ (1 : Int).toNat)) ⟨norm_dg _, Nat.le_trans (norm_le_len (norm_dg _) nX (Int.le_of_lt (cmp3_nge hc4))) lX, by rw [eY]; exact hN⟩ (by have h := cmp3_nge hc4; show (val (dg (val (dg (val X + val (dg (val A / val X)))) / 2 ^ (1 : Int).toNat))).toNat < (val X).toNat; omega) (Weak.of (show 0 ≤ 2 by decide) ⟨⟨rfl, rfl⟩, ⟨⟨rfl, rfl⟩, ⟨⟨rfl, rfl⟩, trivial⟩⟩⟩ ⟨⟨rfl, (show 0 < 2 by decide), (by intro v_ hv_; simp at hv_; rcases hv_ with rfl | rfl <;> rfl)⟩, ⟨⟨rfl, (show 1 < 2 by decide), (by intro v_ hv_; simp at hv_; rcases hv_ with rfl | rfl <;> rfl)⟩, trivial⟩⟩)))
end Go.VL

/- Walks over the Go functions, printed by a program of this session over the kit's print, and by hand. -/
set_option linter.unusedVariables false
set_option linter.unusedSimpArgs false
namespace Go.VL
open Go.Proofs
theorem f22 (n : Bool) (A : List Int) (hA : A.length ≤ 9223372036854775807) (oA : ok32 A) : VF Try.prog 22 [.agg [boolB (n), u32S (A)]] (.tup [.lit (.string (tS (validB n A) (zOf n A))), numB .i64 (tE (validB n A))]) := by
  refine VF_of P_mixed Try.func22 rfl rfl (by kernel_rfl) ?_
  refine VCode.seq ?_
  refine VCode.region ?_
  refine VList.go1 (n' := 1) rfl rfl (.box _ _ _ rfl (List.cons_ne_nil _ _) rfl) rfl ?_
  refine VList.go0 (n' := 2) rfl rfl (.assign _ _ rfl) rfl ?_
  refine VList.go0 (n' := 3) rfl rfl (.assign _ _ rfl) rfl ?_
  refine VList.nil (Then.go ?_)
  refine VCode.seq ?_
  refine VCode.seq ?_
  refine VCode.region ?_
  refine VList.go0 (n' := 4) rfl rfl (.loadS _ _ _ _ _ _ rfl rfl P_agg24 P_sz24 (Nat.le_of_ble_eq_true rfl)) rfl ?_
  refine VList.go0 (n' := 5) rfl rfl (.callF _ _ _ _ _ _ rfl (ress_cons rfl ress_nil) (f36 _ _ (by first | omega | (simp; done) | (simp; omega))) rfl) rfl ?_
  refine VList.go0 (n' := 6) rfl rfl (.un _ _ _ _ _ rfl rfl) rfl ?_
  refine VList.nil (Then.go ?_)
  refine VCode.cond _ rfl (fun hc1 => ?_) (fun hc1 => ?_)
  · replace hc1 := (bnot_t hc1)
    refine VCode.seq ?_
    refine VCode.region ?_
    refine VList.go0 (n' := 7) rfl rfl (.assign _ _ rfl) rfl ?_
    refine VList.go0 (n' := 8) rfl rfl (.assign _ _ rfl) rfl ?_
    refine VList.nil (Then.go ?_)
    exact VCode.ret (Then.ret (⟨trivial, [.lit (.string ((⟨#[]⟩ : ByteArray))), numB .i64 (1)], (resVars_cons (resVar_tmp rfl rfl) (resVars_cons (resVar_tmp rfl rfl) resVars_nil)), (by rw [tS_false hc1, tE, hc1]; rfl)⟩))
  · replace hc1 := (bnot_f hc1)
    refine VCode.skip (Then.go ?_)
    refine VCode.seq ?_
    obtain ⟨nA, lA, sA⟩ := valid_norm oA hc1
    have vA := val_nonneg oA
    have tlen := dd_val_len oA lA
    refine VCode.region ?_
    refine VList.go0 (n' := 7) rfl rfl .assignNil rfl ?_
    refine VList.nil (Then.go ?_)
    refine VCode.seq ?_
    refine VCode.seq ?_
    refine VCode.region ?_
    refine VList.go0 (n' := 8) rfl rfl (.fieldAddr _ _ _ _ _ _ _ _ rfl P_fld24_1) rfl ?_
    refine VList.go0 (n' := 9) rfl rfl (.load1 _ _ _ _ _ _ rfl rfl P_agg22 rfl) rfl ?_
    refine VList.go0 (n' := 10) rfl rfl (.assign _ _ rfl) rfl ?_
    refine VList.nil (Then.go ?_)
    refine VCode.block ?_
    refine VCode.loop (α := ((Unit)) ⊕ ((List Int) × (Nat) × (List Int))) (fun x_ => match x_ with | .inl (u) => (1, sl [(1, .ptr 0 (0)), (4, .b .nil), (5, vS (A))], en [(0, ⟨2, [vB (n), vS (A)], true⟩)]) | .inr (L, m, D) => (91, sl [(1, .ptr 0 (0)), (4, .own 90 (m)), (5, vS (L))], en [(0, ⟨2, [vB (n), vS (A)], true⟩), (90, rowK .u8 (D))])) (fun x_ => match x_ with | .inl (u) => True | .inr (L, m, D) => (norm L ∧ L.length ≤ 128) ∧ D.length = m ∧ dd (val A).toNat = D ++ dd (val L).toNat) (fun x_ => match x_ with | .inl (u) => (val A).toNat + 1 | .inr (L, m, D) => (val L).toNat) (.inl (())) trivial (Weak.of (show 0 ≤ 1 by decide) ⟨⟨rfl, rfl⟩, ⟨⟨rfl, rfl⟩, ⟨⟨rfl, rfl⟩, trivial⟩⟩⟩ ⟨⟨rfl, (show 0 < 1 by decide), (by intro v_ hv_; simp at hv_; rcases hv_ with rfl | rfl <;> rfl)⟩, trivial⟩) ?_
    rintro (u | ⟨L, m, D⟩) hok
    · skip
      show VCode Try.prog 0 _ 1 (sl [(1, .ptr 0 (0)), (4, .b .nil), (5, vS (A))]) (en [(0, ⟨2, [vB (n), vS (A)], true⟩)]) _
      refine VCode.seq ?_
      refine VCode.seq ?_
      refine VCode.region ?_
      refine VList.go0 (n' := 2) rfl rfl (.move _ _ rfl) rfl ?_
      refine VList.go0 (n' := 3) rfl rfl (Eff.lenS rfl Try.underlying22) rfl ?_
      refine VList.go0 (n' := 4) rfl rfl (.bin _ _ _ _ _ _ _ _ rfl rfl rfl) rfl ?_
      refine VList.nil (Then.go ?_)
      refine VCode.cond _ rfl (fun hc2 => ?_) (fun hc2 => ?_)
      · replace hc2 := of_decide_eq_true hc2
        have lP : 0 < val A := norm_pos nA (fun e => by rw [e] at hc2; simp at hc2)
        have q0 : 0 ≤ val A / 1000000000 := by omega
        have lQ : (dg (val A / 1000000000)).length ≤ 128 := Nat.le_trans (len_le nA.1 q0 (by omega)) lA
        have hT0 : TxIn (val A) (val (dg (val A / 1000000000))) (val A % 1000000000) 0 [] := by rw [val_dg q0]; exact TxIn.start rfl lP
        refine VCode.skip (Then.go ?_)
        refine VCode.block ?_
        refine VCode.seq ?_
        refine VCode.region ?_
        refine VList.go0 (n' := 5) rfl rfl (.move _ _ rfl) rfl ?_
        refine VList.go0 (n' := 6) rfl rfl (Eff.callV0 rfl (ress_cons rfl (ress_cons rfl ress_nil)) (f60 _ _ (by first | omega | (simp; done) | (simp; omega)) (by first | exact nL.1 | exact nA.1) (by first | omega | (simp; done) | (simp; omega)) (by first | omega | (simp; done) | (simp; omega))) rfl) rfl ?_
        refine VList.go0 (n' := 7) rfl rfl (.move _ _ rfl) rfl ?_
        refine VList.go0 (n' := 8) rfl rfl (.extract _ _ _ _ rfl rfl) rfl ?_
        refine VList.go0 (n' := 9) rfl rfl (.extract _ _ _ _ rfl rfl) rfl ?_
        refine VList.go0 (n' := 10) rfl rfl (.assign _ _ rfl) rfl ?_
        refine VList.go0 (n' := 11) rfl rfl (.assign _ _ rfl) rfl ?_
        refine VList.nil (Then.go ?_)
        refine VCode.seq ?_
        refine VCode.seq ?_
        refine VCode.region ?_
        refine VList.go0 (n' := 12) rfl rfl (.move _ _ rfl) rfl ?_
        refine VList.nil (Then.go ?_)
        refine VCode.block ?_
        refine VCode.loop (α := ((Unit)) ⊕ ((Nat) × (Int) × (Nat) × (List Int))) (fun x_ => match x_ with | .inl (u2) => (1, sl [(1, .ptr 0 (0)), (4, .b .nil), (6, vS (dg (val (A) / (1000000000)))), (7, vI .u32 ((val A % 1000000000))), (24, vI .i64 (0))], en [(0, ⟨2, [vB (n), vS (A)], true⟩)]) | .inr (k, r, m2, D2) => (92, sl [(1, .ptr 0 (0)), (4, .own 91 (m2)), (6, vS (dg (val (A) / (1000000000)))), (7, vI .u32 (r)), (24, vI .i64 ((k : Int)))], en [(0, ⟨2, [vB (n), vS (A)], true⟩), (91, rowK .u8 (D2))])) (fun x_ => match x_ with | .inl (u2) => True | .inr (k, r, m2, D2) => TxIn (val A) (val (dg (val A / 1000000000))) r k D2 ∧ D2.length = m2) (fun x_ => match x_ with | .inl (u2) => 10 | .inr (k, r, m2, D2) => 9 - k) (.inl (())) trivial (Weak.of (show 0 ≤ 1 by decide) ⟨⟨rfl, rfl⟩, ⟨⟨rfl, rfl⟩, ⟨⟨rfl, rfl⟩, ⟨⟨rfl, rfl⟩, ⟨⟨rfl, rfl⟩, trivial⟩⟩⟩⟩⟩ ⟨⟨rfl, (show 0 < 1 by decide), (by intro v_ hv_; simp at hv_; rcases hv_ with rfl | rfl <;> rfl)⟩, trivial⟩) ?_
        rintro (u2 | ⟨k, r, m2, D2⟩) hok2
        · skip
          show VCode Try.prog 0 _ 1 (sl [(1, .ptr 0 (0)), (4, .b .nil), (6, vS (dg (val (A) / (1000000000)))), (7, vI .u32 ((val A % 1000000000))), (24, vI .i64 (0))]) (en [(0, ⟨2, [vB (n), vS (A)], true⟩)]) _
          refine VCode.seq ?_
          refine VCode.region ?_
          refine VList.go0 (n' := 2) rfl rfl (.bin _ _ _ _ _ _ _ _ rfl rfl rfl) rfl ?_
          refine VList.nil (Then.go ?_)
          refine VCode.seq ?_
          refine VCode.cond _ rfl (fun hc3 => ?_) (fun hc3 => ?_)
          · replace hc3 := of_decide_eq_true hc3
            refine VCode.skip (Then.go ?_)
            refine VCode.seq ?_
            refine VCode.block ?_
            refine VCode.seq ?_
            refine VCode.region ?_
            refine VList.go0 (n' := 3) rfl rfl (.move _ _ rfl) rfl ?_
            refine VList.go0 (n' := 4) rfl rfl (.assign _ _ rfl) rfl ?_
            refine VList.nil (Then.go ?_)
            refine VCode.seq ?_
            refine VCode.seq ?_
            refine VCode.region ?_
            refine VList.go0 (n' := 5) rfl rfl (.move _ _ rfl) rfl ?_
            refine VList.go0 (n' := 6) rfl rfl (Eff.lenS rfl Try.underlying22) rfl ?_
            refine VList.go0 (n' := 7) rfl rfl (.bin _ _ _ _ _ _ _ _ rfl rfl rfl) rfl ?_
            refine VList.go0 (n' := 8) rfl rfl (.move _ _ rfl) rfl ?_
            refine VList.split (d := 30) _ rfl (fun hc4 => ?_) (fun hc4 => ?_)
            · replace hc4 := eq_of_beq hc4
              refine VList.go0 (n' := 9) rfl rfl (.move _ _ rfl) rfl ?_
              refine VList.go0 (n' := 10) rfl rfl (.bin _ _ _ _ _ _ _ _ rfl rfl rfl) rfl ?_
              refine VList.go0 (n' := 11) rfl rfl (.pick _ _ _ _ _ rfl rfl) rfl ?_
              refine VList.go0 (n' := 12) rfl rfl (.move _ _ rfl) rfl ?_
              refine VList.split (d := 34) _ rfl (fun hc5 => ?_) (fun hc5 => ?_)
              · replace hc5 := eq_of_beq hc5
                refine VList.go0 (n' := 13) rfl rfl (.move _ _ rfl) rfl ?_
                refine VList.go0 (n' := 14) rfl rfl (.bin _ _ _ _ _ _ _ _ rfl rfl rfl) rfl ?_
                refine VList.go0 (n' := 15) rfl rfl (.pick _ _ _ _ _ rfl rfl) rfl ?_
                refine VList.nil (Then.go ?_)
                refine VCode.cond _ rfl (fun hc6 => ?_) (fun hc6 => ?_)
                · replace hc6 := of_decide_eq_true hc6
                  exfalso; omega
                · replace hc6 := of_decide_eq_false hc6
                  refine VCode.skip (Then.go ?_)
                  refine VCode.seq ?_
                  refine VCode.region ?_
                  refine VList.go0 (n' := 16) rfl rfl (.move _ _ rfl) rfl ?_
                  refine VList.go0 (n' := 17) rfl rfl (.move _ _ rfl) rfl ?_
                  refine VList.go0 (n' := 18) rfl rfl (.bin _ _ _ _ _ _ _ _ rfl rfl (bop_rem_u32 (by first | omega | (simp; done) | (simp; omega)) (by first | omega | (simp; done) | (simp; omega)))) rfl ?_
                  refine VList.go0 (n' := 19) rfl rfl (.bin _ _ _ _ _ _ _ _ rfl rfl (bop_add_u32 (by first | omega | (simp; done) | (simp; omega)))) rfl ?_
                  refine VList.go0 (n' := 20) rfl rfl (Eff.convN_u8 rfl Try.underlying51 Try.underlying5 (by first | omega | (simp; done) | (simp; omega))) rfl ?_
                  refine VList.go1 (n' := 21) rfl rfl (Eff.litsK1 rfl Try.underlying53 P_zero5 P_sz5) rfl ?_
                  refine VList.go1 (n' := 22) rfl rfl (Eff.appendNilK rfl rfl (res_rowK rfl (by first | omega | (simp; done) | (simp; omega))) (by first | omega | (simp; done) | (simp; omega)) Try.underlying53 P_sz5 P_bytes5 P_zero5 (by first | (simp [maxLen]; done) | (simp [maxLen]; omega))) rfl ?_
                  refine VList.go0 (n' := 23) rfl rfl (.assign _ _ rfl) rfl ?_
                  refine VList.nil (Then.go ?_)
                  refine VCode.region ?_
                  refine VList.go0 (n' := 24) rfl rfl (.move _ _ rfl) rfl ?_
                  refine VList.go0 (n' := 25) rfl rfl (.bin _ _ _ _ _ _ _ _ rfl rfl (bop_quo_u32 (by first | omega | (simp; done) | (simp; omega)) (by first | omega | (simp; done) | (simp; omega)) (by first | omega | (simp; done) | (simp; omega)))) rfl ?_
                  refine VList.go0 (n' := 26) rfl rfl (.assign _ _ rfl) rfl ?_
                  refine VList.nil (InBlock.go (Then.go ?_))
                  refine VCode.region ?_
                  refine VList.go0 (n' := 27) rfl rfl (.bin _ _ _ _ _ _ _ _ rfl rfl (bop_add_i64 (by first | omega | (simp; done) | (simp; omega)))) rfl ?_
                  refine VList.go0 (n' := 28) rfl rfl (.move _ _ rfl) rfl ?_
                  exact VList.nil (Round.go (.inr (1, (val A % 1000000000) / 10, ([(48 + ((val A % 1000000000) % 10))]).length, [(48 + ((val A % 1000000000) % 10))])) ⟨hT0.step (by omega) (.inl rfl), rfl⟩ (by first | (dsimp only; omega) | omega) (Weak.ofR (fun i_ => match i_ with | 91 => 21 | i_ => i_) (show 0 ≤ 92 by decide) rfl rfl ⟨⟨rfl, rfl⟩, ⟨⟨rfl, rfl⟩, ⟨⟨rfl, rfl⟩, ⟨⟨rfl, rfl⟩, ⟨⟨rfl, rfl⟩, trivial⟩⟩⟩⟩⟩ ⟨⟨rfl, (show 0 < 92 by decide), (by intro v_ hv_; simp at hv_; rcases hv_ with rfl | rfl <;> rfl)⟩, ⟨⟨(by rw [rowK_ren]; rfl), (show 91 < 92 by decide), row_cellsK⟩, trivial⟩⟩))
              · replace hc5 := ne_of_beq_false hc5
                refine VList.skip (n' := 13) rfl rfl rfl ?_
                refine VList.skip (n' := 14) rfl rfl rfl ?_
                refine VList.go0 (n' := 15) rfl rfl (.pick _ _ _ _ _ rfl rfl) rfl ?_
                refine VList.nil (Then.go ?_)
                refine VCode.cond _ rfl (fun h_ => Bool.noConfusion h_) (fun _ => ?_)
                refine VCode.skip (Then.go ?_)
                refine VCode.seq ?_
                refine VCode.region ?_
                refine VList.go0 (n' := 16) rfl rfl (.move _ _ rfl) rfl ?_
                refine VList.go0 (n' := 17) rfl rfl (.move _ _ rfl) rfl ?_
                refine VList.go0 (n' := 18) rfl rfl (.bin _ _ _ _ _ _ _ _ rfl rfl (bop_rem_u32 (by first | omega | (simp; done) | (simp; omega)) (by first | omega | (simp; done) | (simp; omega)))) rfl ?_
                refine VList.go0 (n' := 19) rfl rfl (.bin _ _ _ _ _ _ _ _ rfl rfl (bop_add_u32 (by first | omega | (simp; done) | (simp; omega)))) rfl ?_
                refine VList.go0 (n' := 20) rfl rfl (Eff.convN_u8 rfl Try.underlying51 Try.underlying5 (by first | omega | (simp; done) | (simp; omega))) rfl ?_
                refine VList.go1 (n' := 21) rfl rfl (Eff.litsK1 rfl Try.underlying53 P_zero5 P_sz5) rfl ?_
                refine VList.go1 (n' := 22) rfl rfl (Eff.appendNilK rfl rfl (res_rowK rfl (by first | omega | (simp; done) | (simp; omega))) (by first | omega | (simp; done) | (simp; omega)) Try.underlying53 P_sz5 P_bytes5 P_zero5 (by first | (simp [maxLen]; done) | (simp [maxLen]; omega))) rfl ?_
                refine VList.go0 (n' := 23) rfl rfl (.assign _ _ rfl) rfl ?_
                refine VList.nil (Then.go ?_)
                refine VCode.region ?_
                refine VList.go0 (n' := 24) rfl rfl (.move _ _ rfl) rfl ?_
                refine VList.go0 (n' := 25) rfl rfl (.bin _ _ _ _ _ _ _ _ rfl rfl (bop_quo_u32 (by first | omega | (simp; done) | (simp; omega)) (by first | omega | (simp; done) | (simp; omega)) (by first | omega | (simp; done) | (simp; omega)))) rfl ?_
                refine VList.go0 (n' := 26) rfl rfl (.assign _ _ rfl) rfl ?_
                refine VList.nil (InBlock.go (Then.go ?_))
                refine VCode.region ?_
                refine VList.go0 (n' := 27) rfl rfl (.bin _ _ _ _ _ _ _ _ rfl rfl (bop_add_i64 (by first | omega | (simp; done) | (simp; omega)))) rfl ?_
                refine VList.go0 (n' := 28) rfl rfl (.move _ _ rfl) rfl ?_
                exact VList.nil (Round.go (.inr (1, (val A % 1000000000) / 10, ([(48 + ((val A % 1000000000) % 10))]).length, [(48 + ((val A % 1000000000) % 10))])) ⟨hT0.step (by omega) (.inl rfl), rfl⟩ (by first | (dsimp only; omega) | omega) (Weak.ofR (fun i_ => match i_ with | 91 => 21 | i_ => i_) (show 0 ≤ 92 by decide) rfl rfl ⟨⟨rfl, rfl⟩, ⟨⟨rfl, rfl⟩, ⟨⟨rfl, rfl⟩, ⟨⟨rfl, rfl⟩, ⟨⟨rfl, rfl⟩, trivial⟩⟩⟩⟩⟩ ⟨⟨rfl, (show 0 < 92 by decide), (by intro v_ hv_; simp at hv_; rcases hv_ with rfl | rfl <;> rfl)⟩, ⟨⟨(by rw [rowK_ren]; rfl), (show 91 < 92 by decide), row_cellsK⟩, trivial⟩⟩))
            · replace hc4 := ne_of_beq_false hc4
              refine VList.skip (n' := 9) rfl rfl rfl ?_
              refine VList.skip (n' := 10) rfl rfl rfl ?_
              refine VList.go0 (n' := 11) rfl rfl (.pick _ _ _ _ _ rfl rfl) rfl ?_
              refine VList.go0 (n' := 12) rfl rfl (.move _ _ rfl) rfl ?_
              refine VList.skip (n' := 13) rfl rfl rfl ?_
              refine VList.skip (n' := 14) rfl rfl rfl ?_
              refine VList.go0 (n' := 15) rfl rfl (.pick _ _ _ _ _ rfl rfl) rfl ?_
              refine VList.nil (Then.go ?_)
              refine VCode.cond _ rfl (fun h_ => Bool.noConfusion h_) (fun _ => ?_)
              refine VCode.skip (Then.go ?_)
              refine VCode.seq ?_
              refine VCode.region ?_
              refine VList.go0 (n' := 16) rfl rfl (.move _ _ rfl) rfl ?_
              refine VList.go0 (n' := 17) rfl rfl (.move _ _ rfl) rfl ?_
              refine VList.go0 (n' := 18) rfl rfl (.bin _ _ _ _ _ _ _ _ rfl rfl (bop_rem_u32 (by first | omega | (simp; done) | (simp; omega)) (by first | omega | (simp; done) | (simp; omega)))) rfl ?_
              refine VList.go0 (n' := 19) rfl rfl (.bin _ _ _ _ _ _ _ _ rfl rfl (bop_add_u32 (by first | omega | (simp; done) | (simp; omega)))) rfl ?_
              refine VList.go0 (n' := 20) rfl rfl (Eff.convN_u8 rfl Try.underlying51 Try.underlying5 (by first | omega | (simp; done) | (simp; omega))) rfl ?_
              refine VList.go1 (n' := 21) rfl rfl (Eff.litsK1 rfl Try.underlying53 P_zero5 P_sz5) rfl ?_
              refine VList.go1 (n' := 22) rfl rfl (Eff.appendNilK rfl rfl (res_rowK rfl (by first | omega | (simp; done) | (simp; omega))) (by first | omega | (simp; done) | (simp; omega)) Try.underlying53 P_sz5 P_bytes5 P_zero5 (by first | (simp [maxLen]; done) | (simp [maxLen]; omega))) rfl ?_
              refine VList.go0 (n' := 23) rfl rfl (.assign _ _ rfl) rfl ?_
              refine VList.nil (Then.go ?_)
              refine VCode.region ?_
              refine VList.go0 (n' := 24) rfl rfl (.move _ _ rfl) rfl ?_
              refine VList.go0 (n' := 25) rfl rfl (.bin _ _ _ _ _ _ _ _ rfl rfl (bop_quo_u32 (by first | omega | (simp; done) | (simp; omega)) (by first | omega | (simp; done) | (simp; omega)) (by first | omega | (simp; done) | (simp; omega)))) rfl ?_
              refine VList.go0 (n' := 26) rfl rfl (.assign _ _ rfl) rfl ?_
              refine VList.nil (InBlock.go (Then.go ?_))
              refine VCode.region ?_
              refine VList.go0 (n' := 27) rfl rfl (.bin _ _ _ _ _ _ _ _ rfl rfl (bop_add_i64 (by first | omega | (simp; done) | (simp; omega)))) rfl ?_
              refine VList.go0 (n' := 28) rfl rfl (.move _ _ rfl) rfl ?_
              exact VList.nil (Round.go (.inr (1, (val A % 1000000000) / 10, ([(48 + ((val A % 1000000000) % 10))]).length, [(48 + ((val A % 1000000000) % 10))])) ⟨hT0.step (by omega) (.inl rfl), rfl⟩ (by first | (dsimp only; omega) | omega) (Weak.ofR (fun i_ => match i_ with | 91 => 21 | i_ => i_) (show 0 ≤ 92 by decide) rfl rfl ⟨⟨rfl, rfl⟩, ⟨⟨rfl, rfl⟩, ⟨⟨rfl, rfl⟩, ⟨⟨rfl, rfl⟩, ⟨⟨rfl, rfl⟩, trivial⟩⟩⟩⟩⟩ ⟨⟨rfl, (show 0 < 92 by decide), (by intro v_ hv_; simp at hv_; rcases hv_ with rfl | rfl <;> rfl)⟩, ⟨⟨(by rw [rowK_ren]; rfl), (show 91 < 92 by decide), row_cellsK⟩, trivial⟩⟩))
          · replace hc3 := of_decide_eq_false hc3
            exfalso; omega
        · skip
          obtain ⟨hT, hm2⟩ := hok2
          have hk9 := hT.k9
          have hr0 := hT.r0
          have hr9 := hT.r9
          have hD2 := Nat.le_trans hT.len tlen
          show VCode Try.prog 0 _ 92 (sl [(1, .ptr 0 (0)), (4, .own 91 (m2)), (6, vS (dg (val (A) / (1000000000)))), (7, vI .u32 (r)), (24, vI .i64 ((k : Int)))]) (en [(0, ⟨2, [vB (n), vS (A)], true⟩), (91, rowK .u8 (D2))]) _
          refine VCode.seq ?_
          refine VCode.region ?_
          refine VList.go0 (n' := 93) rfl rfl (.bin _ _ _ _ _ _ _ _ rfl rfl rfl) rfl ?_
          refine VList.nil (Then.go ?_)
          refine VCode.seq ?_
          refine VCode.cond _ rfl (fun hc7 => ?_) (fun hc7 => ?_)
          · replace hc7 := of_decide_eq_true hc7
            refine VCode.skip (Then.go ?_)
            refine VCode.seq ?_
            refine VCode.block ?_
            refine VCode.seq ?_
            refine VCode.region ?_
            refine VList.go0 (n' := 94) rfl rfl (.move _ _ rfl) rfl ?_
            refine VList.go0 (n' := 95) rfl rfl (.assign _ _ rfl) rfl ?_
            refine VList.nil (Then.go ?_)
            refine VCode.seq ?_
            refine VCode.seq ?_
            refine VCode.region ?_
            refine VList.go0 (n' := 96) rfl rfl (.move _ _ rfl) rfl ?_
            refine VList.go0 (n' := 97) rfl rfl (Eff.lenS rfl Try.underlying22) rfl ?_
            refine VList.go0 (n' := 98) rfl rfl (.bin _ _ _ _ _ _ _ _ rfl rfl rfl) rfl ?_
            refine VList.go0 (n' := 99) rfl rfl (.move _ _ rfl) rfl ?_
            refine VList.split (d := 30) _ rfl (fun hc8 => ?_) (fun hc8 => ?_)
            · replace hc8 := eq_of_beq hc8
              refine VList.go0 (n' := 100) rfl rfl (.move _ _ rfl) rfl ?_
              refine VList.go0 (n' := 101) rfl rfl (.bin _ _ _ _ _ _ _ _ rfl rfl rfl) rfl ?_
              refine VList.go0 (n' := 102) rfl rfl (.pick _ _ _ _ _ rfl rfl) rfl ?_
              refine VList.go0 (n' := 103) rfl rfl (.move _ _ rfl) rfl ?_
              refine VList.split (d := 34) _ rfl (fun hc9 => ?_) (fun hc9 => ?_)
              · replace hc9 := eq_of_beq hc9
                refine VList.go0 (n' := 104) rfl rfl (.move _ _ rfl) rfl ?_
                refine VList.go0 (n' := 105) rfl rfl (.bin _ _ _ _ _ _ _ _ rfl rfl rfl) rfl ?_
                refine VList.go0 (n' := 106) rfl rfl (.pick _ _ _ _ _ rfl rfl) rfl ?_
                refine VList.nil (Then.go ?_)
                refine VCode.cond _ rfl (fun hc10 => ?_) (fun hc10 => ?_)
                · replace hc10 := of_decide_eq_true hc10
                  refine VCode.exit (Then.exit (InBlock.out (by decide) (Then.exit (Round.exit (InBlock.here (Then.go ?_))))))
                  refine VCode.region ?_
                  refine VList.go0 (n' := 107) rfl rfl (.move _ _ rfl) rfl ?_
                  refine VList.go0 (n' := 108) rfl rfl (.assign _ _ rfl) rfl ?_
                  exact VList.nil (InBlock.go (Round.go (.inr (dg (val (A) / (1000000000)), m2, D2)) ⟨⟨norm_dg _, lQ⟩, hm2, hT.done (dgz (by omega)) (by omega)⟩ (by show (val (dg _)).toNat < (val A).toNat + 1; rw [val_dg q0]; omega) (Weak.ofR (fun i_ => match i_ with | 90 => 91 | i_ => i_) (show 0 ≤ 91 by decide) rfl rfl ⟨⟨rfl, rfl⟩, ⟨⟨rfl, rfl⟩, ⟨⟨rfl, rfl⟩, trivial⟩⟩⟩ ⟨⟨rfl, (show 0 < 91 by decide), (by intro v_ hv_; simp at hv_; rcases hv_ with rfl | rfl <;> rfl)⟩, ⟨⟨(by rw [rowK_ren]; rfl), (show 90 < 91 by decide), row_cellsK⟩, trivial⟩⟩)))
                · replace hc10 := of_decide_eq_false hc10
                  refine VCode.skip (Then.go ?_)
                  refine VCode.seq ?_
                  refine VCode.region ?_
                  refine VList.go0 (n' := 107) rfl rfl (.move _ _ rfl) rfl ?_
                  refine VList.go0 (n' := 108) rfl rfl (.move _ _ rfl) rfl ?_
                  refine VList.go0 (n' := 109) rfl rfl (.bin _ _ _ _ _ _ _ _ rfl rfl (bop_rem_u32 (by first | omega | (simp; done) | (simp; omega)) (by first | omega | (simp; done) | (simp; omega)))) rfl ?_
                  refine VList.go0 (n' := 110) rfl rfl (.bin _ _ _ _ _ _ _ _ rfl rfl (bop_add_u32 (by first | omega | (simp; done) | (simp; omega)))) rfl ?_
                  refine VList.go0 (n' := 111) rfl rfl (Eff.convN_u8 rfl Try.underlying51 Try.underlying5 (by first | omega | (simp; done) | (simp; omega))) rfl ?_
                  refine VList.go1 (n' := 112) rfl rfl (Eff.litsK1 rfl Try.underlying53 P_zero5 P_sz5) rfl ?_
                  refine VList.goN (n' := 113) rfl rfl (Eff.appendK rfl rfl (by first | omega | (simp; done) | (simp; omega)) rfl (res_rowK rfl (by first | omega | (simp; done) | (simp; omega))) (by decide) Try.underlying53 P_sz5 P_bytes5 P_zero5 (by first | (simp [maxLen]; done) | (simp [maxLen]; omega))) rfl ?_
                  refine VList.go0 (n' := 114) rfl rfl (.assign _ _ rfl) rfl ?_
                  refine VList.nil (Then.go ?_)
                  refine VCode.region ?_
                  refine VList.go0 (n' := 115) rfl rfl (.move _ _ rfl) rfl ?_
                  refine VList.go0 (n' := 116) rfl rfl (.bin _ _ _ _ _ _ _ _ rfl rfl (bop_quo_u32 (by first | omega | (simp; done) | (simp; omega)) (by first | omega | (simp; done) | (simp; omega)) (by first | omega | (simp; done) | (simp; omega)))) rfl ?_
                  refine VList.go0 (n' := 117) rfl rfl (.assign _ _ rfl) rfl ?_
                  refine VList.nil (InBlock.go (Then.go ?_))
                  refine VCode.region ?_
                  refine VList.go0 (n' := 118) rfl rfl (.bin _ _ _ _ _ _ _ _ rfl rfl (bop_add_i64 (by first | omega | (simp; done) | (simp; omega)))) rfl ?_
                  refine VList.go0 (n' := 119) rfl rfl (.move _ _ rfl) rfl ?_
                  exact VList.nil (Round.go (.inr (k + 1, r / 10, (m2) + ([(48 + (r % 10))]).length, (D2) ++ ([(48 + (r % 10))]))) ⟨hT.step (by omega) (by first | (left; omega) | (right; rintro ⟨a1, a2⟩; first | omega | exact absurd (dgl a1) (by omega))), by simp [hm2]⟩ (by first | (dsimp only; omega) | omega) (Weak.ofR (fun i_ => match i_ with | 91 => 112 | i_ => i_) (show 0 ≤ 92 by decide) rfl rfl ⟨⟨rfl, rfl⟩, ⟨⟨rfl, rfl⟩, ⟨⟨rfl, rfl⟩, ⟨⟨rfl, rfl⟩, ⟨⟨rfl, rfl⟩, trivial⟩⟩⟩⟩⟩ ⟨⟨rfl, (show 0 < 92 by decide), (by intro v_ hv_; simp at hv_; rcases hv_ with rfl | rfl <;> rfl)⟩, ⟨⟨(by rw [rowK_ren]; rfl), (show 91 < 92 by decide), row_cellsK⟩, trivial⟩⟩))
              · replace hc9 := ne_of_beq_false hc9
                refine VList.skip (n' := 104) rfl rfl rfl ?_
                refine VList.skip (n' := 105) rfl rfl rfl ?_
                refine VList.go0 (n' := 106) rfl rfl (.pick _ _ _ _ _ rfl rfl) rfl ?_
                refine VList.nil (Then.go ?_)
                refine VCode.cond _ rfl (fun h_ => Bool.noConfusion h_) (fun _ => ?_)
                refine VCode.skip (Then.go ?_)
                refine VCode.seq ?_
                refine VCode.region ?_
                refine VList.go0 (n' := 107) rfl rfl (.move _ _ rfl) rfl ?_
                refine VList.go0 (n' := 108) rfl rfl (.move _ _ rfl) rfl ?_
                refine VList.go0 (n' := 109) rfl rfl (.bin _ _ _ _ _ _ _ _ rfl rfl (bop_rem_u32 (by first | omega | (simp; done) | (simp; omega)) (by first | omega | (simp; done) | (simp; omega)))) rfl ?_
                refine VList.go0 (n' := 110) rfl rfl (.bin _ _ _ _ _ _ _ _ rfl rfl (bop_add_u32 (by first | omega | (simp; done) | (simp; omega)))) rfl ?_
                refine VList.go0 (n' := 111) rfl rfl (Eff.convN_u8 rfl Try.underlying51 Try.underlying5 (by first | omega | (simp; done) | (simp; omega))) rfl ?_
                refine VList.go1 (n' := 112) rfl rfl (Eff.litsK1 rfl Try.underlying53 P_zero5 P_sz5) rfl ?_
                refine VList.goN (n' := 113) rfl rfl (Eff.appendK rfl rfl (by first | omega | (simp; done) | (simp; omega)) rfl (res_rowK rfl (by first | omega | (simp; done) | (simp; omega))) (by decide) Try.underlying53 P_sz5 P_bytes5 P_zero5 (by first | (simp [maxLen]; done) | (simp [maxLen]; omega))) rfl ?_
                refine VList.go0 (n' := 114) rfl rfl (.assign _ _ rfl) rfl ?_
                refine VList.nil (Then.go ?_)
                refine VCode.region ?_
                refine VList.go0 (n' := 115) rfl rfl (.move _ _ rfl) rfl ?_
                refine VList.go0 (n' := 116) rfl rfl (.bin _ _ _ _ _ _ _ _ rfl rfl (bop_quo_u32 (by first | omega | (simp; done) | (simp; omega)) (by first | omega | (simp; done) | (simp; omega)) (by first | omega | (simp; done) | (simp; omega)))) rfl ?_
                refine VList.go0 (n' := 117) rfl rfl (.assign _ _ rfl) rfl ?_
                refine VList.nil (InBlock.go (Then.go ?_))
                refine VCode.region ?_
                refine VList.go0 (n' := 118) rfl rfl (.bin _ _ _ _ _ _ _ _ rfl rfl (bop_add_i64 (by first | omega | (simp; done) | (simp; omega)))) rfl ?_
                refine VList.go0 (n' := 119) rfl rfl (.move _ _ rfl) rfl ?_
                exact VList.nil (Round.go (.inr (k + 1, r / 10, (m2) + ([(48 + (r % 10))]).length, (D2) ++ ([(48 + (r % 10))]))) ⟨hT.step (by omega) (by first | (left; omega) | (right; rintro ⟨a1, a2⟩; first | omega | exact absurd (dgl a1) (by omega))), by simp [hm2]⟩ (by first | (dsimp only; omega) | omega) (Weak.ofR (fun i_ => match i_ with | 91 => 112 | i_ => i_) (show 0 ≤ 92 by decide) rfl rfl ⟨⟨rfl, rfl⟩, ⟨⟨rfl, rfl⟩, ⟨⟨rfl, rfl⟩, ⟨⟨rfl, rfl⟩, ⟨⟨rfl, rfl⟩, trivial⟩⟩⟩⟩⟩ ⟨⟨rfl, (show 0 < 92 by decide), (by intro v_ hv_; simp at hv_; rcases hv_ with rfl | rfl <;> rfl)⟩, ⟨⟨(by rw [rowK_ren]; rfl), (show 91 < 92 by decide), row_cellsK⟩, trivial⟩⟩))
            · replace hc8 := ne_of_beq_false hc8
              refine VList.skip (n' := 100) rfl rfl rfl ?_
              refine VList.skip (n' := 101) rfl rfl rfl ?_
              refine VList.go0 (n' := 102) rfl rfl (.pick _ _ _ _ _ rfl rfl) rfl ?_
              refine VList.go0 (n' := 103) rfl rfl (.move _ _ rfl) rfl ?_
              refine VList.skip (n' := 104) rfl rfl rfl ?_
              refine VList.skip (n' := 105) rfl rfl rfl ?_
              refine VList.go0 (n' := 106) rfl rfl (.pick _ _ _ _ _ rfl rfl) rfl ?_
              refine VList.nil (Then.go ?_)
              refine VCode.cond _ rfl (fun h_ => Bool.noConfusion h_) (fun _ => ?_)
              refine VCode.skip (Then.go ?_)
              refine VCode.seq ?_
              refine VCode.region ?_
              refine VList.go0 (n' := 107) rfl rfl (.move _ _ rfl) rfl ?_
              refine VList.go0 (n' := 108) rfl rfl (.move _ _ rfl) rfl ?_
              refine VList.go0 (n' := 109) rfl rfl (.bin _ _ _ _ _ _ _ _ rfl rfl (bop_rem_u32 (by first | omega | (simp; done) | (simp; omega)) (by first | omega | (simp; done) | (simp; omega)))) rfl ?_
              refine VList.go0 (n' := 110) rfl rfl (.bin _ _ _ _ _ _ _ _ rfl rfl (bop_add_u32 (by first | omega | (simp; done) | (simp; omega)))) rfl ?_
              refine VList.go0 (n' := 111) rfl rfl (Eff.convN_u8 rfl Try.underlying51 Try.underlying5 (by first | omega | (simp; done) | (simp; omega))) rfl ?_
              refine VList.go1 (n' := 112) rfl rfl (Eff.litsK1 rfl Try.underlying53 P_zero5 P_sz5) rfl ?_
              refine VList.goN (n' := 113) rfl rfl (Eff.appendK rfl rfl (by first | omega | (simp; done) | (simp; omega)) rfl (res_rowK rfl (by first | omega | (simp; done) | (simp; omega))) (by decide) Try.underlying53 P_sz5 P_bytes5 P_zero5 (by first | (simp [maxLen]; done) | (simp [maxLen]; omega))) rfl ?_
              refine VList.go0 (n' := 114) rfl rfl (.assign _ _ rfl) rfl ?_
              refine VList.nil (Then.go ?_)
              refine VCode.region ?_
              refine VList.go0 (n' := 115) rfl rfl (.move _ _ rfl) rfl ?_
              refine VList.go0 (n' := 116) rfl rfl (.bin _ _ _ _ _ _ _ _ rfl rfl (bop_quo_u32 (by first | omega | (simp; done) | (simp; omega)) (by first | omega | (simp; done) | (simp; omega)) (by first | omega | (simp; done) | (simp; omega)))) rfl ?_
              refine VList.go0 (n' := 117) rfl rfl (.assign _ _ rfl) rfl ?_
              refine VList.nil (InBlock.go (Then.go ?_))
              refine VCode.region ?_
              refine VList.go0 (n' := 118) rfl rfl (.bin _ _ _ _ _ _ _ _ rfl rfl (bop_add_i64 (by first | omega | (simp; done) | (simp; omega)))) rfl ?_
              refine VList.go0 (n' := 119) rfl rfl (.move _ _ rfl) rfl ?_
              exact VList.nil (Round.go (.inr (k + 1, r / 10, (m2) + ([(48 + (r % 10))]).length, (D2) ++ ([(48 + (r % 10))]))) ⟨hT.step (by omega) (by first | (left; omega) | (right; rintro ⟨a1, a2⟩; first | omega | exact absurd (dgl a1) (by omega))), by simp [hm2]⟩ (by first | (dsimp only; omega) | omega) (Weak.ofR (fun i_ => match i_ with | 91 => 112 | i_ => i_) (show 0 ≤ 92 by decide) rfl rfl ⟨⟨rfl, rfl⟩, ⟨⟨rfl, rfl⟩, ⟨⟨rfl, rfl⟩, ⟨⟨rfl, rfl⟩, ⟨⟨rfl, rfl⟩, trivial⟩⟩⟩⟩⟩ ⟨⟨rfl, (show 0 < 92 by decide), (by intro v_ hv_; simp at hv_; rcases hv_ with rfl | rfl <;> rfl)⟩, ⟨⟨(by rw [rowK_ren]; rfl), (show 91 < 92 by decide), row_cellsK⟩, trivial⟩⟩))
          · replace hc7 := of_decide_eq_false hc7
            refine VCode.exit (Then.exit (Round.exit (InBlock.here (Then.go ?_))))
            refine VCode.region ?_
            refine VList.go0 (n' := 94) rfl rfl (.move _ _ rfl) rfl ?_
            refine VList.go0 (n' := 95) rfl rfl (.assign _ _ rfl) rfl ?_
            exact VList.nil (InBlock.go (Round.go (.inr (dg (val (A) / (1000000000)), m2, D2)) ⟨⟨norm_dg _, lQ⟩, hm2, hT.full (by omega)⟩ (by show (val (dg _)).toNat < (val A).toNat + 1; rw [val_dg q0]; omega) (Weak.ofR (fun i_ => match i_ with | 90 => 91 | i_ => i_) (show 0 ≤ 91 by decide) rfl rfl ⟨⟨rfl, rfl⟩, ⟨⟨rfl, rfl⟩, ⟨⟨rfl, rfl⟩, trivial⟩⟩⟩ ⟨⟨rfl, (show 0 < 91 by decide), (by intro v_ hv_; simp at hv_; rcases hv_ with rfl | rfl <;> rfl)⟩, ⟨⟨(by rw [rowK_ren]; rfl), (show 90 < 91 by decide), row_cellsK⟩, trivial⟩⟩)))
      · replace hc2 := of_decide_eq_false hc2
        refine VCode.exit (Then.exit (Round.exit (InBlock.here (Then.go ?_))))
        refine VCode.join (α := (Nat) × (List Int)) (fun (x_ : (Nat) × (List Int)) => match x_ with | (m, D) => (91, sl [(1, .ptr 0 (0)), (4, .own 90 (m))], en [(0, ⟨2, [vB (n), vS (A)], true⟩), (90, rowK .u8 (D))])) (fun (x_ : (Nat) × (List Int)) => match x_ with | (m, D) => D.length = m ∧ D = txD (val A)) ?_ ?_
        · skip
          refine VCode.seq ?_
          refine VCode.region ?_
          refine VList.go0 (n' := 5) rfl rfl (.move _ _ rfl) rfl ?_
          refine VList.go0 (n' := 6) rfl rfl (.len _ _ _ _ _ rfl Try.underlying53 rfl) rfl ?_
          refine VList.go0 (n' := 7) rfl rfl (.bin _ _ _ _ _ _ _ _ rfl rfl rfl) rfl ?_
          refine VList.nil (Then.go ?_)
          refine VCode.cond _ rfl (fun hc11 => ?_) (fun hc11 => ?_)
          · replace hc11 := eq_of_beq hc11
            refine VCode.region ?_
            refine VList.go1 (n' := 8) rfl rfl (Eff.litsK1 rfl Try.underlying53 P_zero5 P_sz5) rfl ?_
            refine VList.go0 (n' := 9) rfl rfl (.assign _ _ rfl) rfl ?_
            exact VList.nil (Joins.go (1, [48]) ⟨rfl, txD_none vA (D := []) (by rw [norm_zero nA (by omega)]; exact dd_zero) rfl⟩ (Weak.ofR (fun i_ => match i_ with | 90 => 7 | i_ => i_) (show 0 ≤ 91 by decide) rfl rfl ⟨⟨rfl, rfl⟩, ⟨⟨rfl, rfl⟩, trivial⟩⟩ ⟨⟨rfl, (show 0 < 91 by decide), (by intro v_ hv_; simp at hv_; rcases hv_ with rfl | rfl <;> rfl)⟩, ⟨⟨(by rw [rowK_ren]; rfl), (show 90 < 91 by decide), row_cellsK⟩, trivial⟩⟩))
          · replace hc11 := ne_of_beq_false hc11
            exfalso; omega
        · rintro ⟨m, D⟩ hok
          obtain ⟨hm, hD⟩ := hok
          have hDl := txD_len oA lA (v := val A) rfl
          rw [← hD] at hDl
          show VCode Try.prog 0 _ 91 (sl [(1, .ptr 0 (0)), (4, .own 90 (m))]) (en [(0, ⟨2, [vB (n), vS (A)], true⟩), (90, rowK .u8 (D))]) _
          refine VCode.join (α := (Nat) × (List Int)) (fun (x_ : (Nat) × (List Int)) => match x_ with | (m, D) => (91, sl [(4, .own 90 (m))], en [(90, rowK .u8 (D))])) (fun (x_ : (Nat) × (List Int)) => match x_ with | (m, D) => (D.length = m ∧ m ≤ 10000) ∧ D = txD (val A) ++ (if n = true then [45] else [])) ?_ ?_
          · skip
            refine VCode.seq ?_
            refine VCode.region ?_
            refine VList.go0 (n' := 92) rfl rfl (.fieldAddr _ _ _ _ _ _ _ _ rfl P_fld24_0) rfl ?_
            refine VList.go0 (n' := 93) rfl rfl (.load1 _ _ _ _ _ _ rfl rfl P_agg4 rfl) rfl ?_
            refine VList.nil (Then.go ?_)
            refine VCode.cond _ rfl (fun hc12 => ?_) (fun hc12 => ?_)
            · (try simp at hc12)
              refine VCode.region ?_
              refine VList.go0 (n' := 94) rfl rfl (.move _ _ rfl) rfl ?_
              refine VList.go1 (n' := 95) rfl rfl (Eff.litsK1 rfl Try.underlying53 P_zero5 P_sz5) rfl ?_
              refine VList.goN (n' := 96) rfl rfl (Eff.appendK rfl rfl (by first | omega | (simp; done) | (simp; omega)) rfl (res_rowK rfl (by first | omega | (simp; done) | (simp; omega))) (by decide) Try.underlying53 P_sz5 P_bytes5 P_zero5 (by first | (simp [maxLen]; done) | (simp [maxLen]; omega))) rfl ?_
              refine VList.go0 (n' := 97) rfl rfl (.assign _ _ rfl) rfl ?_
              exact VList.nil (Joins.go ((m) + ([45]).length, (D) ++ ([45])) ⟨⟨by simp [hm], by simp; omega⟩, by rw [if_pos (by assumption), hD]⟩ (Weak.ofR (fun i_ => match i_ with | 90 => 95 | i_ => i_) (show 0 ≤ 91 by decide) rfl rfl ⟨⟨rfl, rfl⟩, trivial⟩ ⟨⟨(by rw [rowK_ren]; rfl), (show 90 < 91 by decide), row_cellsK⟩, trivial⟩))
            · (try simp at hc12)
              exact VCode.skip (Joins.go (m, D) ⟨⟨hm, by omega⟩, by rw [if_neg (by simp [*]), hD, List.append_nil]⟩ (Weak.of (show 0 ≤ 91 by decide) ⟨⟨rfl, rfl⟩, trivial⟩ ⟨⟨rfl, (show 90 < 91 by decide), row_cellsK⟩, trivial⟩))
          · rintro ⟨m, D⟩ hok
            obtain ⟨⟨hm, hm1⟩, hD⟩ := hok
            show VCode Try.prog 0 _ 91 (sl [(4, .own 90 (m))]) (en [(90, rowK .u8 (D))]) _
            refine VCode.seq ?_
            refine VCode.seq ?_
            refine VCode.region ?_
            refine VList.go0 (n' := 92) rfl rfl (.move _ _ rfl) rfl ?_
            refine VList.go0 (n' := 93) rfl rfl (Eff.lenO rfl Try.underlying53) rfl ?_
            refine VList.go0 (n' := 94) rfl rfl (.bin _ _ _ _ _ _ _ _ rfl rfl (bop_quo_i64 (by first | omega | (simp; done) | (simp; omega)) (by first | omega | (simp; done) | (simp; omega)) (by first | omega | (simp; done) | (simp; omega)))) rfl ?_
            refine VList.go0 (n' := 95) rfl rfl (.move _ _ rfl) rfl ?_
            refine VList.nil (Then.go ?_)
            refine VCode.block ?_
            refine VCode.loop (α := (Nat) × (List Int)) (fun (x_ : (Nat) × (List Int)) => match x_ with | (i, D3) => (91, sl [(4, .own 90 (m)), (60, vI .i64 ((((m : Nat) : Int) / 2))), (61, vI .i64 ((i : Int)))], en [(90, rowK .u8 (D3))])) (fun (x_ : (Nat) × (List Int)) => match x_ with | (i, D3) => RevInv D D3 i) (fun (x_ : (Nat) × (List Int)) => match x_ with | (i, D3) => D.length - i) (0, D) (RevInv.start _) (Weak.of (show 0 ≤ 91 by decide) ⟨⟨rfl, rfl⟩, ⟨⟨rfl, rfl⟩, ⟨⟨rfl, rfl⟩, trivial⟩⟩⟩ ⟨⟨rfl, (show 90 < 91 by decide), row_cellsK⟩, trivial⟩) ?_
            rintro ⟨i, D3⟩ hok3
            show VCode Try.prog 0 _ 91 (sl [(4, .own 90 (m)), (60, vI .i64 ((((m : Nat) : Int) / 2))), (61, vI .i64 ((i : Int)))]) (en [(90, rowK .u8 (D3))]) _
            refine VCode.seq ?_
            refine VCode.region ?_
            refine VList.go0 (n' := 92) rfl rfl (.bin _ _ _ _ _ _ _ _ rfl rfl rfl) rfl ?_
            refine VList.nil (Then.go ?_)
            refine VCode.seq ?_
            refine VCode.cond _ rfl (fun hc13 => ?_) (fun hc13 => ?_)
            · replace hc13 := of_decide_eq_true hc13
              refine VCode.skip (Then.go ?_)
              refine VCode.seq ?_
              refine VCode.block ?_
              refine VCode.seq ?_
              refine VCode.region ?_
              refine VList.go0 (n' := 93) rfl rfl (.move _ _ rfl) rfl ?_
              refine VList.go0 (n' := 94) rfl rfl (.assign _ _ rfl) rfl ?_
              refine VList.nil (Then.go ?_)
              refine VCode.seq ?_
              refine VCode.region ?_
              refine VList.go0 (n' := 95) rfl rfl (.move _ _ rfl) rfl ?_
              refine VList.go0 (n' := 96) rfl rfl (Eff.lenO rfl Try.underlying53) rfl ?_
              refine VList.go0 (n' := 97) rfl rfl (.bin _ _ _ _ _ _ _ _ rfl rfl (bop_sub_i64 (by first | omega | (simp; done) | (simp; omega)))) rfl ?_
              refine VList.go0 (n' := 98) rfl rfl (.move _ _ rfl) rfl ?_
              refine VList.go0 (n' := 99) rfl rfl (.bin _ _ _ _ _ _ _ _ rfl rfl (bop_sub_i64 (by first | omega | (simp; done) | (simp; omega)))) rfl ?_
              refine VList.go0 (n' := 100) rfl rfl (.assign _ _ rfl) rfl ?_
              refine VList.nil (Then.go ?_)
              have hl3 := hok3.len
              have hle3 := hok3.le
              refine VCode.draw (by kernel_rfl) ?_
              refine VLog.go0 (n' := 101) rfl rfl (.move _ _ rfl) rfl ?_
              refine VLog.go0 (n' := 102) rfl rfl (.move _ _ rfl) rfl ?_
              refine VLog.go0 (n' := 103) rfl rfl (.move _ _ rfl) rfl ?_
              refine VLog.go0 (n' := 104) rfl rfl (.move _ _ rfl) rfl ?_
              refine VLog.go0 (n' := 105) rfl rfl (.move _ _ rfl) rfl ?_
              refine VLog.go0 (n' := 106) rfl rfl (.move _ _ rfl) rfl ?_
              refine VLog.go0 (n' := 107) rfl rfl (Eff.indexRow rfl rfl Try.underlying53 P_sz5 (by first | omega | (simp; done) | (simp; omega)) (by first | omega | (simp; done) | (simp; omega))) rfl ?_
              refine VLog.go0 (n' := 108) rfl rfl (Eff.loadK rfl rfl P_agg5 (by first | omega | (simp; done) | (simp; omega))) rfl ?_
              refine VLog.go0 (n' := 109) rfl rfl (.move _ _ rfl) rfl ?_
              refine VLog.go0 (n' := 110) rfl rfl (.move _ _ rfl) rfl ?_
              refine VLog.go0 (n' := 111) rfl rfl (Eff.indexRowN rfl rfl Try.underlying53 P_sz5 (by first | omega | (simp; done) | (simp; omega))) rfl ?_
              refine VLog.go0 (n' := 112) rfl rfl (Eff.loadK rfl rfl P_agg5 (by first | omega | (simp; done) | (simp; omega))) rfl ?_
              refine VLog.go0 (n' := 113) rfl rfl (Eff.indexRowN rfl rfl Try.underlying53 P_sz5 (by first | omega | (simp; done) | (simp; omega))) rfl ?_
              refine VLog.goS (n' := 114) rfl rfl (Eff.storeK rfl rfl rfl P_sz5 (by first | omega | (simp; done) | (simp; omega))) rfl ?_
              refine VLog.go0 (n' := 115) rfl rfl (Eff.indexRow rfl rfl Try.underlying53 P_sz5 (by first | omega | (simp; done) | (simp; omega)) (by first | omega | (simp; done) | (simp; omega))) rfl ?_
              refine VLog.goS (n' := 116) rfl rfl (Eff.storeK rfl rfl rfl P_sz5 (by first | omega | (simp; done) | (simp; omega))) rfl ?_
              refine VLog.nil ⟨by kernel_rfl, InBlock.go (Then.go ?_)⟩
              refine VCode.region ?_
              refine VList.go0 (n' := 117) rfl rfl (.bin _ _ _ _ _ _ _ _ rfl rfl (bop_add_i64 (by first | omega | (simp; done) | (simp; omega)))) rfl ?_
              refine VList.go0 (n' := 118) rfl rfl (.move _ _ rfl) rfl ?_
              exact VList.nil (Round.go (i + 1, ((D3).set ((i)) ((D3).getD ((((((m : Nat) : Int) - 1) - (i : Int))).toNat) 0)).set ((((((m : Nat) : Int) - 1) - (i : Int))).toNat) ((D3).getD ((i)) 0)) (hok3.step (by omega) (by omega)) (by first | (dsimp only; omega) | omega) (Weak.of (show 0 ≤ 91 by decide) ⟨⟨rfl, rfl⟩, ⟨⟨rfl, rfl⟩, ⟨⟨rfl, rfl⟩, trivial⟩⟩⟩ ⟨⟨rfl, (show 90 < 91 by decide), row_cellsK⟩, trivial⟩))
            · replace hc13 := of_decide_eq_false hc13
              refine VCode.exit (Then.exit (Round.exit (InBlock.here (Then.go ?_))))
              refine VCode.seq ?_
              have hl3 := hok3.len
              have hle3 := hok3.le
              refine VCode.region ?_
              refine VList.go0 (n' := 93) rfl rfl (.move _ _ rfl) rfl ?_
              refine VList.go0 (n' := 94) rfl rfl (Eff.toStrK rfl rfl (by first | omega | (simp; done) | (simp; omega)) (by rw [hok3.fin (by omega), hD]; exact tx_ok8) Try.underlying53 Try.underlying5 Try.underlying9) rfl ?_
              refine VList.go0 (n' := 95) rfl rfl (.assign _ _ rfl) rfl ?_
              refine VList.go0 (n' := 96) rfl rfl (.assign _ _ rfl) rfl ?_
              refine VList.nil (Then.go ?_)
              exact VCode.ret (⟨trivial, [.lit (.string (bytesOf (D3))), numB .i64 (0)], (resVars_cons (resVar_tmp rfl rfl) (resVars_cons (resVar_tmp rfl rfl) resVars_nil)), (by rw [tS_true hc1, txB, txL_sg vA (neg_pos nA sA), ← hD, ← hok3.fin (by omega)]; simp [tE, hc1]; rfl)⟩)
    · skip
      obtain ⟨⟨nL, lL⟩, hm, hd⟩ := hok
      show VCode Try.prog 0 _ 91 (sl [(1, .ptr 0 (0)), (4, .own 90 (m)), (5, vS (L))]) (en [(0, ⟨2, [vB (n), vS (A)], true⟩), (90, rowK .u8 (D))]) _
      refine VCode.seq ?_
      refine VCode.seq ?_
      refine VCode.region ?_
      refine VList.go0 (n' := 92) rfl rfl (.move _ _ rfl) rfl ?_
      refine VList.go0 (n' := 93) rfl rfl (Eff.lenS rfl Try.underlying22) rfl ?_
      refine VList.go0 (n' := 94) rfl rfl (.bin _ _ _ _ _ _ _ _ rfl rfl rfl) rfl ?_
      refine VList.nil (Then.go ?_)
      refine VCode.cond _ rfl (fun hc14 => ?_) (fun hc14 => ?_)
      · replace hc14 := of_decide_eq_true hc14
        have lP : 0 < val L := norm_pos nL (fun e => by rw [e] at hc14; simp at hc14)
        have q0 : 0 ≤ val L / 1000000000 := by omega
        have lQ : (dg (val L / 1000000000)).length ≤ 128 := Nat.le_trans (len_le nL.1 q0 (by omega)) lL
        have hT0 : TxIn (val A) (val (dg (val L / 1000000000))) (val L % 1000000000) 0 D := by rw [val_dg q0]; exact TxIn.start hd lP
        refine VCode.skip (Then.go ?_)
        refine VCode.block ?_
        refine VCode.seq ?_
        refine VCode.region ?_
        refine VList.go0 (n' := 95) rfl rfl (.move _ _ rfl) rfl ?_
        refine VList.go0 (n' := 96) rfl rfl (Eff.callV0 rfl (ress_cons rfl (ress_cons rfl ress_nil)) (f60 _ _ (by first | omega | (simp; done) | (simp; omega)) (by first | exact nL.1 | exact nA.1) (by first | omega | (simp; done) | (simp; omega)) (by first | omega | (simp; done) | (simp; omega))) rfl) rfl ?_
        refine VList.go0 (n' := 97) rfl rfl (.move _ _ rfl) rfl ?_
        refine VList.go0 (n' := 98) rfl rfl (.extract _ _ _ _ rfl rfl) rfl ?_
        refine VList.go0 (n' := 99) rfl rfl (.extract _ _ _ _ rfl rfl) rfl ?_
        refine VList.go0 (n' := 100) rfl rfl (.assign _ _ rfl) rfl ?_
        refine VList.go0 (n' := 101) rfl rfl (.assign _ _ rfl) rfl ?_
        refine VList.nil (Then.go ?_)
        refine VCode.seq ?_
        refine VCode.seq ?_
        refine VCode.region ?_
        refine VList.go0 (n' := 102) rfl rfl (.move _ _ rfl) rfl ?_
        refine VList.nil (Then.go ?_)
        refine VCode.block ?_
        refine VCode.loop (α := (Nat) × (Int) × (Nat) × (List Int)) (fun (x_ : (Nat) × (Int) × (Nat) × (List Int)) => match x_ with | (k, r, m2, D2) => (92, sl [(1, .ptr 0 (0)), (4, .own 91 (m2)), (6, vS (dg (val (L) / (1000000000)))), (7, vI .u32 (r)), (24, vI .i64 ((k : Int)))], en [(0, ⟨2, [vB (n), vS (A)], true⟩), (91, rowK .u8 (D2))])) (fun (x_ : (Nat) × (Int) × (Nat) × (List Int)) => match x_ with | (k, r, m2, D2) => TxIn (val A) (val (dg (val L / 1000000000))) r k D2 ∧ D2.length = m2) (fun (x_ : (Nat) × (Int) × (Nat) × (List Int)) => match x_ with | (k, r, m2, D2) => 9 - k) (0, (val L % 1000000000), m, D) ⟨hT0, hm⟩ (Weak.ofR (fun i_ => match i_ with | 91 => 90 | i_ => i_) (show 0 ≤ 92 by decide) rfl rfl ⟨⟨rfl, rfl⟩, ⟨⟨rfl, rfl⟩, ⟨⟨rfl, rfl⟩, ⟨⟨rfl, rfl⟩, ⟨⟨rfl, rfl⟩, trivial⟩⟩⟩⟩⟩ ⟨⟨rfl, (show 0 < 92 by decide), (by intro v_ hv_; simp at hv_; rcases hv_ with rfl | rfl <;> rfl)⟩, ⟨⟨(by rw [rowK_ren]; rfl), (show 91 < 92 by decide), row_cellsK⟩, trivial⟩⟩) ?_
        rintro ⟨k, r, m2, D2⟩ hok2
        obtain ⟨hT, hm2⟩ := hok2
        have hk9 := hT.k9
        have hr0 := hT.r0
        have hr9 := hT.r9
        have hD2 := Nat.le_trans hT.len tlen
        show VCode Try.prog 0 _ 92 (sl [(1, .ptr 0 (0)), (4, .own 91 (m2)), (6, vS (dg (val (L) / (1000000000)))), (7, vI .u32 (r)), (24, vI .i64 ((k : Int)))]) (en [(0, ⟨2, [vB (n), vS (A)], true⟩), (91, rowK .u8 (D2))]) _
        refine VCode.seq ?_
        refine VCode.region ?_
        refine VList.go0 (n' := 93) rfl rfl (.bin _ _ _ _ _ _ _ _ rfl rfl rfl) rfl ?_
        refine VList.nil (Then.go ?_)
        refine VCode.seq ?_
        refine VCode.cond _ rfl (fun hc15 => ?_) (fun hc15 => ?_)
        · replace hc15 := of_decide_eq_true hc15
          refine VCode.skip (Then.go ?_)
          refine VCode.seq ?_
          refine VCode.block ?_
          refine VCode.seq ?_
          refine VCode.region ?_
          refine VList.go0 (n' := 94) rfl rfl (.move _ _ rfl) rfl ?_
          refine VList.go0 (n' := 95) rfl rfl (.assign _ _ rfl) rfl ?_
          refine VList.nil (Then.go ?_)
          refine VCode.seq ?_
          refine VCode.seq ?_
          refine VCode.region ?_
          refine VList.go0 (n' := 96) rfl rfl (.move _ _ rfl) rfl ?_
          refine VList.go0 (n' := 97) rfl rfl (Eff.lenS rfl Try.underlying22) rfl ?_
          refine VList.go0 (n' := 98) rfl rfl (.bin _ _ _ _ _ _ _ _ rfl rfl rfl) rfl ?_
          refine VList.go0 (n' := 99) rfl rfl (.move _ _ rfl) rfl ?_
          refine VList.split (d := 30) _ rfl (fun hc16 => ?_) (fun hc16 => ?_)
          · replace hc16 := eq_of_beq hc16
            refine VList.go0 (n' := 100) rfl rfl (.move _ _ rfl) rfl ?_
            refine VList.go0 (n' := 101) rfl rfl (.bin _ _ _ _ _ _ _ _ rfl rfl rfl) rfl ?_
            refine VList.go0 (n' := 102) rfl rfl (.pick _ _ _ _ _ rfl rfl) rfl ?_
            refine VList.go0 (n' := 103) rfl rfl (.move _ _ rfl) rfl ?_
            refine VList.split (d := 34) _ rfl (fun hc17 => ?_) (fun hc17 => ?_)
            · replace hc17 := eq_of_beq hc17
              refine VList.go0 (n' := 104) rfl rfl (.move _ _ rfl) rfl ?_
              refine VList.go0 (n' := 105) rfl rfl (.bin _ _ _ _ _ _ _ _ rfl rfl rfl) rfl ?_
              refine VList.go0 (n' := 106) rfl rfl (.pick _ _ _ _ _ rfl rfl) rfl ?_
              refine VList.nil (Then.go ?_)
              refine VCode.cond _ rfl (fun hc18 => ?_) (fun hc18 => ?_)
              · replace hc18 := of_decide_eq_true hc18
                refine VCode.exit (Then.exit (InBlock.out (by decide) (Then.exit (Round.exit (InBlock.here (Then.go ?_))))))
                refine VCode.region ?_
                refine VList.go0 (n' := 107) rfl rfl (.move _ _ rfl) rfl ?_
                refine VList.go0 (n' := 108) rfl rfl (.assign _ _ rfl) rfl ?_
                exact VList.nil (InBlock.go (Round.go (.inr (dg (val (L) / (1000000000)), m2, D2)) ⟨⟨norm_dg _, lQ⟩, hm2, hT.done (dgz (by omega)) (by omega)⟩ (by show (val (dg _)).toNat < (val L).toNat; rw [val_dg q0]; omega) (Weak.ofR (fun i_ => match i_ with | 90 => 91 | i_ => i_) (show 0 ≤ 91 by decide) rfl rfl ⟨⟨rfl, rfl⟩, ⟨⟨rfl, rfl⟩, ⟨⟨rfl, rfl⟩, trivial⟩⟩⟩ ⟨⟨rfl, (show 0 < 91 by decide), (by intro v_ hv_; simp at hv_; rcases hv_ with rfl | rfl <;> rfl)⟩, ⟨⟨(by rw [rowK_ren]; rfl), (show 90 < 91 by decide), row_cellsK⟩, trivial⟩⟩)))
              · replace hc18 := of_decide_eq_false hc18
                refine VCode.skip (Then.go ?_)
                refine VCode.seq ?_
                refine VCode.region ?_
                refine VList.go0 (n' := 107) rfl rfl (.move _ _ rfl) rfl ?_
                refine VList.go0 (n' := 108) rfl rfl (.move _ _ rfl) rfl ?_
                refine VList.go0 (n' := 109) rfl rfl (.bin _ _ _ _ _ _ _ _ rfl rfl (bop_rem_u32 (by first | omega | (simp; done) | (simp; omega)) (by first | omega | (simp; done) | (simp; omega)))) rfl ?_
                refine VList.go0 (n' := 110) rfl rfl (.bin _ _ _ _ _ _ _ _ rfl rfl (bop_add_u32 (by first | omega | (simp; done) | (simp; omega)))) rfl ?_
                refine VList.go0 (n' := 111) rfl rfl (Eff.convN_u8 rfl Try.underlying51 Try.underlying5 (by first | omega | (simp; done) | (simp; omega))) rfl ?_
                refine VList.go1 (n' := 112) rfl rfl (Eff.litsK1 rfl Try.underlying53 P_zero5 P_sz5) rfl ?_
                refine VList.goN (n' := 113) rfl rfl (Eff.appendK rfl rfl (by first | omega | (simp; done) | (simp; omega)) rfl (res_rowK rfl (by first | omega | (simp; done) | (simp; omega))) (by decide) Try.underlying53 P_sz5 P_bytes5 P_zero5 (by first | (simp [maxLen]; done) | (simp [maxLen]; omega))) rfl ?_
                refine VList.go0 (n' := 114) rfl rfl (.assign _ _ rfl) rfl ?_
                refine VList.nil (Then.go ?_)
                refine VCode.region ?_
                refine VList.go0 (n' := 115) rfl rfl (.move _ _ rfl) rfl ?_
                refine VList.go0 (n' := 116) rfl rfl (.bin _ _ _ _ _ _ _ _ rfl rfl (bop_quo_u32 (by first | omega | (simp; done) | (simp; omega)) (by first | omega | (simp; done) | (simp; omega)) (by first | omega | (simp; done) | (simp; omega)))) rfl ?_
                refine VList.go0 (n' := 117) rfl rfl (.assign _ _ rfl) rfl ?_
                refine VList.nil (InBlock.go (Then.go ?_))
                refine VCode.region ?_
                refine VList.go0 (n' := 118) rfl rfl (.bin _ _ _ _ _ _ _ _ rfl rfl (bop_add_i64 (by first | omega | (simp; done) | (simp; omega)))) rfl ?_
                refine VList.go0 (n' := 119) rfl rfl (.move _ _ rfl) rfl ?_
                exact VList.nil (Round.go (k + 1, r / 10, (m2) + ([(48 + (r % 10))]).length, (D2) ++ ([(48 + (r % 10))])) ⟨hT.step (by omega) (by first | (left; omega) | (right; rintro ⟨a1, a2⟩; first | omega | exact absurd (dgl a1) (by omega))), by simp [hm2]⟩ (by first | (dsimp only; omega) | omega) (Weak.ofR (fun i_ => match i_ with | 91 => 112 | i_ => i_) (show 0 ≤ 92 by decide) rfl rfl ⟨⟨rfl, rfl⟩, ⟨⟨rfl, rfl⟩, ⟨⟨rfl, rfl⟩, ⟨⟨rfl, rfl⟩, ⟨⟨rfl, rfl⟩, trivial⟩⟩⟩⟩⟩ ⟨⟨rfl, (show 0 < 92 by decide), (by intro v_ hv_; simp at hv_; rcases hv_ with rfl | rfl <;> rfl)⟩, ⟨⟨(by rw [rowK_ren]; rfl), (show 91 < 92 by decide), row_cellsK⟩, trivial⟩⟩))
            · replace hc17 := ne_of_beq_false hc17
              refine VList.skip (n' := 104) rfl rfl rfl ?_
              refine VList.skip (n' := 105) rfl rfl rfl ?_
              refine VList.go0 (n' := 106) rfl rfl (.pick _ _ _ _ _ rfl rfl) rfl ?_
              refine VList.nil (Then.go ?_)
              refine VCode.cond _ rfl (fun h_ => Bool.noConfusion h_) (fun _ => ?_)
              refine VCode.skip (Then.go ?_)
              refine VCode.seq ?_
              refine VCode.region ?_
              refine VList.go0 (n' := 107) rfl rfl (.move _ _ rfl) rfl ?_
              refine VList.go0 (n' := 108) rfl rfl (.move _ _ rfl) rfl ?_
              refine VList.go0 (n' := 109) rfl rfl (.bin _ _ _ _ _ _ _ _ rfl rfl (bop_rem_u32 (by first | omega | (simp; done) | (simp; omega)) (by first | omega | (simp; done) | (simp; omega)))) rfl ?_
              refine VList.go0 (n' := 110) rfl rfl (.bin _ _ _ _ _ _ _ _ rfl rfl (bop_add_u32 (by first | omega | (simp; done) | (simp; omega)))) rfl ?_
              refine VList.go0 (n' := 111) rfl rfl (Eff.convN_u8 rfl Try.underlying51 Try.underlying5 (by first | omega | (simp; done) | (simp; omega))) rfl ?_
              refine VList.go1 (n' := 112) rfl rfl (Eff.litsK1 rfl Try.underlying53 P_zero5 P_sz5) rfl ?_
              refine VList.goN (n' := 113) rfl rfl (Eff.appendK rfl rfl (by first | omega | (simp; done) | (simp; omega)) rfl (res_rowK rfl (by first | omega | (simp; done) | (simp; omega))) (by decide) Try.underlying53 P_sz5 P_bytes5 P_zero5 (by first | (simp [maxLen]; done) | (simp [maxLen]; omega))) rfl ?_
              refine VList.go0 (n' := 114) rfl rfl (.assign _ _ rfl) rfl ?_
              refine VList.nil (Then.go ?_)
              refine VCode.region ?_
              refine VList.go0 (n' := 115) rfl rfl (.move _ _ rfl) rfl ?_
              refine VList.go0 (n' := 116) rfl rfl (.bin _ _ _ _ _ _ _ _ rfl rfl (bop_quo_u32 (by first | omega | (simp; done) | (simp; omega)) (by first | omega | (simp; done) | (simp; omega)) (by first | omega | (simp; done) | (simp; omega)))) rfl ?_
              refine VList.go0 (n' := 117) rfl rfl (.assign _ _ rfl) rfl ?_
              refine VList.nil (InBlock.go (Then.go ?_))
              refine VCode.region ?_
              refine VList.go0 (n' := 118) rfl rfl (.bin _ _ _ _ _ _ _ _ rfl rfl (bop_add_i64 (by first | omega | (simp; done) | (simp; omega)))) rfl ?_
              refine VList.go0 (n' := 119) rfl rfl (.move _ _ rfl) rfl ?_
              exact VList.nil (Round.go (k + 1, r / 10, (m2) + ([(48 + (r % 10))]).length, (D2) ++ ([(48 + (r % 10))])) ⟨hT.step (by omega) (by first | (left; omega) | (right; rintro ⟨a1, a2⟩; first | omega | exact absurd (dgl a1) (by omega))), by simp [hm2]⟩ (by first | (dsimp only; omega) | omega) (Weak.ofR (fun i_ => match i_ with | 91 => 112 | i_ => i_) (show 0 ≤ 92 by decide) rfl rfl ⟨⟨rfl, rfl⟩, ⟨⟨rfl, rfl⟩, ⟨⟨rfl, rfl⟩, ⟨⟨rfl, rfl⟩, ⟨⟨rfl, rfl⟩, trivial⟩⟩⟩⟩⟩ ⟨⟨rfl, (show 0 < 92 by decide), (by intro v_ hv_; simp at hv_; rcases hv_ with rfl | rfl <;> rfl)⟩, ⟨⟨(by rw [rowK_ren]; rfl), (show 91 < 92 by decide), row_cellsK⟩, trivial⟩⟩))
          · replace hc16 := ne_of_beq_false hc16
            refine VList.skip (n' := 100) rfl rfl rfl ?_
            refine VList.skip (n' := 101) rfl rfl rfl ?_
            refine VList.go0 (n' := 102) rfl rfl (.pick _ _ _ _ _ rfl rfl) rfl ?_
            refine VList.go0 (n' := 103) rfl rfl (.move _ _ rfl) rfl ?_
            refine VList.skip (n' := 104) rfl rfl rfl ?_
            refine VList.skip (n' := 105) rfl rfl rfl ?_
            refine VList.go0 (n' := 106) rfl rfl (.pick _ _ _ _ _ rfl rfl) rfl ?_
            refine VList.nil (Then.go ?_)
            refine VCode.cond _ rfl (fun h_ => Bool.noConfusion h_) (fun _ => ?_)
            refine VCode.skip (Then.go ?_)
            refine VCode.seq ?_
            refine VCode.region ?_
            refine VList.go0 (n' := 107) rfl rfl (.move _ _ rfl) rfl ?_
            refine VList.go0 (n' := 108) rfl rfl (.move _ _ rfl) rfl ?_
            refine VList.go0 (n' := 109) rfl rfl (.bin _ _ _ _ _ _ _ _ rfl rfl (bop_rem_u32 (by first | omega | (simp; done) | (simp; omega)) (by first | omega | (simp; done) | (simp; omega)))) rfl ?_
            refine VList.go0 (n' := 110) rfl rfl (.bin _ _ _ _ _ _ _ _ rfl rfl (bop_add_u32 (by first | omega | (simp; done) | (simp; omega)))) rfl ?_
            refine VList.go0 (n' := 111) rfl rfl (Eff.convN_u8 rfl Try.underlying51 Try.underlying5 (by first | omega | (simp; done) | (simp; omega))) rfl ?_
            refine VList.go1 (n' := 112) rfl rfl (Eff.litsK1 rfl Try.underlying53 P_zero5 P_sz5) rfl ?_
            refine VList.goN (n' := 113) rfl rfl (Eff.appendK rfl rfl (by first | omega | (simp; done) | (simp; omega)) rfl (res_rowK rfl (by first | omega | (simp; done) | (simp; omega))) (by decide) Try.underlying53 P_sz5 P_bytes5 P_zero5 (by first | (simp [maxLen]; done) | (simp [maxLen]; omega))) rfl ?_
            refine VList.go0 (n' := 114) rfl rfl (.assign _ _ rfl) rfl ?_
            refine VList.nil (Then.go ?_)
            refine VCode.region ?_
            refine VList.go0 (n' := 115) rfl rfl (.move _ _ rfl) rfl ?_
            refine VList.go0 (n' := 116) rfl rfl (.bin _ _ _ _ _ _ _ _ rfl rfl (bop_quo_u32 (by first | omega | (simp; done) | (simp; omega)) (by first | omega | (simp; done) | (simp; omega)) (by first | omega | (simp; done) | (simp; omega)))) rfl ?_
            refine VList.go0 (n' := 117) rfl rfl (.assign _ _ rfl) rfl ?_
            refine VList.nil (InBlock.go (Then.go ?_))
            refine VCode.region ?_
            refine VList.go0 (n' := 118) rfl rfl (.bin _ _ _ _ _ _ _ _ rfl rfl (bop_add_i64 (by first | omega | (simp; done) | (simp; omega)))) rfl ?_
            refine VList.go0 (n' := 119) rfl rfl (.move _ _ rfl) rfl ?_
            exact VList.nil (Round.go (k + 1, r / 10, (m2) + ([(48 + (r % 10))]).length, (D2) ++ ([(48 + (r % 10))])) ⟨hT.step (by omega) (by first | (left; omega) | (right; rintro ⟨a1, a2⟩; first | omega | exact absurd (dgl a1) (by omega))), by simp [hm2]⟩ (by first | (dsimp only; omega) | omega) (Weak.ofR (fun i_ => match i_ with | 91 => 112 | i_ => i_) (show 0 ≤ 92 by decide) rfl rfl ⟨⟨rfl, rfl⟩, ⟨⟨rfl, rfl⟩, ⟨⟨rfl, rfl⟩, ⟨⟨rfl, rfl⟩, ⟨⟨rfl, rfl⟩, trivial⟩⟩⟩⟩⟩ ⟨⟨rfl, (show 0 < 92 by decide), (by intro v_ hv_; simp at hv_; rcases hv_ with rfl | rfl <;> rfl)⟩, ⟨⟨(by rw [rowK_ren]; rfl), (show 91 < 92 by decide), row_cellsK⟩, trivial⟩⟩))
        · replace hc15 := of_decide_eq_false hc15
          refine VCode.exit (Then.exit (Round.exit (InBlock.here (Then.go ?_))))
          refine VCode.region ?_
          refine VList.go0 (n' := 94) rfl rfl (.move _ _ rfl) rfl ?_
          refine VList.go0 (n' := 95) rfl rfl (.assign _ _ rfl) rfl ?_
          exact VList.nil (InBlock.go (Round.go (.inr (dg (val (L) / (1000000000)), m2, D2)) ⟨⟨norm_dg _, lQ⟩, hm2, hT.full (by omega)⟩ (by show (val (dg _)).toNat < (val L).toNat; rw [val_dg q0]; omega) (Weak.ofR (fun i_ => match i_ with | 90 => 91 | i_ => i_) (show 0 ≤ 91 by decide) rfl rfl ⟨⟨rfl, rfl⟩, ⟨⟨rfl, rfl⟩, ⟨⟨rfl, rfl⟩, trivial⟩⟩⟩ ⟨⟨rfl, (show 0 < 91 by decide), (by intro v_ hv_; simp at hv_; rcases hv_ with rfl | rfl <;> rfl)⟩, ⟨⟨(by rw [rowK_ren]; rfl), (show 90 < 91 by decide), row_cellsK⟩, trivial⟩⟩)))
      · replace hc14 := of_decide_eq_false hc14
        refine VCode.exit (Then.exit (Round.exit (InBlock.here (Then.go ?_))))
        refine VCode.join (α := (Nat) × (List Int)) (fun (x_ : (Nat) × (List Int)) => match x_ with | (m, D) => (91, sl [(1, .ptr 0 (0)), (4, .own 90 (m))], en [(0, ⟨2, [vB (n), vS (A)], true⟩), (90, rowK .u8 (D))])) (fun (x_ : (Nat) × (List Int)) => match x_ with | (m, D) => D.length = m ∧ D = txD (val A)) ?_ ?_
        · skip
          refine VCode.seq ?_
          refine VCode.region ?_
          refine VList.go0 (n' := 95) rfl rfl (.move _ _ rfl) rfl ?_
          refine VList.go0 (n' := 96) rfl rfl (Eff.lenO rfl Try.underlying53) rfl ?_
          refine VList.go0 (n' := 97) rfl rfl (.bin _ _ _ _ _ _ _ _ rfl rfl rfl) rfl ?_
          refine VList.nil (Then.go ?_)
          refine VCode.cond _ rfl (fun hc19 => ?_) (fun hc19 => ?_)
          · replace hc19 := eq_of_beq hc19
            refine VCode.region ?_
            refine VList.go1 (n' := 98) rfl rfl (Eff.litsK1 rfl Try.underlying53 P_zero5 P_sz5) rfl ?_
            refine VList.go0 (n' := 99) rfl rfl (.assign _ _ rfl) rfl ?_
            exact VList.nil (Joins.go (1, [48]) ⟨rfl, txD_none vA (by rw [hd, norm_zero nL (by omega), show (0 : Int).toNat = 0 from rfl, dd_zero, List.append_nil]) (by omega)⟩ (Weak.ofR (fun i_ => match i_ with | 90 => 97 | i_ => i_) (show 0 ≤ 91 by decide) rfl rfl ⟨⟨rfl, rfl⟩, ⟨⟨rfl, rfl⟩, trivial⟩⟩ ⟨⟨rfl, (show 0 < 91 by decide), (by intro v_ hv_; simp at hv_; rcases hv_ with rfl | rfl <;> rfl)⟩, ⟨⟨(by rw [rowK_ren]; rfl), (show 90 < 91 by decide), row_cellsK⟩, trivial⟩⟩))
          · replace hc19 := ne_of_beq_false hc19
            exact VCode.skip (Joins.go (m, D) ⟨hm, txD_some vA (by rw [hd, norm_zero nL (by omega), show (0 : Int).toNat = 0 from rfl, dd_zero, List.append_nil]) (by omega)⟩ (Weak.of (show 0 ≤ 91 by decide) ⟨⟨rfl, rfl⟩, ⟨⟨rfl, rfl⟩, trivial⟩⟩ ⟨⟨rfl, (show 0 < 91 by decide), (by intro v_ hv_; simp at hv_; rcases hv_ with rfl | rfl <;> rfl)⟩, ⟨⟨rfl, (show 90 < 91 by decide), row_cellsK⟩, trivial⟩⟩))
        · rintro ⟨m, D⟩ hok
          obtain ⟨hm, hD⟩ := hok
          have hDl := txD_len oA lA (v := val A) rfl
          rw [← hD] at hDl
          show VCode Try.prog 0 _ 91 (sl [(1, .ptr 0 (0)), (4, .own 90 (m))]) (en [(0, ⟨2, [vB (n), vS (A)], true⟩), (90, rowK .u8 (D))]) _
          refine VCode.join (α := (Nat) × (List Int)) (fun (x_ : (Nat) × (List Int)) => match x_ with | (m, D) => (91, sl [(4, .own 90 (m))], en [(90, rowK .u8 (D))])) (fun (x_ : (Nat) × (List Int)) => match x_ with | (m, D) => (D.length = m ∧ m ≤ 10000) ∧ D = txD (val A) ++ (if n = true then [45] else [])) ?_ ?_
          · skip
            refine VCode.seq ?_
            refine VCode.region ?_
            refine VList.go0 (n' := 92) rfl rfl (.fieldAddr _ _ _ _ _ _ _ _ rfl P_fld24_0) rfl ?_
            refine VList.go0 (n' := 93) rfl rfl (.load1 _ _ _ _ _ _ rfl rfl P_agg4 rfl) rfl ?_
            refine VList.nil (Then.go ?_)
            refine VCode.cond _ rfl (fun hc20 => ?_) (fun hc20 => ?_)
            · (try simp at hc20)
              refine VCode.region ?_
              refine VList.go0 (n' := 94) rfl rfl (.move _ _ rfl) rfl ?_
              refine VList.go1 (n' := 95) rfl rfl (Eff.litsK1 rfl Try.underlying53 P_zero5 P_sz5) rfl ?_
              refine VList.goN (n' := 96) rfl rfl (Eff.appendK rfl rfl (by first | omega | (simp; done) | (simp; omega)) rfl (res_rowK rfl (by first | omega | (simp; done) | (simp; omega))) (by decide) Try.underlying53 P_sz5 P_bytes5 P_zero5 (by first | (simp [maxLen]; done) | (simp [maxLen]; omega))) rfl ?_
              refine VList.go0 (n' := 97) rfl rfl (.assign _ _ rfl) rfl ?_
              exact VList.nil (Joins.go ((m) + ([45]).length, (D) ++ ([45])) ⟨⟨by simp [hm], by simp; omega⟩, by rw [if_pos (by assumption), hD]⟩ (Weak.ofR (fun i_ => match i_ with | 90 => 95 | i_ => i_) (show 0 ≤ 91 by decide) rfl rfl ⟨⟨rfl, rfl⟩, trivial⟩ ⟨⟨(by rw [rowK_ren]; rfl), (show 90 < 91 by decide), row_cellsK⟩, trivial⟩))
            · (try simp at hc20)
              exact VCode.skip (Joins.go (m, D) ⟨⟨hm, by omega⟩, by rw [if_neg (by simp [*]), hD, List.append_nil]⟩ (Weak.of (show 0 ≤ 91 by decide) ⟨⟨rfl, rfl⟩, trivial⟩ ⟨⟨rfl, (show 90 < 91 by decide), row_cellsK⟩, trivial⟩))
          · rintro ⟨m, D⟩ hok
            obtain ⟨⟨hm, hm1⟩, hD⟩ := hok
            show VCode Try.prog 0 _ 91 (sl [(4, .own 90 (m))]) (en [(90, rowK .u8 (D))]) _
            refine VCode.seq ?_
            refine VCode.seq ?_
            refine VCode.region ?_
            refine VList.go0 (n' := 92) rfl rfl (.move _ _ rfl) rfl ?_
            refine VList.go0 (n' := 93) rfl rfl (Eff.lenO rfl Try.underlying53) rfl ?_
            refine VList.go0 (n' := 94) rfl rfl (.bin _ _ _ _ _ _ _ _ rfl rfl (bop_quo_i64 (by first | omega | (simp; done) | (simp; omega)) (by first | omega | (simp; done) | (simp; omega)) (by first | omega | (simp; done) | (simp; omega)))) rfl ?_
            refine VList.go0 (n' := 95) rfl rfl (.move _ _ rfl) rfl ?_
            refine VList.nil (Then.go ?_)
            refine VCode.block ?_
            refine VCode.loop (α := (Nat) × (List Int)) (fun (x_ : (Nat) × (List Int)) => match x_ with | (i, D3) => (91, sl [(4, .own 90 (m)), (60, vI .i64 ((((m : Nat) : Int) / 2))), (61, vI .i64 ((i : Int)))], en [(90, rowK .u8 (D3))])) (fun (x_ : (Nat) × (List Int)) => match x_ with | (i, D3) => RevInv D D3 i) (fun (x_ : (Nat) × (List Int)) => match x_ with | (i, D3) => D.length - i) (0, D) (RevInv.start _) (Weak.of (show 0 ≤ 91 by decide) ⟨⟨rfl, rfl⟩, ⟨⟨rfl, rfl⟩, ⟨⟨rfl, rfl⟩, trivial⟩⟩⟩ ⟨⟨rfl, (show 90 < 91 by decide), row_cellsK⟩, trivial⟩) ?_
            rintro ⟨i, D3⟩ hok3
            show VCode Try.prog 0 _ 91 (sl [(4, .own 90 (m)), (60, vI .i64 ((((m : Nat) : Int) / 2))), (61, vI .i64 ((i : Int)))]) (en [(90, rowK .u8 (D3))]) _
            refine VCode.seq ?_
            refine VCode.region ?_
            refine VList.go0 (n' := 92) rfl rfl (.bin _ _ _ _ _ _ _ _ rfl rfl rfl) rfl ?_
            refine VList.nil (Then.go ?_)
            refine VCode.seq ?_
            refine VCode.cond _ rfl (fun hc21 => ?_) (fun hc21 => ?_)
            · replace hc21 := of_decide_eq_true hc21
              refine VCode.skip (Then.go ?_)
              refine VCode.seq ?_
              refine VCode.block ?_
              refine VCode.seq ?_
              refine VCode.region ?_
              refine VList.go0 (n' := 93) rfl rfl (.move _ _ rfl) rfl ?_
              refine VList.go0 (n' := 94) rfl rfl (.assign _ _ rfl) rfl ?_
              refine VList.nil (Then.go ?_)
              refine VCode.seq ?_
              refine VCode.region ?_
              refine VList.go0 (n' := 95) rfl rfl (.move _ _ rfl) rfl ?_
              refine VList.go0 (n' := 96) rfl rfl (Eff.lenO rfl Try.underlying53) rfl ?_
              refine VList.go0 (n' := 97) rfl rfl (.bin _ _ _ _ _ _ _ _ rfl rfl (bop_sub_i64 (by first | omega | (simp; done) | (simp; omega)))) rfl ?_
              refine VList.go0 (n' := 98) rfl rfl (.move _ _ rfl) rfl ?_
              refine VList.go0 (n' := 99) rfl rfl (.bin _ _ _ _ _ _ _ _ rfl rfl (bop_sub_i64 (by first | omega | (simp; done) | (simp; omega)))) rfl ?_
              refine VList.go0 (n' := 100) rfl rfl (.assign _ _ rfl) rfl ?_
              refine VList.nil (Then.go ?_)
              have hl3 := hok3.len
              have hle3 := hok3.le
              refine VCode.draw (by kernel_rfl) ?_
              refine VLog.go0 (n' := 101) rfl rfl (.move _ _ rfl) rfl ?_
              refine VLog.go0 (n' := 102) rfl rfl (.move _ _ rfl) rfl ?_
              refine VLog.go0 (n' := 103) rfl rfl (.move _ _ rfl) rfl ?_
              refine VLog.go0 (n' := 104) rfl rfl (.move _ _ rfl) rfl ?_
              refine VLog.go0 (n' := 105) rfl rfl (.move _ _ rfl) rfl ?_
              refine VLog.go0 (n' := 106) rfl rfl (.move _ _ rfl) rfl ?_
              refine VLog.go0 (n' := 107) rfl rfl (Eff.indexRow rfl rfl Try.underlying53 P_sz5 (by first | omega | (simp; done) | (simp; omega)) (by first | omega | (simp; done) | (simp; omega))) rfl ?_
              refine VLog.go0 (n' := 108) rfl rfl (Eff.loadK rfl rfl P_agg5 (by first | omega | (simp; done) | (simp; omega))) rfl ?_
              refine VLog.go0 (n' := 109) rfl rfl (.move _ _ rfl) rfl ?_
              refine VLog.go0 (n' := 110) rfl rfl (.move _ _ rfl) rfl ?_
              refine VLog.go0 (n' := 111) rfl rfl (Eff.indexRowN rfl rfl Try.underlying53 P_sz5 (by first | omega | (simp; done) | (simp; omega))) rfl ?_
              refine VLog.go0 (n' := 112) rfl rfl (Eff.loadK rfl rfl P_agg5 (by first | omega | (simp; done) | (simp; omega))) rfl ?_
              refine VLog.go0 (n' := 113) rfl rfl (Eff.indexRowN rfl rfl Try.underlying53 P_sz5 (by first | omega | (simp; done) | (simp; omega))) rfl ?_
              refine VLog.goS (n' := 114) rfl rfl (Eff.storeK rfl rfl rfl P_sz5 (by first | omega | (simp; done) | (simp; omega))) rfl ?_
              refine VLog.go0 (n' := 115) rfl rfl (Eff.indexRow rfl rfl Try.underlying53 P_sz5 (by first | omega | (simp; done) | (simp; omega)) (by first | omega | (simp; done) | (simp; omega))) rfl ?_
              refine VLog.goS (n' := 116) rfl rfl (Eff.storeK rfl rfl rfl P_sz5 (by first | omega | (simp; done) | (simp; omega))) rfl ?_
              refine VLog.nil ⟨by kernel_rfl, InBlock.go (Then.go ?_)⟩
              refine VCode.region ?_
              refine VList.go0 (n' := 117) rfl rfl (.bin _ _ _ _ _ _ _ _ rfl rfl (bop_add_i64 (by first | omega | (simp; done) | (simp; omega)))) rfl ?_
              refine VList.go0 (n' := 118) rfl rfl (.move _ _ rfl) rfl ?_
              exact VList.nil (Round.go (i + 1, ((D3).set ((i)) ((D3).getD ((((((m : Nat) : Int) - 1) - (i : Int))).toNat) 0)).set ((((((m : Nat) : Int) - 1) - (i : Int))).toNat) ((D3).getD ((i)) 0)) (hok3.step (by omega) (by omega)) (by first | (dsimp only; omega) | omega) (Weak.of (show 0 ≤ 91 by decide) ⟨⟨rfl, rfl⟩, ⟨⟨rfl, rfl⟩, ⟨⟨rfl, rfl⟩, trivial⟩⟩⟩ ⟨⟨rfl, (show 90 < 91 by decide), row_cellsK⟩, trivial⟩))
            · replace hc21 := of_decide_eq_false hc21
              refine VCode.exit (Then.exit (Round.exit (InBlock.here (Then.go ?_))))
              refine VCode.seq ?_
              have hl3 := hok3.len
              have hle3 := hok3.le
              refine VCode.region ?_
              refine VList.go0 (n' := 93) rfl rfl (.move _ _ rfl) rfl ?_
              refine VList.go0 (n' := 94) rfl rfl (Eff.toStrK rfl rfl (by first | omega | (simp; done) | (simp; omega)) (by rw [hok3.fin (by omega), hD]; exact tx_ok8) Try.underlying53 Try.underlying5 Try.underlying9) rfl ?_
              refine VList.go0 (n' := 95) rfl rfl (.assign _ _ rfl) rfl ?_
              refine VList.go0 (n' := 96) rfl rfl (.assign _ _ rfl) rfl ?_
              refine VList.nil (Then.go ?_)
              exact VCode.ret (⟨trivial, [.lit (.string (bytesOf (D3))), numB .i64 (0)], (resVars_cons (resVar_tmp rfl rfl) (resVars_cons (resVar_tmp rfl rfl) resVars_nil)), (by rw [tS_true hc1, txB, txL_sg vA (neg_pos nA sA), ← hD, ← hok3.fin (by omega)]; simp [tE, hc1]; rfl)⟩)
end Go.VL

/- Walks over the Go functions, printed by a program of this session over the kit's print, and by hand. -/
set_option linter.unusedVariables false
set_option linter.unusedSimpArgs false
namespace Go.VL
open Go.Proofs
theorem f62 (s : ByteArray) (hs : s.size ≤ 9223372036854775807) : VF Try.prog 62 [.lit (.string (s))] (dcR s) := by
  refine VF_of P_mixed Try.func62 rfl rfl (by kernel_rfl) ?_
  refine VCode.seq ?_
  refine VCode.region ?_
  refine VList.go0 (n' := 1) rfl rfl (.assign _ _ rfl) rfl ?_
  refine VList.go0 (n' := 2) rfl rfl (.assign _ _ rfl) rfl ?_
  refine VList.go0 (n' := 3) rfl rfl (.assign _ _ rfl) rfl ?_
  refine VList.nil (Then.go ?_)
  refine VCode.join (α := (Bool)) (fun (b : (Bool)) => (0, sl [(0, .b (.lit (.string (s)))), (5, vB (b))], en [])) (fun (b : (Bool)) => b = negS s) ?_ ?_
  · skip
    refine VCode.region ?_
    refine VList.go0 (n' := 4) rfl rfl (.move _ _ rfl) rfl ?_
    refine VList.go0 (n' := 5) rfl rfl (.lenStr _ _ _ rfl Try.underlying9) rfl ?_
    refine VList.go0 (n' := 6) rfl rfl (.bin _ _ _ _ _ _ _ _ rfl rfl rfl) rfl ?_
    refine VList.go0 (n' := 7) rfl rfl (.move _ _ rfl) rfl ?_
    refine VList.split (d := 11) _ rfl (fun hc1 => ?_) (fun hc1 => ?_)
    · replace hc1 := of_decide_eq_true hc1
      refine VList.go0 (n' := 8) rfl rfl (.move _ _ rfl) rfl ?_
      refine VList.go0 (n' := 9) rfl rfl (Eff.indexSN (q := 0) rfl rfl Try.underlying9 (by first | omega | (simp; done) | (simp; omega))) rfl ?_
      refine VList.go0 (n' := 10) rfl rfl (.bin _ _ _ _ _ _ _ _ rfl rfl rfl) rfl ?_
      refine VList.go0 (n' := 11) rfl rfl (.pick _ _ _ _ _ rfl rfl) rfl ?_
      refine VList.go0 (n' := 12) rfl rfl (.assign _ _ rfl) rfl ?_
      exact VList.nil (Joins.go ((at8 (s) (0) == 45)) (neg_in (by omega)) (Weak.of (show 0 ≤ 0 by decide) ⟨⟨rfl, rfl⟩, ⟨⟨rfl, rfl⟩, trivial⟩⟩ trivial))
    · replace hc1 := of_decide_eq_false hc1
      refine VList.skip (n' := 8) rfl rfl rfl ?_
      refine VList.skip (n' := 9) rfl rfl rfl ?_
      refine VList.skip (n' := 10) rfl rfl rfl ?_
      refine VList.go0 (n' := 11) rfl rfl (.pick _ _ _ _ _ rfl rfl) rfl ?_
      refine VList.go0 (n' := 12) rfl rfl (.assign _ _ rfl) rfl ?_
      exact VList.nil (Joins.go (false) (neg_out (by omega)).symm (Weak.of (show 0 ≤ 0 by decide) ⟨⟨rfl, rfl⟩, ⟨⟨rfl, rfl⟩, trivial⟩⟩ trivial))
  · intro b hok
    have hb := hok
    show VCode Try.prog 0 _ 0 (sl [(0, .b (.lit (.string (s)))), (5, vB (b))]) (en []) _
    refine VCode.seq ?_
    refine VCode.region ?_
    refine VList.go0 (n' := 1) rfl rfl (.move _ _ rfl) rfl ?_
    refine VList.go0 (n' := 2) rfl rfl (.assign _ _ rfl) rfl ?_
    refine VList.nil (Then.go ?_)
    refine VCode.join (α := (ByteArray)) (fun (d : (ByteArray)) => (0, sl [(0, .b (.lit (.string (s)))), (5, vB (b)), (6, .b (.lit (.string (d))))], en [])) (fun (d : (ByteArray)) => d = digS s) ?_ ?_
    · skip
      refine VCode.seq ?_
      refine VCode.region ?_
      refine VList.go0 (n' := 3) rfl rfl (.move _ _ rfl) rfl ?_
      refine VList.nil (Then.go ?_)
      refine VCode.cond _ rfl (fun hc2 => ?_) (fun hc2 => ?_)
      · replace hc2 := hc2
        refine VCode.region ?_
        have hsz := neg_size (hb.symm.trans hc2)
        refine VList.go0 (n' := 4) rfl rfl (.move _ _ rfl) rfl ?_
        refine VList.go0 (n' := 5) rfl rfl (Eff.strFromN (q := 1) rfl rfl Try.underlying9 (by first | omega | (simp; done) | (simp; omega))) rfl ?_
        refine VList.go0 (n' := 6) rfl rfl (.assign _ _ rfl) rfl ?_
        exact VList.nil (Joins.go ((s).extract (1) (s).size) (dig_yes (hb.symm.trans hc2)) (Weak.of (show 0 ≤ 0 by decide) ⟨⟨rfl, rfl⟩, ⟨⟨rfl, rfl⟩, ⟨⟨rfl, rfl⟩, trivial⟩⟩⟩ trivial))
      · replace hc2 := hc2
        exact VCode.skip (Joins.go (s) (dig_no (hb.symm.trans hc2)) (Weak.of (show 0 ≤ 0 by decide) ⟨⟨rfl, rfl⟩, ⟨⟨rfl, rfl⟩, ⟨⟨rfl, rfl⟩, trivial⟩⟩⟩ trivial))
    · intro d hok
      have hd := hok
      have hds := digS_size s
      rw [← hd] at hds
      show VCode Try.prog 0 _ 0 (sl [(0, .b (.lit (.string (s)))), (5, vB (b)), (6, .b (.lit (.string (d))))]) (en []) _
      refine VCode.join (α := (Unit)) (fun (u : (Unit)) => (0, sl [(5, vB (b)), (6, .b (.lit (.string (d))))], en [])) (fun (u : (Unit)) => preS s = true) ?_ ?_
      · skip
        refine VCode.seq ?_
        refine VCode.region ?_
        refine VList.go0 (n' := 1) rfl rfl (.move _ _ rfl) rfl ?_
        refine VList.go0 (n' := 2) rfl rfl (.bin _ _ _ _ _ _ _ _ rfl rfl rfl) rfl ?_
        refine VList.go0 (n' := 3) rfl rfl (.move _ _ rfl) rfl ?_
        refine VList.split (d := 22) _ rfl (fun hc3 => ?_) (fun hc3 => ?_)
        · replace hc3 := strEq_t hc3
          refine VList.skip (n' := 4) rfl rfl rfl ?_
          refine VList.skip (n' := 5) rfl rfl rfl ?_
          refine VList.skip (n' := 6) rfl rfl rfl ?_
          refine VList.skip (n' := 7) rfl rfl rfl ?_
          refine VList.skip (n' := 8) rfl rfl rfl ?_
          refine VList.skip (n' := 9) rfl rfl rfl ?_
          refine VList.skip (n' := 10) rfl rfl rfl ?_
          refine VList.go0 (n' := 11) rfl rfl (.pick _ _ _ _ _ rfl rfl) rfl ?_
          refine VList.nil (Then.go ?_)
          refine VCode.cond _ rfl (fun _ => ?_) (fun h_ => Bool.noConfusion h_)
          refine VCode.seq ?_
          refine VCode.region ?_
          refine VList.go0 (n' := 12) rfl rfl (.assign _ _ rfl) rfl ?_
          refine VList.go0 (n' := 13) rfl rfl (.assign _ _ rfl) rfl ?_
          refine VList.go0 (n' := 14) rfl rfl (.assign _ _ rfl) rfl ?_
          refine VList.nil (Then.go ?_)
          exact VCode.ret (Joins.ret (⟨trivial, [.lit (.string ((⟨#[]⟩ : ByteArray))), boolB (false), boolB (false)], (resVars_cons (resVar_tmp rfl rfl) (resVars_cons (resVar_tmp rfl rfl) (resVars_cons (resVar_tmp rfl rfl) resVars_nil))), (by rw [dc_bad (ok_empty (by rw [← hd]; assumption))]; rfl)⟩))
        · replace hc3 := strEq_f hc3
          refine VList.go0 (n' := 4) rfl rfl (.move _ _ rfl) rfl ?_
          have hpos := size_pos hc3
          refine VList.go0 (n' := 5) rfl rfl (Eff.indexSN (q := 0) rfl rfl Try.underlying9 (by first | omega | (simp; done) | (simp; omega))) rfl ?_
          refine VList.go0 (n' := 6) rfl rfl (.bin _ _ _ _ _ _ _ _ rfl rfl rfl) rfl ?_
          refine VList.go0 (n' := 7) rfl rfl (.move _ _ rfl) rfl ?_
          refine VList.split (d := 26) _ rfl (fun hc4 => ?_) (fun hc4 => ?_)
          · replace hc4 := eq_of_beq hc4
            refine VList.go0 (n' := 8) rfl rfl (.move _ _ rfl) rfl ?_
            refine VList.go0 (n' := 9) rfl rfl (.bin _ _ _ _ _ _ _ _ rfl rfl rfl) rfl ?_
            refine VList.go0 (n' := 10) rfl rfl (.pick _ _ _ _ _ rfl rfl) rfl ?_
            refine VList.go0 (n' := 11) rfl rfl (.pick _ _ _ _ _ rfl rfl) rfl ?_
            refine VList.nil (Then.go ?_)
            refine VCode.cond _ rfl (fun hc5 => ?_) (fun hc5 => ?_)
            · replace hc5 := strEq_f (bnot_t hc5)
              refine VCode.seq ?_
              refine VCode.region ?_
              refine VList.go0 (n' := 12) rfl rfl (.assign _ _ rfl) rfl ?_
              refine VList.go0 (n' := 13) rfl rfl (.assign _ _ rfl) rfl ?_
              refine VList.go0 (n' := 14) rfl rfl (.assign _ _ rfl) rfl ?_
              refine VList.nil (Then.go ?_)
              exact VCode.ret (Joins.ret (⟨trivial, [.lit (.string ((⟨#[]⟩ : ByteArray))), boolB (false), boolB (false)], (resVars_cons (resVar_tmp rfl rfl) (resVars_cons (resVar_tmp rfl rfl) (resVars_cons (resVar_tmp rfl rfl) resVars_nil))), (by rw [dc_bad (ok_zero (by rw [← hd]; assumption) (by assumption))]; rfl)⟩))
            · replace hc5 := strEq_t (bnot_f hc5)
              exact VCode.skip (Joins.go (()) (pre_a (by rw [← hd]; assumption) (by assumption)) (Weak.of (show 0 ≤ 0 by decide) ⟨⟨rfl, rfl⟩, ⟨⟨rfl, rfl⟩, trivial⟩⟩ trivial))
          · replace hc4 := ne_of_beq_false hc4
            refine VList.skip (n' := 8) rfl rfl rfl ?_
            refine VList.skip (n' := 9) rfl rfl rfl ?_
            refine VList.go0 (n' := 10) rfl rfl (.pick _ _ _ _ _ rfl rfl) rfl ?_
            refine VList.go0 (n' := 11) rfl rfl (.pick _ _ _ _ _ rfl rfl) rfl ?_
            refine VList.nil (Then.go ?_)
            refine VCode.cond _ rfl (fun h_ => Bool.noConfusion h_) (fun _ => ?_)
            exact VCode.skip (Joins.go (()) (pre_b (by rw [← hd]; assumption) (by rw [← hd]; assumption)) (Weak.of (show 0 ≤ 0 by decide) ⟨⟨rfl, rfl⟩, ⟨⟨rfl, rfl⟩, trivial⟩⟩ trivial))
      · intro u hok
        show VCode Try.prog 0 _ 0 (sl [(5, vB (b)), (6, .b (.lit (.string (d))))]) (en []) _
        refine VCode.seq ?_
        refine VCode.seq ?_
        refine VCode.region ?_
        refine VList.go0 (n' := 1) rfl rfl (.move _ _ rfl) rfl ?_
        refine VList.go0 (n' := 2) rfl rfl (.lenStr _ _ _ rfl Try.underlying9) rfl ?_
        refine VList.go0 (n' := 3) rfl rfl (.move _ _ rfl) rfl ?_
        refine VList.nil (Then.go ?_)
        refine VCode.block ?_
        refine VCode.loop (α := (Nat)) (fun (i : (Nat)) => (0, sl [(5, vB (b)), (6, .b (.lit (.string (d)))), (32, vI .i64 (((d).size : Int))), (33, vI .i64 ((i : Int)))], en [])) (fun (i : (Nat)) => i ≤ d.size ∧ ∀ j, j < i → 48 ≤ at8 d j ∧ at8 d j ≤ 57) (fun (i : (Nat)) => d.size - i) (0) ⟨by omega, fun j hj => by omega⟩ (Weak.of (show 0 ≤ 0 by decide) ⟨⟨rfl, rfl⟩, ⟨⟨rfl, rfl⟩, ⟨⟨rfl, rfl⟩, ⟨⟨rfl, rfl⟩, trivial⟩⟩⟩⟩ trivial) ?_
        intro i hok2
        show VCode Try.prog 0 _ 0 (sl [(5, vB (b)), (6, .b (.lit (.string (d)))), (32, vI .i64 (((d).size : Int))), (33, vI .i64 ((i : Int)))]) (en []) _
        refine VCode.seq ?_
        refine VCode.region ?_
        refine VList.go0 (n' := 1) rfl rfl (.bin _ _ _ _ _ _ _ _ rfl rfl rfl) rfl ?_
        refine VList.nil (Then.go ?_)
        refine VCode.seq ?_
        refine VCode.cond _ rfl (fun hc6 => ?_) (fun hc6 => ?_)
        · replace hc6 := of_decide_eq_true hc6
          refine VCode.skip (Then.go ?_)
          refine VCode.seq ?_
          refine VCode.block ?_
          refine VCode.seq ?_
          have hr := at8_range d i
          refine VCode.region ?_
          refine VList.go0 (n' := 2) rfl rfl (.move _ _ rfl) rfl ?_
          refine VList.go0 (n' := 3) rfl rfl (.assign _ _ rfl) rfl ?_
          refine VList.nil (Then.go ?_)
          refine VCode.seq ?_
          refine VCode.region ?_
          refine VList.go0 (n' := 4) rfl rfl (.move _ _ rfl) rfl ?_
          refine VList.go0 (n' := 5) rfl rfl (.move _ _ rfl) rfl ?_
          refine VList.go0 (n' := 6) rfl rfl (Eff.indexSN (q := i) rfl rfl Try.underlying9 (by first | omega | (simp; done) | (simp; omega))) rfl ?_
          refine VList.go0 (n' := 7) rfl rfl (.bin _ _ _ _ _ _ _ _ rfl rfl rfl) rfl ?_
          refine VList.go0 (n' := 8) rfl rfl (.move _ _ rfl) rfl ?_
          refine VList.split (d := 40) _ rfl (fun hc7 => ?_) (fun hc7 => ?_)
          · replace hc7 := of_decide_eq_true hc7
            refine VList.skip (n' := 9) rfl rfl rfl ?_
            refine VList.skip (n' := 10) rfl rfl rfl ?_
            refine VList.skip (n' := 11) rfl rfl rfl ?_
            refine VList.skip (n' := 12) rfl rfl rfl ?_
            refine VList.go0 (n' := 13) rfl rfl (.pick _ _ _ _ _ rfl rfl) rfl ?_
            refine VList.nil (Then.go ?_)
            refine VCode.cond _ rfl (fun _ => ?_) (fun h_ => Bool.noConfusion h_)
            refine VCode.seq ?_
            refine VCode.region ?_
            refine VList.go0 (n' := 14) rfl rfl (.assign _ _ rfl) rfl ?_
            refine VList.go0 (n' := 15) rfl rfl (.assign _ _ rfl) rfl ?_
            refine VList.go0 (n' := 16) rfl rfl (.assign _ _ rfl) rfl ?_
            refine VList.nil (Then.go ?_)
            exact VCode.ret (InBlock.ret (Then.ret (Round.ret (InBlock.ret (Then.ret (⟨trivial, [.lit (.string ((⟨#[]⟩ : ByteArray))), boolB (false), boolB (false)], (resVars_cons (resVar_tmp rfl rfl) (resVars_cons (resVar_tmp rfl rfl) (resVars_cons (resVar_tmp rfl rfl) resVars_nil))), (by rw [dc_bad (ok_bad (i := i) (by rw [← hd]; omega) (by rw [← hd]; omega))]; rfl)⟩))))))
          · replace hc7 := of_decide_eq_false hc7
            refine VList.go0 (n' := 9) rfl rfl (.move _ _ rfl) rfl ?_
            refine VList.go0 (n' := 10) rfl rfl (.move _ _ rfl) rfl ?_
            refine VList.go0 (n' := 11) rfl rfl (Eff.indexSN (q := i) rfl rfl Try.underlying9 (by first | omega | (simp; done) | (simp; omega))) rfl ?_
            refine VList.go0 (n' := 12) rfl rfl (.bin _ _ _ _ _ _ _ _ rfl rfl rfl) rfl ?_
            refine VList.go0 (n' := 13) rfl rfl (.pick _ _ _ _ _ rfl rfl) rfl ?_
            refine VList.nil (Then.go ?_)
            refine VCode.cond _ rfl (fun hc8 => ?_) (fun hc8 => ?_)
            · replace hc8 := of_decide_eq_true hc8
              refine VCode.seq ?_
              refine VCode.region ?_
              refine VList.go0 (n' := 14) rfl rfl (.assign _ _ rfl) rfl ?_
              refine VList.go0 (n' := 15) rfl rfl (.assign _ _ rfl) rfl ?_
              refine VList.go0 (n' := 16) rfl rfl (.assign _ _ rfl) rfl ?_
              refine VList.nil (Then.go ?_)
              exact VCode.ret (InBlock.ret (Then.ret (Round.ret (InBlock.ret (Then.ret (⟨trivial, [.lit (.string ((⟨#[]⟩ : ByteArray))), boolB (false), boolB (false)], (resVars_cons (resVar_tmp rfl rfl) (resVars_cons (resVar_tmp rfl rfl) (resVars_cons (resVar_tmp rfl rfl) resVars_nil))), (by rw [dc_bad (ok_bad (i := i) (by rw [← hd]; omega) (by rw [← hd]; omega))]; rfl)⟩))))))
            · replace hc8 := of_decide_eq_false hc8
              refine VCode.skip (InBlock.go (Then.go ?_))
              refine VCode.region ?_
              refine VList.go0 (n' := 14) rfl rfl (.bin _ _ _ _ _ _ _ _ rfl rfl (bop_add_i64 (by first | omega | (simp; done) | (simp; omega)))) rfl ?_
              refine VList.go0 (n' := 15) rfl rfl (.move _ _ rfl) rfl ?_
              exact VList.nil (Round.go (i + 1) ⟨by omega, fun j hj => by rcases Nat.lt_or_eq_of_le (Nat.le_of_lt_succ hj) with h | h; exact hok2.2 j h; subst h; omega⟩ (by first | (dsimp only; omega) | omega) (Weak.of (show 0 ≤ 0 by decide) ⟨⟨rfl, rfl⟩, ⟨⟨rfl, rfl⟩, ⟨⟨rfl, rfl⟩, ⟨⟨rfl, rfl⟩, trivial⟩⟩⟩⟩ trivial))
        · replace hc6 := of_decide_eq_false hc6
          refine VCode.exit (Then.exit (Round.exit (InBlock.here (Then.go ?_))))
          refine VCode.seq ?_
          refine VCode.region ?_
          refine VList.go0 (n' := 2) rfl rfl (.move _ _ rfl) rfl ?_
          refine VList.go0 (n' := 3) rfl rfl (.move _ _ rfl) rfl ?_
          refine VList.go0 (n' := 4) rfl rfl (.assign _ _ rfl) rfl ?_
          refine VList.go0 (n' := 5) rfl rfl (.assign _ _ rfl) rfl ?_
          refine VList.go0 (n' := 6) rfl rfl (.assign _ _ rfl) rfl ?_
          refine VList.nil (Then.go ?_)
          exact VCode.ret (⟨trivial, [.lit (.string (d)), boolB (b), boolB (true)], (resVars_cons (resVar_tmp rfl rfl) (resVars_cons (resVar_tmp rfl rfl) (resVars_cons (resVar_tmp rfl rfl) resVars_nil))), (by rw [dc_ok (ok_good hok (fun j hj => by rw [← hd] at hj ⊢; exact hok2.2 j (by omega))), ← hd, ← hb]; rfl)⟩)
theorem f24 (s : ByteArray) (hs : s.size ≤ 9223372036854775807) : VF Try.prog 24 [.lit (.string (s))] (prR s) := by
  refine VF_of P_mixed Try.func24 rfl rfl (by kernel_rfl) ?_
  refine VCode.seq ?_
  refine VCode.region ?_
  refine VList.go1 (n' := 1) rfl rfl (.alloc _ _ P_zero24 (List.cons_ne_nil _ _)) rfl ?_
  refine VList.go0 (n' := 2) rfl rfl (.assign _ _ rfl) rfl ?_
  refine VList.nil (Then.go ?_)
  refine VCode.seq ?_
  refine VCode.region ?_
  refine VList.go0 (n' := 3) rfl rfl (.move _ _ rfl) rfl ?_
  refine VList.go0 (n' := 4) rfl rfl (.callF _ _ _ _ _ _ rfl (ress_cons rfl ress_nil) (f62 _ (by first | omega | (simp; done) | (simp; omega))) rfl) rfl ?_
  refine VList.go0 (n' := 5) rfl rfl (.move _ _ rfl) rfl ?_
  refine VList.go0 (n' := 6) rfl rfl (.extract _ _ _ _ rfl rfl) rfl ?_
  refine VList.go0 (n' := 7) rfl rfl (.extract _ _ _ _ rfl rfl) rfl ?_
  refine VList.go0 (n' := 8) rfl rfl (.extract _ _ _ _ rfl rfl) rfl ?_
  refine VList.go0 (n' := 9) rfl rfl (.assign _ _ rfl) rfl ?_
  refine VList.go0 (n' := 10) rfl rfl (.assign _ _ rfl) rfl ?_
  refine VList.go0 (n' := 11) rfl rfl (.assign _ _ rfl) rfl ?_
  refine VList.nil (Then.go ?_)
  refine VCode.seq ?_
  refine VCode.seq ?_
  refine VCode.region ?_
  refine VList.go0 (n' := 12) rfl rfl (.move _ _ rfl) rfl ?_
  refine VList.go0 (n' := 13) rfl rfl (.un _ _ _ _ _ rfl rfl) rfl ?_
  refine VList.nil (Then.go ?_)
  refine VCode.cond _ rfl (fun hc1 => ?_) (fun hc1 => ?_)
  · replace hc1 := (bnot_t hc1)
    refine VCode.seq ?_
    refine VCode.region ?_
    refine VList.go0 (n' := 14) rfl rfl Eff.int0 rfl ?_
    refine VList.goS (n' := 15) rfl rfl (.store _ _ _ _ _ _ _ rfl rfl rfl rfl P_sz24 (Nat.le_of_ble_eq_true rfl) rfl) rfl ?_
    refine VList.go0 (n' := 16) rfl rfl (.assign _ _ rfl) rfl ?_
    refine VList.nil (Then.go ?_)
    exact VCode.ret (Then.ret (⟨trivial, [.agg [boolB (false), u32S ([])], numB .i64 (3)], (resVars_cons (resVar_cell rfl rfl P_agg24 P_sz24 (Nat.le_of_ble_eq_true rfl) rfl) (resVars_cons (resVar_tmp rfl rfl) resVars_nil)), (by rw [pr_bad hc1]; rfl)⟩))
  · replace hc1 := (bnot_f hc1)
    refine VCode.skip (Then.go ?_)
    refine VCode.seq ?_
    refine VCode.seq ?_
    have hk := hc1
    have hnum : ∀ i, i < (dS s).size → 48 ≤ at8 (dS s) i ∧ at8 (dS s) i ≤ 57 := fun i hi => dS_num hi
    have hds := dS_size s
    refine VCode.region ?_
    refine VList.go0 (n' := 14) rfl rfl (.move _ _ rfl) rfl ?_
    refine VList.go0 (n' := 15) rfl rfl (.lenStr _ _ _ rfl Try.underlying9) rfl ?_
    refine VList.go0 (n' := 16) rfl rfl (.bin _ _ _ _ _ _ _ _ rfl rfl rfl) rfl ?_
    refine VList.nil (Then.go ?_)
    refine VCode.cond _ rfl (fun hc2 => ?_) (fun hc2 => ?_)
    · replace hc2 := of_decide_eq_true hc2
      refine VCode.seq ?_
      refine VCode.region ?_
      refine VList.go0 (n' := 17) rfl rfl Eff.int0 rfl ?_
      refine VList.goS (n' := 18) rfl rfl (.store _ _ _ _ _ _ _ rfl rfl rfl rfl P_sz24 (Nat.le_of_ble_eq_true rfl) rfl) rfl ?_
      refine VList.go0 (n' := 19) rfl rfl (.assign _ _ rfl) rfl ?_
      refine VList.nil (Then.go ?_)
      exact VCode.ret (Then.ret (⟨trivial, [.agg [boolB (false), u32S ([])], numB .i64 (2)], (resVars_cons (resVar_cell rfl rfl P_agg24 P_sz24 (Nat.le_of_ble_eq_true rfl) rfl) (resVars_cons (resVar_tmp rfl rfl) resVars_nil)), (by rw [pr_ok hk, pZ, zR_big (by rw [sg_abs (by have := digits_big hk (by rw [← dS_ok hk]; omega); have := pow_pos 128; unfold limit at *; omega)]; exact digits_big hk (by rw [← dS_ok hk]; omega))]; rfl)⟩))
    · replace hc2 := of_decide_eq_false hc2
      refine VCode.skip (Then.go ?_)
      refine VCode.seq ?_
      refine VCode.region ?_
      refine VList.go0 (n' := 17) rfl rfl (.assign _ _ rfl) rfl ?_
      refine VList.nil (Then.go ?_)
      refine VCode.seq ?_
      refine VCode.seq ?_
      refine VCode.region ?_
      refine VList.go0 (n' := 18) rfl rfl (.assign _ _ rfl) rfl ?_
      refine VList.nil (Then.go ?_)
      refine VCode.block ?_
      refine VCode.loop (α := (Nat) × (List Int)) (fun (x_ : (Nat) × (List Int)) => match x_ with | (i, X) => (1, sl [(2, .ptr 0 (0)), (4, .b (.lit (.string (dS (s))))), (5, vB ((okS (s) && negS (s)))), (7, vS (X)), (8, vI .i64 ((i : Int)))], en [(0, ⟨2, [vB (false), vS ([])], true⟩)])) (fun (x_ : (Nat) × (List Int)) => match x_ with | (i, X) => (norm X ∧ X.length ≤ 1400) ∧ val X = pvn (dS s) i ∧ i ≤ (dS s).size + 9) (fun (x_ : (Nat) × (List Int)) => match x_ with | (i, X) => (dS s).size + 9 - i) (0, []) ⟨⟨⟨ok32_nil, .inl rfl⟩, by simp⟩, rfl, by omega⟩ (Weak.of (show 0 ≤ 1 by decide) ⟨⟨rfl, rfl⟩, ⟨⟨rfl, rfl⟩, ⟨⟨rfl, rfl⟩, ⟨⟨rfl, rfl⟩, ⟨⟨rfl, rfl⟩, trivial⟩⟩⟩⟩⟩ ⟨⟨rfl, (show 0 < 1 by decide), (by intro v_ hv_; simp at hv_; rcases hv_ with rfl | rfl <;> rfl)⟩, trivial⟩) ?_
      rintro ⟨i, X⟩ hok
      obtain ⟨⟨nX, lX⟩, hX, hi⟩ := hok
      have hp := pvn_range hnum i
      show VCode Try.prog 0 _ 1 (sl [(2, .ptr 0 (0)), (4, .b (.lit (.string (dS (s))))), (5, vB ((okS (s) && negS (s)))), (7, vS (X)), (8, vI .i64 ((i : Int)))]) (en [(0, ⟨2, [vB (false), vS ([])], true⟩)]) _
      refine VCode.seq ?_
      refine VCode.seq ?_
      refine VCode.region ?_
      refine VList.go0 (n' := 2) rfl rfl (.move _ _ rfl) rfl ?_
      refine VList.go0 (n' := 3) rfl rfl (.move _ _ rfl) rfl ?_
      refine VList.go0 (n' := 4) rfl rfl (.lenStr _ _ _ rfl Try.underlying9) rfl ?_
      refine VList.go0 (n' := 5) rfl rfl (.bin _ _ _ _ _ _ _ _ rfl rfl rfl) rfl ?_
      refine VList.nil (Then.go ?_)
      refine VCode.cond _ rfl (fun hc3 => ?_) (fun hc3 => ?_)
      · replace hc3 := of_decide_eq_true hc3
        refine VCode.skip (Then.go ?_)
        refine VCode.seq ?_
        refine VCode.block ?_
        refine VCode.seq ?_
        refine VCode.region ?_
        refine VList.go0 (n' := 6) rfl rfl (.assign _ _ rfl) rfl ?_
        refine VList.go0 (n' := 7) rfl rfl (.assign _ _ rfl) rfl ?_
        refine VList.nil (Then.go ?_)
        refine VCode.seq ?_
        refine VCode.seq ?_
        refine VCode.region ?_
        refine VList.go0 (n' := 8) rfl rfl (.move _ _ rfl) rfl ?_
        refine VList.go0 (n' := 9) rfl rfl (.assign _ _ rfl) rfl ?_
        refine VList.nil (Then.go ?_)
        refine VCode.block ?_
        refine VCode.loop (α := (Nat) × (Int) × (Int)) (fun (x_ : (Nat) × (Int) × (Int)) => match x_ with | (k, p, c) => (1, sl [(2, .ptr 0 (0)), (4, .b (.lit (.string (dS (s))))), (5, vB ((okS (s) && negS (s)))), (7, vS (X)), (8, vI .i64 ((i : Int))), (9, vI .u32 (p)), (10, vI .u32 (c)), (11, vI .i64 ((k : Int)))], en [(0, ⟨2, [vB (false), vS ([])], true⟩)])) (fun (x_ : (Nat) × (Int) × (Int)) => match x_ with | (k, p, c) => PartInv (dS s) i k p c) (fun (x_ : (Nat) × (Int) × (Int)) => match x_ with | (k, p, c) => (dS s).size - k) (i, 0, 1) (PartInv.start (by omega)) (Weak.of (show 0 ≤ 1 by decide) ⟨⟨rfl, rfl⟩, ⟨⟨rfl, rfl⟩, ⟨⟨rfl, rfl⟩, ⟨⟨rfl, rfl⟩, ⟨⟨rfl, rfl⟩, ⟨⟨rfl, rfl⟩, ⟨⟨rfl, rfl⟩, ⟨⟨rfl, rfl⟩, trivial⟩⟩⟩⟩⟩⟩⟩⟩ ⟨⟨rfl, (show 0 < 1 by decide), (by intro v_ hv_; simp at hv_; rcases hv_ with rfl | rfl <;> rfl)⟩, trivial⟩) ?_
        rintro ⟨k, p, c⟩ hI
        show VCode Try.prog 0 _ 1 (sl [(2, .ptr 0 (0)), (4, .b (.lit (.string (dS (s))))), (5, vB ((okS (s) && negS (s)))), (7, vS (X)), (8, vI .i64 ((i : Int))), (9, vI .u32 (p)), (10, vI .u32 (c)), (11, vI .i64 ((k : Int)))]) (en [(0, ⟨2, [vB (false), vS ([])], true⟩)]) _
        refine VCode.seq ?_
        refine VCode.seq ?_
        refine VCode.region ?_
        refine VList.go0 (n' := 2) rfl rfl (.move _ _ rfl) rfl ?_
        refine VList.go0 (n' := 3) rfl rfl (.move _ _ rfl) rfl ?_
        refine VList.go0 (n' := 4) rfl rfl (.bin _ _ _ _ _ _ _ _ rfl rfl (bop_add_i64 (by first | omega | (simp; done) | (simp; omega)))) rfl ?_
        refine VList.go0 (n' := 5) rfl rfl (.move _ _ rfl) rfl ?_
        refine VList.go0 (n' := 6) rfl rfl (.lenStr _ _ _ rfl Try.underlying9) rfl ?_
        refine VList.go0 (n' := 7) rfl rfl (.min _ _ _ _ _ _ rfl rfl) rfl ?_
        refine VList.go0 (n' := 8) rfl rfl (.bin _ _ _ _ _ _ _ _ rfl rfl rfl) rfl ?_
        refine VList.nil (Then.go ?_)
        refine VCode.cond _ rfl (fun hc4 => ?_) (fun hc4 => ?_)
        · replace hc4 := of_decide_eq_true hc4
          refine VCode.skip (Then.go ?_)
          refine VCode.seq ?_
          refine VCode.block ?_
          refine VCode.seq ?_
          have hd := hnum k (by split at hc4 <;> omega)
          have hks : k < (dS s).size ∧ k < i + 9 := by split at hc4 <;> omega
          have hc8 := hI.c8 hks.2
          have hp0 := hI.p0
          have hp1 := hI.p1
          have hc9 := hI.c9
          refine VCode.region ?_
          refine VList.go0 (n' := 9) rfl rfl (.move _ _ rfl) rfl ?_
          refine VList.go0 (n' := 10) rfl rfl (.bin _ _ _ _ _ _ _ _ rfl rfl (bop_mul_u32 (by first | omega | (simp; done) | (simp; omega)))) rfl ?_
          refine VList.go0 (n' := 11) rfl rfl (.move _ _ rfl) rfl ?_
          refine VList.go0 (n' := 12) rfl rfl (.move _ _ rfl) rfl ?_
          refine VList.go0 (n' := 13) rfl rfl (Eff.indexSN (q := k) rfl rfl Try.underlying9 (by first | omega | (simp; done) | (simp; omega))) rfl ?_
          refine VList.go0 (n' := 14) rfl rfl (.bin _ _ _ _ _ _ _ _ rfl rfl (bop_sub_u8 (by first | omega | (simp; done) | (simp; omega)))) rfl ?_
          refine VList.go0 (n' := 15) rfl rfl (Eff.convN_u32 rfl Try.underlying5 Try.underlying51 (by first | omega | (simp; done) | (simp; omega))) rfl ?_
          refine VList.go0 (n' := 16) rfl rfl (.bin _ _ _ _ _ _ _ _ rfl rfl (bop_add_u32 (by first | omega | (simp; done) | (simp; omega)))) rfl ?_
          refine VList.go0 (n' := 17) rfl rfl (.assign _ _ rfl) rfl ?_
          refine VList.nil (Then.go ?_)
          refine VCode.region ?_
          refine VList.go0 (n' := 18) rfl rfl (.move _ _ rfl) rfl ?_
          refine VList.go0 (n' := 19) rfl rfl (.bin _ _ _ _ _ _ _ _ rfl rfl (bop_mul_u32 (by first | omega | (simp; done) | (simp; omega)))) rfl ?_
          refine VList.go0 (n' := 20) rfl rfl (.assign _ _ rfl) rfl ?_
          refine VList.nil (InBlock.go (Then.go ?_))
          refine VCode.region ?_
          refine VList.go0 (n' := 21) rfl rfl (.move _ _ rfl) rfl ?_
          refine VList.go0 (n' := 22) rfl rfl (.bin _ _ _ _ _ _ _ _ rfl rfl (bop_add_i64 (by first | omega | (simp; done) | (simp; omega)))) rfl ?_
          refine VList.go0 (n' := 23) rfl rfl (.assign _ _ rfl) rfl ?_
          exact VList.nil (Round.go (k + 1, ((p * 10) + (at8 (dS s) k - 48)), (c * 10)) (hI.step (hnum k (by omega)) (by omega) (by omega)) (by first | (dsimp only; omega) | omega) (Weak.of (show 0 ≤ 1 by decide) ⟨⟨rfl, rfl⟩, ⟨⟨rfl, rfl⟩, ⟨⟨rfl, rfl⟩, ⟨⟨rfl, rfl⟩, ⟨⟨rfl, rfl⟩, ⟨⟨rfl, rfl⟩, ⟨⟨rfl, rfl⟩, ⟨⟨rfl, rfl⟩, trivial⟩⟩⟩⟩⟩⟩⟩⟩ ⟨⟨rfl, (show 0 < 1 by decide), (by intro v_ hv_; simp at hv_; rcases hv_ with rfl | rfl <;> rfl)⟩, trivial⟩))
        · replace hc4 := of_decide_eq_false hc4
          refine VCode.exit (Then.exit (Round.exit (InBlock.here (Then.go ?_))))
          have hp0 := hI.p0
          have hp1 := hI.p1
          have hc9 := hI.c9
          have hke : (dS s).size ≤ k ∨ i + 9 ≤ k := by split at hc4 <;> omega
          have hg := group hX hI hp.1
          have hlen : (dg (val (dg (val X * val [c])) + val (dg (val [p])))).length ≤ 1400 := by have h := ten_len (v := pvn (dS s) k) (i := k) (pvn_range hnum k).1 (pvn_range hnum k).2; rw [← hg, dg_val (norm_dg _)] at h; have := hI.les; omega
          refine VCode.region ?_
          refine VList.go0 (n' := 9) rfl rfl (.move _ _ rfl) rfl ?_
          refine VList.go0 (n' := 10) rfl rfl (.move _ _ rfl) rfl ?_
          refine VList.go1 (n' := 11) rfl rfl (Eff.lits1 rfl Try.underlying22 P_zero51 P_sz51) rfl ?_
          refine VList.goN (n' := 12) rfl rfl (.callV _ _ _ _ _ _ rfl (ress_cons rfl (ress_cons (res_row rfl (by first | omega | (simp; done) | (simp; omega) | (simp [*]; done) | (simp [*]; omega))) ress_nil)) (f63 _ _ (by first | omega | (simp; done) | (simp; omega)) (by first | omega | (simp; done) | (simp; omega)) (nX.1) (ok32_cons.2 ⟨by omega, ok32_nil⟩))) rfl ?_
          refine VList.go0 (n' := 13) rfl rfl (.move _ _ rfl) rfl ?_
          refine VList.go1 (n' := 14) rfl rfl (Eff.lits1 rfl Try.underlying22 P_zero51 P_sz51) rfl ?_
          refine VList.goN (n' := 15) rfl rfl (.callV _ _ _ _ _ _ rfl (ress_cons (res_row rfl (by first | omega | (simp; done) | (simp; omega) | (simp [*]; done) | (simp [*]; omega))) ress_nil) (f64 _ (by first | omega | (simp; done) | (simp; omega)) (ok32_cons.2 ⟨by omega, ok32_nil⟩))) rfl ?_
          refine VList.go0 (n' := 16) rfl rfl (Eff.callV0 rfl (ress_cons rfl (ress_cons rfl ress_nil)) (f52 _ _ (mulw_len nX.1 lX (by omega) (by omega)) (Nat.le_trans (len_le (L := [p]) (ok32_cons.2 ⟨by omega, ok32_nil⟩) (by simp [val]; omega) (by simp [val])) (by simp)) (ok32_dg _) (ok32_dg _)) rfl) rfl ?_
          refine VList.go0 (n' := 17) rfl rfl (.assign _ _ rfl) rfl ?_
          refine VList.nil (InBlock.go (Then.go ?_))
          refine VCode.region ?_
          refine VList.go0 (n' := 18) rfl rfl (.move _ _ rfl) rfl ?_
          refine VList.go0 (n' := 19) rfl rfl (.bin _ _ _ _ _ _ _ _ rfl rfl (bop_add_i64 (by first | omega | (simp; done) | (simp; omega)))) rfl ?_
          refine VList.go0 (n' := 20) rfl rfl (.assign _ _ rfl) rfl ?_
          exact VList.nil (Round.go (i + 9, dg (val (dg (val X * val [c])) + val (dg (val [p])))) ⟨⟨norm_dg _, hlen⟩, by rw [hg]; rcases Nat.lt_or_ge k (i + 9) with h | h; exact pvn_out (by omega) (by omega); rw [show k = i + 9 by have := hI.le9; omega], by omega⟩ (by first | (dsimp only; omega) | omega) (Weak.of (show 0 ≤ 1 by decide) ⟨⟨rfl, rfl⟩, ⟨⟨rfl, rfl⟩, ⟨⟨rfl, rfl⟩, ⟨⟨rfl, rfl⟩, ⟨⟨rfl, rfl⟩, trivial⟩⟩⟩⟩⟩ ⟨⟨rfl, (show 0 < 1 by decide), (by intro v_ hv_; simp at hv_; rcases hv_ with rfl | rfl <;> rfl)⟩, trivial⟩))
      · replace hc3 := of_decide_eq_false hc3
        refine VCode.exit (Then.exit (Round.exit (InBlock.here (Then.go ?_))))
        refine VCode.seq ?_
        have e1 : pvn (dS s) i = pv (bl (digS s)) := by rw [pvn_all (by omega), dS_ok hk]
        refine VCode.region ?_
        refine VList.go0 (n' := 6) rfl rfl (.move _ _ rfl) rfl ?_
        refine VList.go0 (n' := 7) rfl rfl (.move _ _ rfl) rfl ?_
        refine VList.go0 (n' := 8) rfl rfl (Eff.callV0 rfl (ress_cons rfl (ress_cons rfl ress_nil)) (f54 _ _ (by first | omega | (simp; done) | (simp; omega)) (nX.1)) rfl) rfl ?_
        refine VList.go0 (n' := 9) rfl rfl (.extract _ _ _ _ rfl rfl) rfl ?_
        refine VList.go0 (n' := 10) rfl rfl (.extract _ _ _ _ rfl rfl) rfl ?_
        refine VList.goS (n' := 11) rfl rfl (.store _ _ _ _ _ _ _ rfl rfl rfl rfl P_sz24 (Nat.le_of_ble_eq_true rfl) rfl) rfl ?_
        refine VList.go0 (n' := 12) rfl rfl (.assign _ _ rfl) rfl ?_
        refine VList.nil (Then.go ?_)
        exact VCode.ret (⟨trivial, [.agg [boolB (zN (sg ((okS (s) && negS (s))) (val (X)))), u32S (zL (sg ((okS (s) && negS (s))) (val (X))))], numB .i64 (zE (sg ((okS (s) && negS (s))) (val (X))))], (resVars_cons (resVar_cell rfl rfl P_agg24 P_sz24 (Nat.le_of_ble_eq_true rfl) rfl) (resVars_cons (resVar_tmp rfl rfl) resVars_nil)), (by rw [pr_ok hk, pZ, ← e1, ← hX, hk, Bool.true_and]; rfl)⟩)
end Go.VL

/- Walks over the Go functions, printed by a program of this session over the kit's print, and by hand. -/
set_option linter.unusedVariables false
set_option linter.unusedSimpArgs false
namespace Go.VL
open Go.Proofs
theorem f59 (n : Bool) (A : List Int) (m : Bool) (B : List Int) (hA : A.length ≤ 9223372036854775807) (hB : B.length ≤ 9223372036854775807) : VF Try.prog 59 [.agg [boolB (n), u32S (A)], .agg [boolB (m), u32S (B)]] (boolB (sameB n A m B)) := by
  refine VF_of P_mixed Try.func59 rfl rfl (by kernel_rfl) ?_
  refine VCode.seq ?_
  refine VCode.region ?_
  refine VList.go1 (n' := 1) rfl rfl (.box _ _ _ rfl (List.cons_ne_nil _ _) rfl) rfl ?_
  refine VList.go1 (n' := 2) rfl rfl (.box _ _ _ rfl (List.cons_ne_nil _ _) rfl) rfl ?_
  refine VList.go0 (n' := 3) rfl rfl (.assign _ _ rfl) rfl ?_
  refine VList.nil (Then.go ?_)
  refine VCode.join (α := (Unit)) (fun (u : (Unit)) => (2, sl [(2, .ptr 0 (0)), (3, .ptr 1 (0))], en [(0, ⟨2, [vB (n), vS (A)], true⟩), (1, ⟨2, [vB (m), vS (B)], true⟩)])) (fun (u : (Unit)) => n = m ∧ A.length = B.length) ?_ ?_
  · skip
    refine VCode.seq ?_
    refine VCode.region ?_
    refine VList.go0 (n' := 4) rfl rfl (.fieldAddr _ _ _ _ _ _ _ _ rfl P_fld24_0) rfl ?_
    refine VList.go0 (n' := 5) rfl rfl (.load1 _ _ _ _ _ _ rfl rfl P_agg4 rfl) rfl ?_
    refine VList.go0 (n' := 6) rfl rfl (.fieldAddr _ _ _ _ _ _ _ _ rfl P_fld24_0) rfl ?_
    refine VList.go0 (n' := 7) rfl rfl (.load1 _ _ _ _ _ _ rfl rfl P_agg4 rfl) rfl ?_
    refine VList.go0 (n' := 8) rfl rfl (.binB _ _ _ _ _ _ _ _ rfl rfl Try.underlying4 rfl) rfl ?_
    refine VList.go0 (n' := 9) rfl rfl (.move _ _ rfl) rfl ?_
    refine VList.split (d := 11) _ rfl (fun hc1 => ?_) (fun hc1 => ?_)
    · replace hc1 := ne_of_beq_false (bnot_t hc1)
      refine VList.skip (n' := 10) rfl rfl rfl ?_
      refine VList.skip (n' := 11) rfl rfl rfl ?_
      refine VList.skip (n' := 12) rfl rfl rfl ?_
      refine VList.skip (n' := 13) rfl rfl rfl ?_
      refine VList.skip (n' := 14) rfl rfl rfl ?_
      refine VList.skip (n' := 15) rfl rfl rfl ?_
      refine VList.skip (n' := 16) rfl rfl rfl ?_
      refine VList.go0 (n' := 17) rfl rfl (.pick _ _ _ _ _ rfl rfl) rfl ?_
      refine VList.nil (Then.go ?_)
      refine VCode.cond _ rfl (fun _ => ?_) (fun h_ => Bool.noConfusion h_)
      refine VCode.seq ?_
      refine VCode.region ?_
      refine VList.go0 (n' := 18) rfl rfl (.assign _ _ rfl) rfl ?_
      refine VList.nil (Then.go ?_)
      exact VCode.ret (Joins.ret (⟨trivial, [boolB (false)], (resVars_cons (resVar_tmp rfl rfl) resVars_nil), (by rw [sameB_sign (by assumption)]; rfl)⟩))
    · replace hc1 := eq_of_beq (bnot_f hc1)
      refine VList.go0 (n' := 10) rfl rfl (.fieldAddr _ _ _ _ _ _ _ _ rfl P_fld24_1) rfl ?_
      refine VList.go0 (n' := 11) rfl rfl (.load1 _ _ _ _ _ _ rfl rfl P_agg22 rfl) rfl ?_
      refine VList.go0 (n' := 12) rfl rfl (Eff.lenS rfl Try.underlying22) rfl ?_
      refine VList.go0 (n' := 13) rfl rfl (.fieldAddr _ _ _ _ _ _ _ _ rfl P_fld24_1) rfl ?_
      refine VList.go0 (n' := 14) rfl rfl (.load1 _ _ _ _ _ _ rfl rfl P_agg22 rfl) rfl ?_
      refine VList.go0 (n' := 15) rfl rfl (Eff.lenS rfl Try.underlying22) rfl ?_
      refine VList.go0 (n' := 16) rfl rfl (.bin _ _ _ _ _ _ _ _ rfl rfl rfl) rfl ?_
      refine VList.go0 (n' := 17) rfl rfl (.pick _ _ _ _ _ rfl rfl) rfl ?_
      refine VList.nil (Then.go ?_)
      refine VCode.cond _ rfl (fun hc2 => ?_) (fun hc2 => ?_)
      · replace hc2 := bne_iff_ne.1 hc2
        refine VCode.seq ?_
        refine VCode.region ?_
        refine VList.go0 (n' := 18) rfl rfl (.assign _ _ rfl) rfl ?_
        refine VList.nil (Then.go ?_)
        exact VCode.ret (Joins.ret (⟨trivial, [boolB (false)], (resVars_cons (resVar_tmp rfl rfl) resVars_nil), (by rw [sameB_len (by omega)]; rfl)⟩))
      · replace hc2 := bne_eq_false_iff_eq.1 hc2
        exact VCode.skip (Joins.go (()) ⟨by assumption, by omega⟩ (Weak.of (show 0 ≤ 2 by decide) ⟨⟨rfl, rfl⟩, ⟨⟨rfl, rfl⟩, trivial⟩⟩ ⟨⟨rfl, (show 0 < 2 by decide), (by intro v_ hv_; simp at hv_; rcases hv_ with rfl | rfl <;> rfl)⟩, ⟨⟨rfl, (show 1 < 2 by decide), (by intro v_ hv_; simp at hv_; rcases hv_ with rfl | rfl <;> rfl)⟩, trivial⟩⟩))
  · intro u hok
    obtain ⟨hnm, hlen⟩ := hok
    show VCode Try.prog 0 _ 2 (sl [(2, .ptr 0 (0)), (3, .ptr 1 (0))]) (en [(0, ⟨2, [vB (n), vS (A)], true⟩), (1, ⟨2, [vB (m), vS (B)], true⟩)]) _
    refine VCode.seq ?_
    refine VCode.seq ?_
    refine VCode.region ?_
    refine VList.go0 (n' := 3) rfl rfl (.assign _ _ rfl) rfl ?_
    refine VList.nil (Then.go ?_)
    refine VCode.block ?_
    refine VCode.loop (α := (Nat)) (fun (i : (Nat)) => (2, sl [(2, .ptr 0 (0)), (3, .ptr 1 (0)), (5, vI .i64 ((i : Int)))], en [(0, ⟨2, [vB (n), vS (A)], true⟩), (1, ⟨2, [vB (m), vS (B)], true⟩)])) (fun (i : (Nat)) => i ≤ A.length ∧ ∀ j, j < i → A.getD j 0 = B.getD j 0) (fun (i : (Nat)) => A.length - i) (0) ⟨by omega, fun j hj => by omega⟩ (Weak.of (show 0 ≤ 2 by decide) ⟨⟨rfl, rfl⟩, ⟨⟨rfl, rfl⟩, ⟨⟨rfl, rfl⟩, trivial⟩⟩⟩ ⟨⟨rfl, (show 0 < 2 by decide), (by intro v_ hv_; simp at hv_; rcases hv_ with rfl | rfl <;> rfl)⟩, ⟨⟨rfl, (show 1 < 2 by decide), (by intro v_ hv_; simp at hv_; rcases hv_ with rfl | rfl <;> rfl)⟩, trivial⟩⟩) ?_
    intro i hok
    show VCode Try.prog 0 _ 2 (sl [(2, .ptr 0 (0)), (3, .ptr 1 (0)), (5, vI .i64 ((i : Int)))]) (en [(0, ⟨2, [vB (n), vS (A)], true⟩), (1, ⟨2, [vB (m), vS (B)], true⟩)]) _
    refine VCode.seq ?_
    refine VCode.seq ?_
    refine VCode.region ?_
    refine VList.go0 (n' := 3) rfl rfl (.move _ _ rfl) rfl ?_
    refine VList.go0 (n' := 4) rfl rfl (.fieldAddr _ _ _ _ _ _ _ _ rfl P_fld24_1) rfl ?_
    refine VList.go0 (n' := 5) rfl rfl (.load1 _ _ _ _ _ _ rfl rfl P_agg22 rfl) rfl ?_
    refine VList.go0 (n' := 6) rfl rfl (Eff.lenS rfl Try.underlying22) rfl ?_
    refine VList.go0 (n' := 7) rfl rfl (.bin _ _ _ _ _ _ _ _ rfl rfl rfl) rfl ?_
    refine VList.nil (Then.go ?_)
    refine VCode.cond _ rfl (fun hc3 => ?_) (fun hc3 => ?_)
    · replace hc3 := of_decide_eq_true hc3
      refine VCode.skip (Then.go ?_)
      refine VCode.seq ?_
      refine VCode.block ?_
      refine VCode.seq ?_
      refine VCode.draw (by kernel_rfl) ?_
      refine VLog.go0 (n' := 8) rfl rfl (.fieldAddr _ _ _ _ _ _ _ _ rfl P_fld24_1) rfl ?_
      refine VLog.go0 (n' := 9) rfl rfl (.load1 _ _ _ _ _ _ rfl rfl P_agg22 rfl) rfl ?_
      refine VLog.go0 (n' := 10) rfl rfl (.move _ _ rfl) rfl ?_
      refine VLog.go0 (n' := 11) rfl rfl (Eff.indexRdN rfl rfl Try.underlying22 P_sz51 (by first | omega | (simp; done) | (simp; omega))) rfl ?_
      refine VLog.go0 (n' := 12) rfl rfl (.loadRd1 _ _ _ _ rfl P_agg51 rfl) rfl ?_
      refine VLog.go0 (n' := 13) rfl rfl (.fieldAddr _ _ _ _ _ _ _ _ rfl P_fld24_1) rfl ?_
      refine VLog.go0 (n' := 14) rfl rfl (.load1 _ _ _ _ _ _ rfl rfl P_agg22 rfl) rfl ?_
      refine VLog.go0 (n' := 15) rfl rfl (.move _ _ rfl) rfl ?_
      refine VLog.go0 (n' := 16) rfl rfl (Eff.indexRdN rfl rfl Try.underlying22 P_sz51 (by first | omega | (simp; done) | (simp; omega))) rfl ?_
      refine VLog.go0 (n' := 17) rfl rfl (.loadRd1 _ _ _ _ rfl P_agg51 rfl) rfl ?_
      refine VLog.go0 (n' := 18) rfl rfl (.bin _ _ _ _ _ _ _ _ rfl rfl rfl) rfl ?_
      refine VLog.nil ⟨by kernel_rfl, Then.go ?_⟩
      refine VCode.cond _ rfl (fun hc4 => ?_) (fun hc4 => ?_)
      · replace hc4 := bne_iff_ne.1 hc4
        refine VCode.seq ?_
        refine VCode.region ?_
        refine VList.go0 (n' := 19) rfl rfl (.assign _ _ rfl) rfl ?_
        refine VList.nil (Then.go ?_)
        exact VCode.ret (InBlock.ret (Then.ret (Round.ret (InBlock.ret (Then.ret (⟨trivial, [boolB (false)], (resVars_cons (resVar_tmp rfl rfl) resVars_nil), (by rw [sameB_at (i := i) (by omega)]; rfl)⟩))))))
      · replace hc4 := bne_eq_false_iff_eq.1 hc4
        refine VCode.skip (InBlock.go (Then.go ?_))
        refine VCode.region ?_
        refine VList.go0 (n' := 19) rfl rfl (.move _ _ rfl) rfl ?_
        refine VList.go0 (n' := 20) rfl rfl (.bin _ _ _ _ _ _ _ _ rfl rfl (bop_add_i64 (by first | omega | (simp; done) | (simp; omega)))) rfl ?_
        refine VList.go0 (n' := 21) rfl rfl (.assign _ _ rfl) rfl ?_
        exact VList.nil (Round.go (i + 1) ⟨by omega, fun j hj => by rcases Nat.lt_or_eq_of_le (Nat.le_of_lt_succ hj) with h | h; exact hok.2 j h; subst h; omega⟩ (by first | (dsimp only; omega) | omega) (Weak.of (show 0 ≤ 2 by decide) ⟨⟨rfl, rfl⟩, ⟨⟨rfl, rfl⟩, ⟨⟨rfl, rfl⟩, trivial⟩⟩⟩ ⟨⟨rfl, (show 0 < 2 by decide), (by intro v_ hv_; simp at hv_; rcases hv_ with rfl | rfl <;> rfl)⟩, ⟨⟨rfl, (show 1 < 2 by decide), (by intro v_ hv_; simp at hv_; rcases hv_ with rfl | rfl <;> rfl)⟩, trivial⟩⟩))
    · replace hc3 := of_decide_eq_false hc3
      refine VCode.exit (Then.exit (Round.exit (InBlock.here (Then.go ?_))))
      refine VCode.seq ?_
      refine VCode.region ?_
      refine VList.go0 (n' := 8) rfl rfl (.assign _ _ rfl) rfl ?_
      refine VList.nil (Then.go ?_)
      exact VCode.ret (⟨trivial, [boolB (true)], (resVars_cons (resVar_tmp rfl rfl) resVars_nil), (by rw [sameB_yes hnm hlen (fun j hj => hok.2 j (by omega))]; rfl)⟩)
theorem f21 (n : Bool) (A : List Int) (m : Bool) (B : List Int) (hA : A.length ≤ 9223372036854775807) (hB : B.length ≤ 9223372036854775807) : VF Try.prog 21 [.agg [boolB (n), u32S (A)], .agg [boolB (m), u32S (B)]] (boolB (sameB n A m B)) := by
  refine VF_of P_mixed Try.func21 rfl rfl (by kernel_rfl) ?_
  refine VCode.seq ?_
  refine VCode.region ?_
  refine VList.go1 (n' := 1) rfl rfl (.box _ _ _ rfl (List.cons_ne_nil _ _) rfl) rfl ?_
  refine VList.go1 (n' := 2) rfl rfl (.box _ _ _ rfl (List.cons_ne_nil _ _) rfl) rfl ?_
  refine VList.go0 (n' := 3) rfl rfl (.assign _ _ rfl) rfl ?_
  refine VList.nil (Then.go ?_)
  refine VCode.seq ?_
  refine VCode.region ?_
  refine VList.go0 (n' := 4) rfl rfl (.loadS _ _ _ _ _ _ rfl rfl P_agg24 P_sz24 (Nat.le_of_ble_eq_true rfl)) rfl ?_
  refine VList.go0 (n' := 5) rfl rfl (.loadS _ _ _ _ _ _ rfl rfl P_agg24 P_sz24 (Nat.le_of_ble_eq_true rfl)) rfl ?_
  refine VList.go0 (n' := 6) rfl rfl (.callF _ _ _ _ _ _ rfl (ress_cons rfl (ress_cons rfl ress_nil)) (f59 _ _ _ _ (by first | omega | (simp; done) | (simp; omega)) (by first | omega | (simp; done) | (simp; omega))) rfl) rfl ?_
  refine VList.go0 (n' := 7) rfl rfl (.assign _ _ rfl) rfl ?_
  refine VList.nil (Then.go ?_)
  exact VCode.ret (⟨trivial, [boolB ((sameB (n) (A) (m) (B)))], (resVars_cons (resVar_tmp rfl rfl) resVars_nil), rfl⟩)
theorem f26 (neg : Bool) (L : List Int) (hL : L.length ≤ 9223372036854775807) : VF Try.prog 26 [.agg [boolB (neg), u32S (L)]] (boolB (validB neg L)) := by
  refine VF_of P_mixed Try.func26 rfl rfl (by kernel_rfl) ?_
  refine VCode.seq ?_
  refine VCode.region ?_
  refine VList.go1 (n' := 1) rfl rfl (.box _ _ _ rfl (List.cons_ne_nil _ _) rfl) rfl ?_
  refine VList.go0 (n' := 2) rfl rfl (.assign _ _ rfl) rfl ?_
  refine VList.nil (Then.go ?_)
  refine VCode.seq ?_
  refine VCode.seq ?_
  refine VCode.region ?_
  refine VList.go0 (n' := 3) rfl rfl (.fieldAddr _ _ _ _ _ _ _ _ rfl P_fld24_1) rfl ?_
  refine VList.go0 (n' := 4) rfl rfl (.load1 _ _ _ _ _ _ rfl rfl P_agg22 rfl) rfl ?_
  refine VList.go0 (n' := 5) rfl rfl (Eff.lenS rfl Try.underlying22) rfl ?_
  refine VList.go0 (n' := 6) rfl rfl (.bin _ _ _ _ _ _ _ _ rfl rfl rfl) rfl ?_
  refine VList.nil (Then.go ?_)
  refine VCode.cond _ rfl (fun hc1 => ?_) (fun hc1 => ?_)
  · replace hc1 := of_decide_eq_true hc1
    refine VCode.seq ?_
    refine VCode.region ?_
    refine VList.go0 (n' := 7) rfl rfl (.assign _ _ rfl) rfl ?_
    refine VList.nil (Then.go ?_)
    exact VCode.ret (Then.ret (⟨trivial, [boolB (false)], (resVars_cons (resVar_tmp rfl rfl) resVars_nil), (by rw [validB_long (by omega)]; rfl)⟩))
  · replace hc1 := of_decide_eq_false hc1
    refine VCode.skip (Then.go ?_)
    refine VCode.seq ?_
    refine VCode.seq ?_
    refine VCode.region ?_
    refine VList.go0 (n' := 7) rfl rfl (.fieldAddr _ _ _ _ _ _ _ _ rfl P_fld24_1) rfl ?_
    refine VList.go0 (n' := 8) rfl rfl (.load1 _ _ _ _ _ _ rfl rfl P_agg22 rfl) rfl ?_
    refine VList.go0 (n' := 9) rfl rfl (Eff.lenS rfl Try.underlying22) rfl ?_
    refine VList.go0 (n' := 10) rfl rfl (.bin _ _ _ _ _ _ _ _ rfl rfl rfl) rfl ?_
    refine VList.nil (Then.go ?_)
    refine VCode.cond _ rfl (fun hc2 => ?_) (fun hc2 => ?_)
    · replace hc2 := eq_of_beq hc2
      refine VCode.seq ?_
      refine VCode.region ?_
      refine VList.go0 (n' := 11) rfl rfl (.fieldAddr _ _ _ _ _ _ _ _ rfl P_fld24_0) rfl ?_
      refine VList.go0 (n' := 12) rfl rfl (.load1 _ _ _ _ _ _ rfl rfl P_agg4 rfl) rfl ?_
      refine VList.go0 (n' := 13) rfl rfl (.un _ _ _ _ _ rfl rfl) rfl ?_
      refine VList.go0 (n' := 14) rfl rfl (.assign _ _ rfl) rfl ?_
      refine VList.nil (Then.go ?_)
      exact VCode.ret (Then.ret (⟨trivial, [boolB ((!neg))], (resVars_cons (resVar_tmp rfl rfl) resVars_nil), (by rw [validB_nil (by omega)]; rfl)⟩))
    · replace hc2 := ne_of_beq_false hc2
      refine VCode.skip (Then.go ?_)
      refine VCode.seq ?_
      refine VCode.region ?_
      refine VList.go0 (n' := 11) rfl rfl (.fieldAddr _ _ _ _ _ _ _ _ rfl P_fld24_1) rfl ?_
      refine VList.go0 (n' := 12) rfl rfl (.load1 _ _ _ _ _ _ rfl rfl P_agg22 rfl) rfl ?_
      refine VList.go0 (n' := 13) rfl rfl (.fieldAddr _ _ _ _ _ _ _ _ rfl P_fld24_1) rfl ?_
      refine VList.go0 (n' := 14) rfl rfl (.load1 _ _ _ _ _ _ rfl rfl P_agg22 rfl) rfl ?_
      refine VList.go0 (n' := 15) rfl rfl (Eff.lenS rfl Try.underlying22) rfl ?_
      refine VList.go0 (n' := 16) rfl rfl (.bin _ _ _ _ _ _ _ _ rfl rfl (bop_sub_i64 (by first | omega | (simp; done) | (simp; omega)))) rfl ?_
      refine VList.go0 (n' := 17) rfl rfl (Eff.indexRd rfl rfl Try.underlying22 P_sz51 (by first | omega | (simp; done) | (simp; omega)) (by first | omega | (simp; done) | (simp; omega))) rfl ?_
      refine VList.go0 (n' := 18) rfl rfl (.loadRd1 _ _ _ _ rfl P_agg51 rfl) rfl ?_
      refine VList.go0 (n' := 19) rfl rfl (.bin _ _ _ _ _ _ _ _ rfl rfl rfl) rfl ?_
      refine VList.go0 (n' := 20) rfl rfl (.assign _ _ rfl) rfl ?_
      refine VList.nil (Then.go ?_)
      exact VCode.ret (⟨trivial, [boolB (((L).getD ((((L).length : Int) - 1)).toNat 0 != 0))], (resVars_cons (resVar_tmp rfl rfl) resVars_nil), (by rw [validB_some (q := ((((L).length : Int) - 1)).toNat) (by omega) (by omega) (by omega)]; rfl)⟩)
end Go.VL

/- Walks over the Go functions, printed by a program of this session over the kit's print, and by hand. -/
set_option linter.unusedVariables false
set_option linter.unusedSimpArgs false
namespace Go.VL
open Go.Proofs
theorem bop_str_refl (s : ByteArray) : bop .eql (.string s) (.string s) = some (.bool true) := by simp [bop]
theorem len63 {L : List Int} (h : L.length ≤ 128) : L.length ≤ 9223372036854775807 := by omega
theorem w18 : VF Try.prog 18 [intB (zN 7) (zL 7), intB (zN (-2)) (zL (-2))] (.tup [intB (zN (-4)) (zL (-4)), intB (zN (-1)) (zL (-1)), numB .i64 0]) := by
  have h := f18 (zN 7) (zL 7) (zN (-2)) (zL (-2)) (len63 (len_zL _)) (len63 (len_zL _)) (ok32_zL _) (ok32_zL _)
  rw [zOf_z (small_in (by decide) (by decide)), zOf_z (small_in (by decide) (by decide)), valid_zz, valid_zz] at h
  have e1 : (7 : Int).fdiv (-2) = -4 := by decide
  have e2 : (7 : Int).fmod (-2) = -1 := by decide
  rw [dmR_ok (ok := true && true) rfl (by decide) (zE_in.2 (by rw [e1]; exact small_in (by decide) (by decide))), e1, e2] at h
  exact h
theorem w31 : VF Try.prog 31 [intB (zN (-12)) (zL (-12)), intB (zN 18) (zL 18)] (.tup [intB (zN 6) (zL 6), numB .i64 0]) := by
  have h := f31 (zN (-12)) (zL (-12)) (zN 18) (zL 18) (len63 (len_zL _)) (len63 (len_zL _)) (ok32_zL _) (ok32_zL _)
  rw [zOf_z (small_in (by decide) (by decide)), zOf_z (small_in (by decide) (by decide)), valid_zz, valid_zz] at h
  have e1 : ((Int.gcd (-12) 18 : Nat) : Int) = 6 := by decide
  rw [e1, gR_in (ok := true && true) rfl (small_in (by decide) (by decide))] at h
  exact h
theorem w27 : VF Try.prog 27 [intB (zN (-5)) (zL (-5)), numB .i64 (-1)] (.tup [intB (zN (-3)) (zL (-3)), numB .i64 0]) := by
  have h := f27 (zN (-5)) (zL (-5)) (-1) (len63 (len_zL _)) (ok32_zL _) (by decide) (by decide)
  rw [zOf_z (small_in (by decide) (by decide)), valid_zz] at h
  have e1 : shZ (-5) (-1) = -3 := by decide
  rw [e1, gR_in rfl (small_in (by decide) (by decide))] at h
  exact h
theorem w22 : VF Try.prog 22 [intB (zN (-12)) (zL (-12))] (.tup [.lit (.string (⟨#[45, 49, 50]⟩ : ByteArray)), numB .i64 0]) := by
  have h := f22 (zN (-12)) (zL (-12)) (len63 (len_zL _)) (ok32_zL _)
  rw [zOf_z (small_in (by decide) (by decide)), valid_zz, tS_true rfl, txB_m12] at h
  exact h
theorem w24 : VF Try.prog 24 [.lit (.string (⟨#[45, 48]⟩ : ByteArray))] (.tup [intB false [], numB .i64 3]) := by
  have h := f24 ⟨#[45, 48]⟩ (by decide)
  rw [pr_bad okS_m0] at h
  exact h
theorem w21 (n : Bool) (A : List Int) (h : A.length ≤ 9223372036854775807) : VF Try.prog 21 [intB n A, intB n A] (boolB true) := by
  have h := f21 n A n A h h
  rw [sameB_refl] at h
  exact h

theorem f20  : VF Try.prog 20 [] (boolB true) := by
  refine VF_of P_mixed Try.func20 rfl rfl (by kernel_rfl) ?_
  refine VCode.seq ?_
  refine VCode.region ?_
  refine VList.go0 (n' := 1) rfl rfl (.assign _ _ rfl) rfl ?_
  refine VList.nil (Then.go ?_)
  refine VCode.seq ?_
  refine VCode.region ?_
  refine VList.go0 (n' := 2) rfl rfl (Eff.callV0 rfl (ress_cons rfl ress_nil) (f28 _ (by first | omega | (simp; done) | (simp; omega)) (by first | omega | (simp; done) | (simp; omega))) rfl) rfl ?_
  refine VList.go0 (n' := 3) rfl rfl (Eff.callV0 rfl (ress_cons rfl ress_nil) (f28 _ (by first | omega | (simp; done) | (simp; omega)) (by first | omega | (simp; done) | (simp; omega))) rfl) rfl ?_
  refine VList.go0 (n' := 4) rfl rfl (Eff.callV0 rfl (ress_cons rfl (ress_cons rfl ress_nil)) (w18) rfl) rfl ?_
  refine VList.go0 (n' := 5) rfl rfl (.move _ _ rfl) rfl ?_
  refine VList.go0 (n' := 6) rfl rfl (.extract _ _ _ _ rfl rfl) rfl ?_
  refine VList.go0 (n' := 7) rfl rfl (.extract _ _ _ _ rfl rfl) rfl ?_
  refine VList.go0 (n' := 8) rfl rfl (.extract _ _ _ _ rfl rfl) rfl ?_
  refine VList.go1 (n' := 9) rfl rfl (.alloc _ _ P_zero24 (List.cons_ne_nil _ _)) rfl ?_
  refine VList.go1 (n' := 10) rfl rfl (.alloc _ _ P_zero24 (List.cons_ne_nil _ _)) rfl ?_
  refine VList.goS (n' := 11) rfl rfl (.store _ _ _ _ _ _ _ rfl rfl rfl rfl P_sz24 (Nat.le_of_ble_eq_true rfl) rfl) rfl ?_
  refine VList.goS (n' := 12) rfl rfl (.store _ _ _ _ _ _ _ rfl rfl rfl rfl P_sz24 (Nat.le_of_ble_eq_true rfl) rfl) rfl ?_
  refine VList.go0 (n' := 13) rfl rfl (.assign _ _ rfl) rfl ?_
  refine VList.nil (Then.go ?_)
  refine VCode.seq ?_
  refine VCode.region ?_
  refine VList.go0 (n' := 14) rfl rfl (Eff.callV0 rfl (ress_cons rfl ress_nil) (f28 _ (by first | omega | (simp; done) | (simp; omega)) (by first | omega | (simp; done) | (simp; omega))) rfl) rfl ?_
  refine VList.go0 (n' := 15) rfl rfl (Eff.callV0 rfl (ress_cons rfl ress_nil) (f28 _ (by first | omega | (simp; done) | (simp; omega)) (by first | omega | (simp; done) | (simp; omega))) rfl) rfl ?_
  refine VList.go0 (n' := 16) rfl rfl (Eff.callV0 rfl (ress_cons rfl (ress_cons rfl ress_nil)) (w31) rfl) rfl ?_
  refine VList.go0 (n' := 17) rfl rfl (.move _ _ rfl) rfl ?_
  refine VList.go0 (n' := 18) rfl rfl (.extract _ _ _ _ rfl rfl) rfl ?_
  refine VList.go0 (n' := 19) rfl rfl (.extract _ _ _ _ rfl rfl) rfl ?_
  refine VList.go1 (n' := 20) rfl rfl (.alloc _ _ P_zero24 (List.cons_ne_nil _ _)) rfl ?_
  refine VList.goS (n' := 21) rfl rfl (.store _ _ _ _ _ _ _ rfl rfl rfl rfl P_sz24 (Nat.le_of_ble_eq_true rfl) rfl) rfl ?_
  refine VList.go0 (n' := 22) rfl rfl (.assign _ _ rfl) rfl ?_
  refine VList.nil (Then.go ?_)
  refine VCode.seq ?_
  refine VCode.region ?_
  refine VList.go0 (n' := 23) rfl rfl (Eff.callV0 rfl (ress_cons rfl ress_nil) (f28 _ (by first | omega | (simp; done) | (simp; omega)) (by first | omega | (simp; done) | (simp; omega))) rfl) rfl ?_
  refine VList.go0 (n' := 24) rfl rfl (Eff.callV0 rfl (ress_cons rfl (ress_cons rfl ress_nil)) (w27) rfl) rfl ?_
  refine VList.go0 (n' := 25) rfl rfl (.move _ _ rfl) rfl ?_
  refine VList.go0 (n' := 26) rfl rfl (.extract _ _ _ _ rfl rfl) rfl ?_
  refine VList.go0 (n' := 27) rfl rfl (.extract _ _ _ _ rfl rfl) rfl ?_
  refine VList.go1 (n' := 28) rfl rfl (.alloc _ _ P_zero24 (List.cons_ne_nil _ _)) rfl ?_
  refine VList.goS (n' := 29) rfl rfl (.store _ _ _ _ _ _ _ rfl rfl rfl rfl P_sz24 (Nat.le_of_ble_eq_true rfl) rfl) rfl ?_
  refine VList.go0 (n' := 30) rfl rfl (.assign _ _ rfl) rfl ?_
  refine VList.nil (Then.go ?_)
  refine VCode.seq ?_
  refine VCode.region ?_
  refine VList.go0 (n' := 31) rfl rfl (Eff.callV0 rfl (ress_cons rfl ress_nil) (f28 _ (by first | omega | (simp; done) | (simp; omega)) (by first | omega | (simp; done) | (simp; omega))) rfl) rfl ?_
  refine VList.go0 (n' := 32) rfl rfl (.callF _ _ _ _ _ _ rfl (ress_cons rfl ress_nil) (w22) rfl) rfl ?_
  refine VList.go0 (n' := 33) rfl rfl (.move _ _ rfl) rfl ?_
  refine VList.go0 (n' := 34) rfl rfl (.extract _ _ _ _ rfl rfl) rfl ?_
  refine VList.go0 (n' := 35) rfl rfl (.extract _ _ _ _ rfl rfl) rfl ?_
  refine VList.go0 (n' := 36) rfl rfl (.assign _ _ rfl) rfl ?_
  refine VList.go0 (n' := 37) rfl rfl (.assign _ _ rfl) rfl ?_
  refine VList.nil (Then.go ?_)
  refine VCode.seq ?_
  refine VCode.region ?_
  refine VList.go0 (n' := 38) rfl rfl (Eff.callV0 rfl (ress_cons rfl ress_nil) (w24) rfl) rfl ?_
  refine VList.go0 (n' := 39) rfl rfl (.move _ _ rfl) rfl ?_
  refine VList.go0 (n' := 40) rfl rfl (.extract _ _ _ _ rfl rfl) rfl ?_
  refine VList.go0 (n' := 41) rfl rfl (.extract _ _ _ _ rfl rfl) rfl ?_
  refine VList.go1 (n' := 42) rfl rfl (.alloc _ _ P_zero24 (List.cons_ne_nil _ _)) rfl ?_
  refine VList.goS (n' := 43) rfl rfl (.store _ _ _ _ _ _ _ rfl rfl rfl rfl P_sz24 (Nat.le_of_ble_eq_true rfl) rfl) rfl ?_
  refine VList.go0 (n' := 44) rfl rfl (.assign _ _ rfl) rfl ?_
  refine VList.nil (Then.go ?_)
  refine VCode.seq ?_
  refine VCode.draw (by kernel_rfl) ?_
  refine VLog.go0 (n' := 45) rfl rfl (.move _ _ rfl) rfl ?_
  refine VLog.go0 (n' := 46) rfl rfl (.bin _ _ _ _ _ _ _ (.bool true) rfl rfl rfl) rfl ?_
  refine VLog.go0 (n' := 47) rfl rfl (.move _ _ rfl) rfl ?_
  refine VLog.go0 (n' := 48) rfl rfl (.loadS _ _ _ _ _ _ rfl rfl P_agg24 P_sz24 (Nat.le_of_ble_eq_true rfl)) rfl ?_
  refine VLog.go0 (n' := 49) rfl rfl (Eff.callV0 rfl (ress_cons rfl ress_nil) (f28 _ (by first | omega | (simp; done) | (simp; omega)) (by first | omega | (simp; done) | (simp; omega))) rfl) rfl ?_
  refine VLog.go0 (n' := 50) rfl rfl (.callF _ _ _ _ _ _ rfl (ress_cons rfl (ress_cons rfl ress_nil)) (w21 _ _ (len63 (len_zL _))) rfl) rfl ?_
  refine VLog.go0 (n' := 51) rfl rfl (.pick _ _ _ _ _ rfl rfl) rfl ?_
  refine VLog.go0 (n' := 52) rfl rfl (.move _ _ rfl) rfl ?_
  refine VLog.go0 (n' := 53) rfl rfl (.loadS _ _ _ _ _ _ rfl rfl P_agg24 P_sz24 (Nat.le_of_ble_eq_true rfl)) rfl ?_
  refine VLog.go0 (n' := 54) rfl rfl (Eff.callV0 rfl (ress_cons rfl ress_nil) (f28 _ (by first | omega | (simp; done) | (simp; omega)) (by first | omega | (simp; done) | (simp; omega))) rfl) rfl ?_
  refine VLog.go0 (n' := 55) rfl rfl (.callF _ _ _ _ _ _ rfl (ress_cons rfl (ress_cons rfl ress_nil)) (w21 _ _ (len63 (len_zL _))) rfl) rfl ?_
  refine VLog.go0 (n' := 56) rfl rfl (.pick _ _ _ _ _ rfl rfl) rfl ?_
  refine VLog.go0 (n' := 57) rfl rfl (.move _ _ rfl) rfl ?_
  refine VLog.go0 (n' := 58) rfl rfl (.move _ _ rfl) rfl ?_
  refine VLog.go0 (n' := 59) rfl rfl (.bin _ _ _ _ _ _ _ (.bool true) rfl rfl rfl) rfl ?_
  refine VLog.go0 (n' := 60) rfl rfl (.pick _ _ _ _ _ rfl rfl) rfl ?_
  refine VLog.go0 (n' := 61) rfl rfl (.move _ _ rfl) rfl ?_
  refine VLog.go0 (n' := 62) rfl rfl (.loadS _ _ _ _ _ _ rfl rfl P_agg24 P_sz24 (Nat.le_of_ble_eq_true rfl)) rfl ?_
  refine VLog.go0 (n' := 63) rfl rfl (Eff.callV0 rfl (ress_cons rfl ress_nil) (f28 _ (by first | omega | (simp; done) | (simp; omega)) (by first | omega | (simp; done) | (simp; omega))) rfl) rfl ?_
  refine VLog.go0 (n' := 64) rfl rfl (.callF _ _ _ _ _ _ rfl (ress_cons rfl (ress_cons rfl ress_nil)) (w21 _ _ (len63 (len_zL _))) rfl) rfl ?_
  refine VLog.go0 (n' := 65) rfl rfl (.pick _ _ _ _ _ rfl rfl) rfl ?_
  refine VLog.go0 (n' := 66) rfl rfl (.move _ _ rfl) rfl ?_
  refine VLog.go0 (n' := 67) rfl rfl (.move _ _ rfl) rfl ?_
  refine VLog.go0 (n' := 68) rfl rfl (.bin _ _ _ _ _ _ _ (.bool true) rfl rfl rfl) rfl ?_
  refine VLog.go0 (n' := 69) rfl rfl (.pick _ _ _ _ _ rfl rfl) rfl ?_
  refine VLog.go0 (n' := 70) rfl rfl (.move _ _ rfl) rfl ?_
  refine VLog.go0 (n' := 71) rfl rfl (.loadS _ _ _ _ _ _ rfl rfl P_agg24 P_sz24 (Nat.le_of_ble_eq_true rfl)) rfl ?_
  refine VLog.go0 (n' := 72) rfl rfl (Eff.callV0 rfl (ress_cons rfl ress_nil) (f28 _ (by first | omega | (simp; done) | (simp; omega)) (by first | omega | (simp; done) | (simp; omega))) rfl) rfl ?_
  refine VLog.go0 (n' := 73) rfl rfl (.callF _ _ _ _ _ _ rfl (ress_cons rfl (ress_cons rfl ress_nil)) (w21 _ _ (len63 (len_zL _))) rfl) rfl ?_
  refine VLog.go0 (n' := 74) rfl rfl (.pick _ _ _ _ _ rfl rfl) rfl ?_
  refine VLog.go0 (n' := 75) rfl rfl (.move _ _ rfl) rfl ?_
  refine VLog.go0 (n' := 76) rfl rfl (.move _ _ rfl) rfl ?_
  refine VLog.go0 (n' := 77) rfl rfl (.bin _ _ _ _ _ _ _ (.bool true) rfl rfl rfl) rfl ?_
  refine VLog.go0 (n' := 78) rfl rfl (.pick _ _ _ _ _ rfl rfl) rfl ?_
  refine VLog.go0 (n' := 79) rfl rfl (.move _ _ rfl) rfl ?_
  refine VLog.go0 (n' := 80) rfl rfl (.move _ _ rfl) rfl ?_
  refine VLog.go0 (n' := 81) rfl rfl (.bin _ _ _ _ _ _ _ (.bool true) rfl rfl (bop_str_refl _)) rfl ?_
  refine VLog.go0 (n' := 82) rfl rfl (.pick _ _ _ _ _ rfl rfl) rfl ?_
  refine VLog.go0 (n' := 83) rfl rfl (.move _ _ rfl) rfl ?_
  refine VLog.go0 (n' := 84) rfl rfl (.move _ _ rfl) rfl ?_
  refine VLog.go0 (n' := 85) rfl rfl (.bin _ _ _ _ _ _ _ (.bool true) rfl rfl rfl) rfl ?_
  refine VLog.go0 (n' := 86) rfl rfl (.pick _ _ _ _ _ rfl rfl) rfl ?_
  refine VLog.go0 (n' := 87) rfl rfl (.move _ _ rfl) rfl ?_
  refine VLog.go0 (n' := 88) rfl rfl (.loadS _ _ _ _ _ _ rfl rfl P_agg24 P_sz24 (Nat.le_of_ble_eq_true rfl)) rfl ?_
  refine VLog.go0 (n' := 89) rfl rfl Eff.int0 rfl ?_
  refine VLog.go0 (n' := 90) rfl rfl (.callF _ _ _ _ _ _ rfl (ress_cons rfl (ress_cons rfl ress_nil)) (w21 false [] (Nat.zero_le _)) rfl) rfl ?_
  refine VLog.go0 (n' := 91) rfl rfl (.pick _ _ _ _ _ rfl rfl) rfl ?_
  refine VLog.go0 (n' := 92) rfl rfl (.assign _ _ rfl) rfl ?_
  refine VLog.nil ⟨by kernel_rfl, Then.go ?_⟩
  exact VCode.ret (⟨trivial, [boolB (true)], (resVars_cons (resVar_tmp rfl rfl) resVars_nil), rfl⟩)
end Go.VL

/- Facts of the program's head that the rows ask for. -/
set_option linter.unusedVariables false
set_option maxRecDepth 100000
namespace Go.Proofs.Ytipajnobkladeaa
theorem init_lit : "harness 40dc113aeddbf37bb0a53437d99d42f26c991bec862b5320872c685dbfd23309 cut at straightedge/straightedgelaw01.IntegerQuotients straightedge/straightedgelaw01.IntegerTexts straightedge/straightedgelaw01.IntegerHalves straightedge/straightedgelaw01.IntegerReads straightedge/straightedgelaw01.IntegerProducts straightedge/straightedgelaw01.IntegerEuclid straightedge/straightedgelaw01.IntegerDivisors straightedge/straightedgelaw01.IntegerValid straightedge/straightedgelaw01.IntegerSums straightedge/straightedgelaw01.IntegerRing straightedge/straightedgelaw01.IntegerRoots straightedge/straightedgelaw01.IntegerShifts straightedge/straightedgelaw01.IntegerDivision straightedge/straightedgelaw01.IntegerOrder straightedge/straightedgelaw01.IntegerSquares" = String.ofList ([Char.ofNat 104, Char.ofNat 97, Char.ofNat 114, Char.ofNat 110, Char.ofNat 101, Char.ofNat 115, Char.ofNat 115, Char.ofNat 32, Char.ofNat 52, Char.ofNat 48, Char.ofNat 100, Char.ofNat 99, Char.ofNat 49, Char.ofNat 49, Char.ofNat 51, Char.ofNat 97, Char.ofNat 101, Char.ofNat 100, Char.ofNat 100, Char.ofNat 98, Char.ofNat 102, Char.ofNat 51, Char.ofNat 55, Char.ofNat 98, Char.ofNat 98, Char.ofNat 48, Char.ofNat 97, Char.ofNat 53, Char.ofNat 51, Char.ofNat 52, Char.ofNat 51, Char.ofNat 55, Char.ofNat 100, Char.ofNat 57, Char.ofNat 57, Char.ofNat 100, Char.ofNat 52, Char.ofNat 50, Char.ofNat 102, Char.ofNat 50, Char.ofNat 54, Char.ofNat 99, Char.ofNat 57, Char.ofNat 57, Char.ofNat 49, Char.ofNat 98, Char.ofNat 101, Char.ofNat 99, Char.ofNat 56, Char.ofNat 54, Char.ofNat 50, Char.ofNat 98, Char.ofNat 53, Char.ofNat 51, Char.ofNat 50, Char.ofNat 48, Char.ofNat 56, Char.ofNat 55, Char.ofNat 50, Char.ofNat 99, Char.ofNat 54, Char.ofNat 56, Char.ofNat 53, Char.ofNat 100, Char.ofNat 98, Char.ofNat 102, Char.ofNat 100, Char.ofNat 50, Char.ofNat 51, Char.ofNat 51, Char.ofNat 48, Char.ofNat 57, Char.ofNat 32, Char.ofNat 99, Char.ofNat 117, Char.ofNat 116] ++ Char.ofNat 32 :: [Char.ofNat 97, Char.ofNat 116, Char.ofNat 32, Char.ofNat 115, Char.ofNat 116, Char.ofNat 114, Char.ofNat 97, Char.ofNat 105, Char.ofNat 103, Char.ofNat 104, Char.ofNat 116, Char.ofNat 101, Char.ofNat 100, Char.ofNat 103, Char.ofNat 101, Char.ofNat 47, Char.ofNat 115, Char.ofNat 116, Char.ofNat 114, Char.ofNat 97, Char.ofNat 105, Char.ofNat 103, Char.ofNat 104, Char.ofNat 116, Char.ofNat 101, Char.ofNat 100, Char.ofNat 103, Char.ofNat 101, Char.ofNat 108, Char.ofNat 97, Char.ofNat 119, Char.ofNat 48, Char.ofNat 49, Char.ofNat 46, Char.ofNat 73, Char.ofNat 110, Char.ofNat 116, Char.ofNat 101, Char.ofNat 103, Char.ofNat 101, Char.ofNat 114, Char.ofNat 81, Char.ofNat 117, Char.ofNat 111, Char.ofNat 116, Char.ofNat 105, Char.ofNat 101, Char.ofNat 110, Char.ofNat 116, Char.ofNat 115, Char.ofNat 32, Char.ofNat 115, Char.ofNat 116, Char.ofNat 114, Char.ofNat 97, Char.ofNat 105, Char.ofNat 103, Char.ofNat 104, Char.ofNat 116, Char.ofNat 101, Char.ofNat 100, Char.ofNat 103, Char.ofNat 101, Char.ofNat 47, Char.ofNat 115, Char.ofNat 116, Char.ofNat 114, Char.ofNat 97, Char.ofNat 105, Char.ofNat 103, Char.ofNat 104, Char.ofNat 116, Char.ofNat 101, Char.ofNat 100, Char.ofNat 103, Char.ofNat 101, Char.ofNat 108, Char.ofNat 97, Char.ofNat 119, Char.ofNat 48, Char.ofNat 49, Char.ofNat 46, Char.ofNat 73, Char.ofNat 110, Char.ofNat 116, Char.ofNat 101, Char.ofNat 103, Char.ofNat 101, Char.ofNat 114, Char.ofNat 84, Char.ofNat 101, Char.ofNat 120, Char.ofNat 116, Char.ofNat 115, Char.ofNat 32, Char.ofNat 115, Char.ofNat 116, Char.ofNat 114, Char.ofNat 97, Char.ofNat 105, Char.ofNat 103, Char.ofNat 104, Char.ofNat 116, Char.ofNat 101, Char.ofNat 100, Char.ofNat 103, Char.ofNat 101, Char.ofNat 47, Char.ofNat 115, Char.ofNat 116, Char.ofNat 114, Char.ofNat 97, Char.ofNat 105, Char.ofNat 103, Char.ofNat 104, Char.ofNat 116, Char.ofNat 101, Char.ofNat 100, Char.ofNat 103, Char.ofNat 101, Char.ofNat 108, Char.ofNat 97, Char.ofNat 119, Char.ofNat 48, Char.ofNat 49, Char.ofNat 46, Char.ofNat 73, Char.ofNat 110, Char.ofNat 116, Char.ofNat 101, Char.ofNat 103, Char.ofNat 101, Char.ofNat 114, Char.ofNat 72, Char.ofNat 97, Char.ofNat 108, Char.ofNat 118, Char.ofNat 101, Char.ofNat 115, Char.ofNat 32, Char.ofNat 115, Char.ofNat 116, Char.ofNat 114, Char.ofNat 97, Char.ofNat 105, Char.ofNat 103, Char.ofNat 104, Char.ofNat 116, Char.ofNat 101, Char.ofNat 100, Char.ofNat 103, Char.ofNat 101, Char.ofNat 47, Char.ofNat 115, Char.ofNat 116, Char.ofNat 114, Char.ofNat 97, Char.ofNat 105, Char.ofNat 103, Char.ofNat 104, Char.ofNat 116, Char.ofNat 101, Char.ofNat 100, Char.ofNat 103, Char.ofNat 101, Char.ofNat 108, Char.ofNat 97, Char.ofNat 119, Char.ofNat 48, Char.ofNat 49, Char.ofNat 46, Char.ofNat 73, Char.ofNat 110, Char.ofNat 116, Char.ofNat 101, Char.ofNat 103, Char.ofNat 101, Char.ofNat 114, Char.ofNat 82, Char.ofNat 101, Char.ofNat 97, Char.ofNat 100, Char.ofNat 115, Char.ofNat 32, Char.ofNat 115, Char.ofNat 116, Char.ofNat 114, Char.ofNat 97, Char.ofNat 105, Char.ofNat 103, Char.ofNat 104, Char.ofNat 116, Char.ofNat 101, Char.ofNat 100, Char.ofNat 103, Char.ofNat 101, Char.ofNat 47, Char.ofNat 115, Char.ofNat 116, Char.ofNat 114, Char.ofNat 97, Char.ofNat 105, Char.ofNat 103, Char.ofNat 104, Char.ofNat 116, Char.ofNat 101, Char.ofNat 100, Char.ofNat 103, Char.ofNat 101, Char.ofNat 108, Char.ofNat 97, Char.ofNat 119, Char.ofNat 48, Char.ofNat 49, Char.ofNat 46, Char.ofNat 73, Char.ofNat 110, Char.ofNat 116, Char.ofNat 101, Char.ofNat 103, Char.ofNat 101, Char.ofNat 114, Char.ofNat 80, Char.ofNat 114, Char.ofNat 111, Char.ofNat 100, Char.ofNat 117, Char.ofNat 99, Char.ofNat 116, Char.ofNat 115, Char.ofNat 32, Char.ofNat 115, Char.ofNat 116, Char.ofNat 114, Char.ofNat 97, Char.ofNat 105, Char.ofNat 103, Char.ofNat 104, Char.ofNat 116, Char.ofNat 101, Char.ofNat 100, Char.ofNat 103, Char.ofNat 101, Char.ofNat 47, Char.ofNat 115, Char.ofNat 116, Char.ofNat 114, Char.ofNat 97, Char.ofNat 105, Char.ofNat 103, Char.ofNat 104, Char.ofNat 116, Char.ofNat 101, Char.ofNat 100, Char.ofNat 103, Char.ofNat 101, Char.ofNat 108, Char.ofNat 97, Char.ofNat 119, Char.ofNat 48, Char.ofNat 49, Char.ofNat 46, Char.ofNat 73, Char.ofNat 110, Char.ofNat 116, Char.ofNat 101, Char.ofNat 103, Char.ofNat 101, Char.ofNat 114, Char.ofNat 69, Char.ofNat 117, Char.ofNat 99, Char.ofNat 108, Char.ofNat 105, Char.ofNat 100, Char.ofNat 32, Char.ofNat 115, Char.ofNat 116, Char.ofNat 114, Char.ofNat 97, Char.ofNat 105, Char.ofNat 103, Char.ofNat 104, Char.ofNat 116, Char.ofNat 101, Char.ofNat 100, Char.ofNat 103, Char.ofNat 101, Char.ofNat 47, Char.ofNat 115, Char.ofNat 116, Char.ofNat 114, Char.ofNat 97, Char.ofNat 105, Char.ofNat 103, Char.ofNat 104, Char.ofNat 116, Char.ofNat 101, Char.ofNat 100, Char.ofNat 103, Char.ofNat 101, Char.ofNat 108, Char.ofNat 97, Char.ofNat 119, Char.ofNat 48, Char.ofNat 49, Char.ofNat 46, Char.ofNat 73, Char.ofNat 110, Char.ofNat 116, Char.ofNat 101, Char.ofNat 103, Char.ofNat 101, Char.ofNat 114, Char.ofNat 68, Char.ofNat 105, Char.ofNat 118, Char.ofNat 105, Char.ofNat 115, Char.ofNat 111, Char.ofNat 114, Char.ofNat 115, Char.ofNat 32, Char.ofNat 115, Char.ofNat 116, Char.ofNat 114, Char.ofNat 97, Char.ofNat 105, Char.ofNat 103, Char.ofNat 104, Char.ofNat 116, Char.ofNat 101, Char.ofNat 100, Char.ofNat 103, Char.ofNat 101, Char.ofNat 47, Char.ofNat 115, Char.ofNat 116, Char.ofNat 114, Char.ofNat 97, Char.ofNat 105, Char.ofNat 103, Char.ofNat 104, Char.ofNat 116, Char.ofNat 101, Char.ofNat 100, Char.ofNat 103, Char.ofNat 101, Char.ofNat 108, Char.ofNat 97, Char.ofNat 119, Char.ofNat 48, Char.ofNat 49, Char.ofNat 46, Char.ofNat 73, Char.ofNat 110, Char.ofNat 116, Char.ofNat 101, Char.ofNat 103, Char.ofNat 101, Char.ofNat 114, Char.ofNat 86, Char.ofNat 97, Char.ofNat 108, Char.ofNat 105, Char.ofNat 100, Char.ofNat 32, Char.ofNat 115, Char.ofNat 116, Char.ofNat 114, Char.ofNat 97, Char.ofNat 105, Char.ofNat 103, Char.ofNat 104, Char.ofNat 116, Char.ofNat 101, Char.ofNat 100, Char.ofNat 103, Char.ofNat 101, Char.ofNat 47, Char.ofNat 115, Char.ofNat 116, Char.ofNat 114, Char.ofNat 97, Char.ofNat 105, Char.ofNat 103, Char.ofNat 104, Char.ofNat 116, Char.ofNat 101, Char.ofNat 100, Char.ofNat 103, Char.ofNat 101, Char.ofNat 108, Char.ofNat 97, Char.ofNat 119, Char.ofNat 48, Char.ofNat 49, Char.ofNat 46, Char.ofNat 73, Char.ofNat 110, Char.ofNat 116, Char.ofNat 101, Char.ofNat 103, Char.ofNat 101, Char.ofNat 114, Char.ofNat 83, Char.ofNat 117, Char.ofNat 109, Char.ofNat 115, Char.ofNat 32, Char.ofNat 115, Char.ofNat 116, Char.ofNat 114, Char.ofNat 97, Char.ofNat 105, Char.ofNat 103, Char.ofNat 104, Char.ofNat 116, Char.ofNat 101, Char.ofNat 100, Char.ofNat 103, Char.ofNat 101, Char.ofNat 47, Char.ofNat 115, Char.ofNat 116, Char.ofNat 114, Char.ofNat 97, Char.ofNat 105, Char.ofNat 103, Char.ofNat 104, Char.ofNat 116, Char.ofNat 101, Char.ofNat 100, Char.ofNat 103, Char.ofNat 101, Char.ofNat 108, Char.ofNat 97, Char.ofNat 119, Char.ofNat 48, Char.ofNat 49, Char.ofNat 46, Char.ofNat 73, Char.ofNat 110, Char.ofNat 116, Char.ofNat 101, Char.ofNat 103, Char.ofNat 101, Char.ofNat 114, Char.ofNat 82, Char.ofNat 105, Char.ofNat 110, Char.ofNat 103, Char.ofNat 32, Char.ofNat 115, Char.ofNat 116, Char.ofNat 114, Char.ofNat 97, Char.ofNat 105, Char.ofNat 103, Char.ofNat 104, Char.ofNat 116, Char.ofNat 101, Char.ofNat 100, Char.ofNat 103, Char.ofNat 101, Char.ofNat 47, Char.ofNat 115, Char.ofNat 116, Char.ofNat 114, Char.ofNat 97, Char.ofNat 105, Char.ofNat 103, Char.ofNat 104, Char.ofNat 116, Char.ofNat 101, Char.ofNat 100, Char.ofNat 103, Char.ofNat 101, Char.ofNat 108, Char.ofNat 97, Char.ofNat 119, Char.ofNat 48, Char.ofNat 49, Char.ofNat 46, Char.ofNat 73, Char.ofNat 110, Char.ofNat 116, Char.ofNat 101, Char.ofNat 103, Char.ofNat 101, Char.ofNat 114, Char.ofNat 82, Char.ofNat 111, Char.ofNat 111, Char.ofNat 116, Char.ofNat 115, Char.ofNat 32, Char.ofNat 115, Char.ofNat 116, Char.ofNat 114, Char.ofNat 97, Char.ofNat 105, Char.ofNat 103, Char.ofNat 104, Char.ofNat 116, Char.ofNat 101, Char.ofNat 100, Char.ofNat 103, Char.ofNat 101, Char.ofNat 47, Char.ofNat 115, Char.ofNat 116, Char.ofNat 114, Char.ofNat 97, Char.ofNat 105, Char.ofNat 103, Char.ofNat 104, Char.ofNat 116, Char.ofNat 101, Char.ofNat 100, Char.ofNat 103, Char.ofNat 101, Char.ofNat 108, Char.ofNat 97, Char.ofNat 119, Char.ofNat 48, Char.ofNat 49, Char.ofNat 46, Char.ofNat 73, Char.ofNat 110, Char.ofNat 116, Char.ofNat 101, Char.ofNat 103, Char.ofNat 101, Char.ofNat 114, Char.ofNat 83, Char.ofNat 104, Char.ofNat 105, Char.ofNat 102, Char.ofNat 116, Char.ofNat 115, Char.ofNat 32, Char.ofNat 115, Char.ofNat 116, Char.ofNat 114, Char.ofNat 97, Char.ofNat 105, Char.ofNat 103, Char.ofNat 104, Char.ofNat 116, Char.ofNat 101, Char.ofNat 100, Char.ofNat 103, Char.ofNat 101, Char.ofNat 47, Char.ofNat 115, Char.ofNat 116, Char.ofNat 114, Char.ofNat 97, Char.ofNat 105, Char.ofNat 103, Char.ofNat 104, Char.ofNat 116, Char.ofNat 101, Char.ofNat 100, Char.ofNat 103, Char.ofNat 101, Char.ofNat 108, Char.ofNat 97, Char.ofNat 119, Char.ofNat 48, Char.ofNat 49, Char.ofNat 46, Char.ofNat 73, Char.ofNat 110, Char.ofNat 116, Char.ofNat 101, Char.ofNat 103, Char.ofNat 101, Char.ofNat 114, Char.ofNat 68, Char.ofNat 105, Char.ofNat 118, Char.ofNat 105, Char.ofNat 115, Char.ofNat 105, Char.ofNat 111, Char.ofNat 110, Char.ofNat 32, Char.ofNat 115, Char.ofNat 116, Char.ofNat 114, Char.ofNat 97, Char.ofNat 105, Char.ofNat 103, Char.ofNat 104, Char.ofNat 116, Char.ofNat 101, Char.ofNat 100, Char.ofNat 103, Char.ofNat 101, Char.ofNat 47, Char.ofNat 115, Char.ofNat 116, Char.ofNat 114, Char.ofNat 97, Char.ofNat 105, Char.ofNat 103, Char.ofNat 104, Char.ofNat 116, Char.ofNat 101, Char.ofNat 100, Char.ofNat 103, Char.ofNat 101, Char.ofNat 108, Char.ofNat 97, Char.ofNat 119, Char.ofNat 48, Char.ofNat 49, Char.ofNat 46, Char.ofNat 73, Char.ofNat 110, Char.ofNat 116, Char.ofNat 101, Char.ofNat 103, Char.ofNat 101, Char.ofNat 114, Char.ofNat 79, Char.ofNat 114, Char.ofNat 100, Char.ofNat 101, Char.ofNat 114, Char.ofNat 32, Char.ofNat 115, Char.ofNat 116, Char.ofNat 114, Char.ofNat 97, Char.ofNat 105, Char.ofNat 103, Char.ofNat 104, Char.ofNat 116, Char.ofNat 101, Char.ofNat 100, Char.ofNat 103, Char.ofNat 101, Char.ofNat 47, Char.ofNat 115, Char.ofNat 116, Char.ofNat 114, Char.ofNat 97, Char.ofNat 105, Char.ofNat 103, Char.ofNat 104, Char.ofNat 116, Char.ofNat 101, Char.ofNat 100, Char.ofNat 103, Char.ofNat 101, Char.ofNat 108, Char.ofNat 97, Char.ofNat 119, Char.ofNat 48, Char.ofNat 49, Char.ofNat 46, Char.ofNat 73, Char.ofNat 110, Char.ofNat 116, Char.ofNat 101, Char.ofNat 103, Char.ofNat 101, Char.ofNat 114, Char.ofNat 83, Char.ofNat 113, Char.ofNat 117, Char.ofNat 97, Char.ofNat 114, Char.ofNat 101, Char.ofNat 115]) := rfl
theorem init_gen (X : List Char) : behindMainWord (wordsSigns ([Char.ofNat 104, Char.ofNat 97, Char.ofNat 114, Char.ofNat 110, Char.ofNat 101, Char.ofNat 115, Char.ofNat 115, Char.ofNat 32, Char.ofNat 52, Char.ofNat 48, Char.ofNat 100, Char.ofNat 99, Char.ofNat 49, Char.ofNat 49, Char.ofNat 51, Char.ofNat 97, Char.ofNat 101, Char.ofNat 100, Char.ofNat 100, Char.ofNat 98, Char.ofNat 102, Char.ofNat 51, Char.ofNat 55, Char.ofNat 98, Char.ofNat 98, Char.ofNat 48, Char.ofNat 97, Char.ofNat 53, Char.ofNat 51, Char.ofNat 52, Char.ofNat 51, Char.ofNat 55, Char.ofNat 100, Char.ofNat 57, Char.ofNat 57, Char.ofNat 100, Char.ofNat 52, Char.ofNat 50, Char.ofNat 102, Char.ofNat 50, Char.ofNat 54, Char.ofNat 99, Char.ofNat 57, Char.ofNat 57, Char.ofNat 49, Char.ofNat 98, Char.ofNat 101, Char.ofNat 99, Char.ofNat 56, Char.ofNat 54, Char.ofNat 50, Char.ofNat 98, Char.ofNat 53, Char.ofNat 51, Char.ofNat 50, Char.ofNat 48, Char.ofNat 56, Char.ofNat 55, Char.ofNat 50, Char.ofNat 99, Char.ofNat 54, Char.ofNat 56, Char.ofNat 53, Char.ofNat 100, Char.ofNat 98, Char.ofNat 102, Char.ofNat 100, Char.ofNat 50, Char.ofNat 51, Char.ofNat 51, Char.ofNat 48, Char.ofNat 57, Char.ofNat 32, Char.ofNat 99, Char.ofNat 117, Char.ofNat 116] ++ Char.ofNat 32 :: X)) = [Char.ofNat 99, Char.ofNat 117, Char.ofNat 116] :: wordsSigns X := by rfl
theorem init_words : ∃ R, behindMainWord (wordsSigns Try.pinned.checked.prog.initOrder.toList) = [Char.ofNat 99, Char.ofNat 117, Char.ofNat 116] :: R :=
  ⟨_, (congrArg (fun l => behindMainWord (wordsSigns l)) ((congrArg String.toList init_lit).trans String.toList_ofList)).trans (init_gen _)⟩
theorem strip (R : List (List Char)) : stripLifts liftWords ([Char.ofNat 99, Char.ofNat 117, Char.ofNat 116] :: R) = ([], [Char.ofNat 99, Char.ofNat 117, Char.ofNat 116] :: R) := by rfl
theorem may_gen (P : Program) (R : List (List Char)) (h : behindMainWord (wordsSigns P.initOrder.toList) = [Char.ofNat 99, Char.ofNat 117, Char.ofNat 116] :: R) (h1 : P.laysLater = false) (h2 : P.bearsReflect = false) (h3 : P.doorFits [] = true) : P.mayEnter = true := by
  unfold Program.mayEnter
  rw [h]
  simp only [strip]
  rw [h1, h2, h3]
  rfl
theorem lifts_gen (P : Program) (R : List (List Char)) (h : behindMainWord (wordsSigns P.initOrder.toList) = [Char.ofNat 99, Char.ofNat 117, Char.ofNat 116] :: R) : P.liftsFinal = false := by
  unfold Program.liftsFinal Program.headLifts
  rw [h]
  simp only [strip]
  rfl
theorem make_gen (P : Program) (R : List (List Char)) (h : behindMainWord (wordsSigns P.initOrder.toList) = [Char.ofNat 99, Char.ofNat 117, Char.ofNat 116] :: R) : P.make = some .cut := by
  unfold Program.make
  rw [h]
  rfl
theorem head_may : Try.pinned.checked.prog.mayEnter = true := by
  obtain ⟨R, h⟩ := init_words
  exact may_gen _ R h (by kernel_rfl) (by kernel_rfl) (by kernel_rfl)
theorem head_lifts : Try.pinned.checked.prog.liftsFinal = false := by
  obtain ⟨R, h⟩ := init_words
  exact lifts_gen _ R h
theorem head_make : Try.pinned.checked.prog.make = some .cut := by
  obtain ⟨R, h⟩ := init_words
  exact make_gen _ R h
end Go.Proofs.Ytipajnobkladeaa
