/- A small program logic over the translated Go code, plain laws, and walks over the functions: several texts in one. No condition. -/
import Derived.Test.YtipajnobkladeaaK1
/- Walks over the Go functions, printed by a program of this session over the kit's print, and by hand. -/
set_option linter.unusedVariables false
set_option linter.unusedSimpArgs false
namespace Go.VL
open Go.Proofs
theorem f64 (L : List Int) (hL : L.length ≤ 1000000000) (ho : ok32 L) : VF Try.prog 64 [u32S (L)] (u32S (dg (val L))) := by
  refine VF_of P_mixed Try.func64 rfl rfl (by kernel_rfl) ?_
  refine VCode.seq ?_
  refine VCode.region ?_
  refine VList.go0 (n' := 1) rfl rfl (.assign _ _ rfl) rfl ?_
  refine VList.nil (Then.go ?_)
  refine VCode.seq ?_
  refine VCode.region ?_
  refine VList.go0 (n' := 2) rfl rfl (.move _ _ rfl) rfl ?_
  refine VList.go0 (n' := 3) rfl rfl (Eff.lenS rfl Try.underlying22) rfl ?_
  refine VList.go0 (n' := 4) rfl rfl (.assign _ _ rfl) rfl ?_
  refine VList.nil (Then.go ?_)
  refine VCode.seq ?_
  refine VCode.block ?_
  refine VCode.loop (α := (Int)) (fun (k : (Int)) => (0, sl [(0, vS (L)), (3, vI .i64 (k))], en [])) (fun (k : (Int)) => 0 ≤ k ∧ k ≤ L.length ∧ ∀ i : Nat, k ≤ i → i < L.length → L.getD i 0 = 0) (fun (k : (Int)) => k.toNat) ((L.length : Int)) ⟨by omega, by omega, fun i h1 h2 => by omega⟩ (Weak.of (show 0 ≤ 0 by decide) ⟨⟨rfl, rfl⟩, ⟨⟨rfl, rfl⟩, trivial⟩⟩ trivial) ?_
  intro k hok
  show VCode Try.prog 0 _ 0 (sl [(0, vS (L)), (3, vI .i64 (k))]) (en []) _
  refine VCode.seq ?_
  refine VCode.seq ?_
  refine VCode.region ?_
  refine VList.go0 (n' := 1) rfl rfl (.move _ _ rfl) rfl ?_
  refine VList.go0 (n' := 2) rfl rfl (.bin _ _ _ _ _ _ _ _ rfl rfl rfl) rfl ?_
  refine VList.go0 (n' := 3) rfl rfl (.move _ _ rfl) rfl ?_
  refine VList.split (d := 8) _ rfl (fun hc1 => ?_) (fun hc1 => ?_)
  · replace hc1 := of_decide_eq_true hc1
    refine VList.go0 (n' := 4) rfl rfl (.move _ _ rfl) rfl ?_
    refine VList.go0 (n' := 5) rfl rfl (.move _ _ rfl) rfl ?_
    refine VList.go0 (n' := 6) rfl rfl (.bin _ _ _ _ _ _ _ _ rfl rfl (bop_sub_i64 (by first | omega | (simp; done) | (simp; omega)))) rfl ?_
    refine VList.go0 (n' := 7) rfl rfl (Eff.indexRd rfl rfl Try.underlying22 P_sz51 (by first | omega | (simp; done) | (simp; omega)) (by first | omega | (simp; done) | (simp; omega))) rfl ?_
    refine VList.go0 (n' := 8) rfl rfl (.loadRd1 _ _ _ _ rfl P_agg51 rfl) rfl ?_
    refine VList.go0 (n' := 9) rfl rfl (.bin _ _ _ _ _ _ _ _ rfl rfl rfl) rfl ?_
    refine VList.go0 (n' := 10) rfl rfl (.pick _ _ _ _ _ rfl rfl) rfl ?_
    refine VList.nil (Then.go ?_)
    refine VCode.cond _ rfl (fun hc2 => ?_) (fun hc2 => ?_)
    · replace hc2 := eq_of_beq hc2
      refine VCode.skip (Then.go ?_)
      refine VCode.block ?_
      refine VCode.region ?_
      refine VList.go0 (n' := 11) rfl rfl (.move _ _ rfl) rfl ?_
      refine VList.go0 (n' := 12) rfl rfl (.bin _ _ _ _ _ _ _ _ rfl rfl (bop_sub_i64 (by first | omega | (simp; done) | (simp; omega)))) rfl ?_
      refine VList.go0 (n' := 13) rfl rfl (.assign _ _ rfl) rfl ?_
      exact VList.nil (InBlock.go (Round.go (k - 1) (by obtain ⟨h1, h2, h3⟩ := hok; refine ⟨by omega, by omega, fun i hi hl => ?_⟩; by_cases hq : k ≤ i; exact h3 i hq hl; have e : i = (k - 1).toNat := (by omega); rw [e]; assumption) (by first | (dsimp only; omega) | omega) (Weak.of (show 0 ≤ 0 by decide) ⟨⟨rfl, rfl⟩, ⟨⟨rfl, rfl⟩, trivial⟩⟩ trivial)))
    · replace hc2 := ne_of_beq_false hc2
      refine VCode.exit (Then.exit (Round.exit (InBlock.here (Then.go ?_))))
      refine VCode.seq ?_
      refine VCode.region ?_
      refine VList.go0 (n' := 11) rfl rfl (.move _ _ rfl) rfl ?_
      refine VList.go0 (n' := 12) rfl rfl (.move _ _ rfl) rfl ?_
      refine VList.go0 (n' := 13) rfl rfl (Eff.cutTo rfl rfl Try.underlying22 P_sz51 (by first | omega | (simp; done) | (simp; omega)) (by first | omega | (simp; done) | (simp; omega))) rfl ?_
      refine VList.go0 (n' := 14) rfl rfl (.assign _ _ rfl) rfl ?_
      refine VList.nil (Then.go ?_)
      exact VCode.ret (⟨trivial, [u32S ((L).take (k).toNat)], (resVars_cons (resVar_tmp rfl rfl) resVars_nil), (by rw [dg_take (k := k.toNat) ho (by omega) (fun i h1 h2 => hok.2.2 i (by omega) h2) (.inr (by have e : k.toNat - 1 = (k - 1).toNat := (by omega); rw [e]; assumption))]; rfl)⟩)
  · replace hc1 := of_decide_eq_false hc1
    refine VList.skip (n' := 4) rfl rfl rfl ?_
    refine VList.skip (n' := 5) rfl rfl rfl ?_
    refine VList.skip (n' := 6) rfl rfl rfl ?_
    refine VList.skip (n' := 7) rfl rfl rfl ?_
    refine VList.skip (n' := 8) rfl rfl rfl ?_
    refine VList.skip (n' := 9) rfl rfl rfl ?_
    refine VList.go0 (n' := 10) rfl rfl (.pick _ _ _ _ _ rfl rfl) rfl ?_
    refine VList.nil (Then.go ?_)
    refine VCode.cond _ rfl (fun h_ => Bool.noConfusion h_) (fun _ => ?_)
    refine VCode.exit (Then.exit (Round.exit (InBlock.here (Then.go ?_))))
    refine VCode.seq ?_
    refine VCode.region ?_
    refine VList.go0 (n' := 11) rfl rfl (.move _ _ rfl) rfl ?_
    refine VList.go0 (n' := 12) rfl rfl (.move _ _ rfl) rfl ?_
    refine VList.go0 (n' := 13) rfl rfl (Eff.cutTo rfl rfl Try.underlying22 P_sz51 (by first | omega | (simp; done) | (simp; omega)) (by first | omega | (simp; done) | (simp; omega))) rfl ?_
    refine VList.go0 (n' := 14) rfl rfl (.assign _ _ rfl) rfl ?_
    refine VList.nil (Then.go ?_)
    exact VCode.ret (⟨trivial, [u32S ((L).take (k).toNat)], (resVars_cons (resVar_tmp rfl rfl) resVars_nil), (by rw [dg_take (k := k.toNat) ho (by omega) (fun i h1 h2 => hok.2.2 i (by omega) h2) (.inl (by omega))]; rfl)⟩)
theorem f36 (neg : Bool) (L : List Int) (hL : L.length ≤ 9223372036854775807) : VF Try.prog 36 [.agg [boolB (neg), u32S (L)]] (boolB (validB neg L)) := by
  refine VF_of P_mixed Try.func36 rfl rfl (by kernel_rfl) ?_
  refine VCode.seq ?_
  refine VCode.region ?_
  refine VList.go1 (n' := 1) rfl rfl (.box _ _ _ rfl (List.cons_ne_nil _ _) rfl) rfl ?_
  refine VList.go0 (n' := 2) rfl rfl (.assign _ _ rfl) rfl ?_
  refine VList.nil (Then.go ?_)
  refine VCode.seq ?_
  refine VCode.region ?_
  refine VList.go0 (n' := 3) rfl rfl (.fieldAddr _ _ _ _ _ _ _ _ rfl P_fld24_1) rfl ?_
  refine VList.go0 (n' := 4) rfl rfl (.load1 _ _ _ _ _ _ rfl rfl P_agg22 rfl) rfl ?_
  refine VList.go0 (n' := 5) rfl rfl (Eff.lenS rfl Try.underlying22) rfl ?_
  refine VList.go0 (n' := 6) rfl rfl (.assign _ _ rfl) rfl ?_
  refine VList.nil (Then.go ?_)
  refine VCode.seq ?_
  refine VCode.seq ?_
  refine VCode.region ?_
  refine VList.go0 (n' := 7) rfl rfl (.move _ _ rfl) rfl ?_
  refine VList.go0 (n' := 8) rfl rfl (.bin _ _ _ _ _ _ _ _ rfl rfl rfl) rfl ?_
  refine VList.nil (Then.go ?_)
  refine VCode.cond _ rfl (fun hc1 => ?_) (fun hc1 => ?_)
  · replace hc1 := eq_of_beq hc1
    refine VCode.seq ?_
    refine VCode.region ?_
    refine VList.go0 (n' := 9) rfl rfl (.fieldAddr _ _ _ _ _ _ _ _ rfl P_fld24_0) rfl ?_
    refine VList.go0 (n' := 10) rfl rfl (.load1 _ _ _ _ _ _ rfl rfl P_agg4 rfl) rfl ?_
    refine VList.go0 (n' := 11) rfl rfl (.un _ _ _ _ _ rfl rfl) rfl ?_
    refine VList.go0 (n' := 12) rfl rfl (.assign _ _ rfl) rfl ?_
    refine VList.nil (Then.go ?_)
    exact VCode.ret (Then.ret (⟨trivial, [boolB ((!neg))], (resVars_cons (resVar_tmp rfl rfl) resVars_nil), (by rw [validB_nil (by omega)]; rfl)⟩))
  · replace hc1 := ne_of_beq_false hc1
    refine VCode.skip (Then.go ?_)
    refine VCode.seq ?_
    refine VCode.region ?_
    refine VList.go0 (n' := 9) rfl rfl (.move _ _ rfl) rfl ?_
    refine VList.go0 (n' := 10) rfl rfl (.bin _ _ _ _ _ _ _ _ rfl rfl rfl) rfl ?_
    refine VList.go0 (n' := 11) rfl rfl (.move _ _ rfl) rfl ?_
    refine VList.split (d := 14) _ rfl (fun hc2 => ?_) (fun hc2 => ?_)
    · replace hc2 := of_decide_eq_true hc2
      refine VList.go0 (n' := 12) rfl rfl (.fieldAddr _ _ _ _ _ _ _ _ rfl P_fld24_1) rfl ?_
      refine VList.go0 (n' := 13) rfl rfl (.load1 _ _ _ _ _ _ rfl rfl P_agg22 rfl) rfl ?_
      refine VList.go0 (n' := 14) rfl rfl (.move _ _ rfl) rfl ?_
      refine VList.go0 (n' := 15) rfl rfl (.bin _ _ _ _ _ _ _ _ rfl rfl (bop_sub_i64 (by first | omega | (simp; done) | (simp; omega)))) rfl ?_
      refine VList.go0 (n' := 16) rfl rfl (Eff.indexRd rfl rfl Try.underlying22 P_sz51 (by first | omega | (simp; done) | (simp; omega)) (by first | omega | (simp; done) | (simp; omega))) rfl ?_
      refine VList.go0 (n' := 17) rfl rfl (.loadRd1 _ _ _ _ rfl P_agg51 rfl) rfl ?_
      refine VList.go0 (n' := 18) rfl rfl (.bin _ _ _ _ _ _ _ _ rfl rfl rfl) rfl ?_
      refine VList.go0 (n' := 19) rfl rfl (.pick _ _ _ _ _ rfl rfl) rfl ?_
      refine VList.go0 (n' := 20) rfl rfl (.assign _ _ rfl) rfl ?_
      refine VList.nil (Then.go ?_)
      exact VCode.ret (⟨trivial, [boolB (((L).getD ((((L).length : Int) - 1)).toNat 0 != 0))], (resVars_cons (resVar_tmp rfl rfl) resVars_nil), (by rw [validB_some (q := ((((L).length : Int) - 1)).toNat) (by omega) (by omega) (by omega)]; rfl)⟩)
    · replace hc2 := of_decide_eq_false hc2
      refine VList.skip (n' := 12) rfl rfl rfl ?_
      refine VList.skip (n' := 13) rfl rfl rfl ?_
      refine VList.skip (n' := 14) rfl rfl rfl ?_
      refine VList.skip (n' := 15) rfl rfl rfl ?_
      refine VList.skip (n' := 16) rfl rfl rfl ?_
      refine VList.skip (n' := 17) rfl rfl rfl ?_
      refine VList.skip (n' := 18) rfl rfl rfl ?_
      refine VList.go0 (n' := 19) rfl rfl (.pick _ _ _ _ _ rfl rfl) rfl ?_
      refine VList.go0 (n' := 20) rfl rfl (.assign _ _ rfl) rfl ?_
      refine VList.nil (Then.go ?_)
      exact VCode.ret (⟨trivial, [boolB (false)], (resVars_cons (resVar_tmp rfl rfl) resVars_nil), (by rw [validB_long (by omega)]; rfl)⟩)
theorem f50 (n : Bool) (A : List Int) (m : Bool) (B : List Int) (hA : A.length ≤ 9223372036854775807) (hB : B.length ≤ 9223372036854775807) : VF Try.prog 50 [.agg [boolB (n), u32S (A)], .agg [boolB (m), u32S (B)]] (boolB (validB n A && validB m B)) := by
  refine VF_of P_mixed Try.func50 rfl rfl (by kernel_rfl) ?_
  refine VCode.seq ?_
  refine VCode.region ?_
  refine VList.go1 (n' := 1) rfl rfl (.box _ _ _ rfl (List.cons_ne_nil _ _) rfl) rfl ?_
  refine VList.go1 (n' := 2) rfl rfl (.box _ _ _ rfl (List.cons_ne_nil _ _) rfl) rfl ?_
  refine VList.go0 (n' := 3) rfl rfl (.assign _ _ rfl) rfl ?_
  refine VList.nil (Then.go ?_)
  refine VCode.seq ?_
  refine VCode.region ?_
  refine VList.go0 (n' := 4) rfl rfl (.loadS _ _ _ _ _ _ rfl rfl P_agg24 P_sz24 (Nat.le_of_ble_eq_true rfl)) rfl ?_
  refine VList.go0 (n' := 5) rfl rfl (.callF _ _ _ _ _ _ rfl (ress_cons rfl ress_nil) (f36 _ _ (by first | omega | (simp; done) | (simp; omega))) rfl) rfl ?_
  refine VList.go0 (n' := 6) rfl rfl (.move _ _ rfl) rfl ?_
  refine VList.split (d := 7) _ rfl (fun hc1 => ?_) (fun hc1 => ?_)
  · replace hc1 := hc1
    refine VList.go0 (n' := 7) rfl rfl (.loadS _ _ _ _ _ _ rfl rfl P_agg24 P_sz24 (Nat.le_of_ble_eq_true rfl)) rfl ?_
    refine VList.go0 (n' := 8) rfl rfl (.callF _ _ _ _ _ _ rfl (ress_cons rfl ress_nil) (f36 _ _ (by first | omega | (simp; done) | (simp; omega))) rfl) rfl ?_
    refine VList.go0 (n' := 9) rfl rfl (.pick _ _ _ _ _ rfl rfl) rfl ?_
    refine VList.go0 (n' := 10) rfl rfl (.assign _ _ rfl) rfl ?_
    refine VList.nil (Then.go ?_)
    exact VCode.ret (⟨trivial, [boolB ((validB (m) (B)))], (resVars_cons (resVar_tmp rfl rfl) resVars_nil), (by rw [hc1, Bool.true_and]; rfl)⟩)
  · replace hc1 := hc1
    refine VList.skip (n' := 7) rfl rfl rfl ?_
    refine VList.skip (n' := 8) rfl rfl rfl ?_
    refine VList.go0 (n' := 9) rfl rfl (.pick _ _ _ _ _ rfl rfl) rfl ?_
    refine VList.go0 (n' := 10) rfl rfl (.assign _ _ rfl) rfl ?_
    refine VList.nil (Then.go ?_)
    exact VCode.ret (⟨trivial, [boolB (false)], (resVars_cons (resVar_tmp rfl rfl) resVars_nil), (by rw [hc1, Bool.false_and]; rfl)⟩)
theorem f52 (A B : List Int) (hA : A.length ≤ 900000000) (hB : B.length ≤ 900000000) (oA : ok32 A) (oB : ok32 B) : VF Try.prog 52 [u32S (A), u32S (B)] (u32S (dg (val A + val B))) := by
  refine VF_of P_mixed Try.func52 rfl rfl (by kernel_rfl) ?_
  refine VCode.seq ?_
  refine VCode.region ?_
  refine VList.go0 (n' := 1) rfl rfl (.assign _ _ rfl) rfl ?_
  refine VList.nil (Then.go ?_)
  refine VCode.join (α := (List Int) × (List Int)) (fun (x_ : (List Int) × (List Int)) => match x_ with | (X, Y) => (0, sl [(0, vS (X)), (1, vS (Y))], en [])) (fun (x_ : (List Int) × (List Int)) => match x_ with | (X, Y) => (ok32 X ∧ ok32 Y) ∧ Y.length ≤ X.length ∧ X.length ≤ 900000000 ∧ val X + val Y = val A + val B) ?_ ?_
  · skip
    refine VCode.seq ?_
    refine VCode.region ?_
    refine VList.go0 (n' := 2) rfl rfl (.move _ _ rfl) rfl ?_
    refine VList.go0 (n' := 3) rfl rfl (Eff.lenS rfl Try.underlying22) rfl ?_
    refine VList.go0 (n' := 4) rfl rfl (.move _ _ rfl) rfl ?_
    refine VList.go0 (n' := 5) rfl rfl (Eff.lenS rfl Try.underlying22) rfl ?_
    refine VList.go0 (n' := 6) rfl rfl (.bin _ _ _ _ _ _ _ _ rfl rfl rfl) rfl ?_
    refine VList.nil (Then.go ?_)
    refine VCode.cond _ rfl (fun hc1 => ?_) (fun hc1 => ?_)
    · replace hc1 := of_decide_eq_true hc1
      refine VCode.region ?_
      refine VList.go0 (n' := 7) rfl rfl (.move _ _ rfl) rfl ?_
      refine VList.go0 (n' := 8) rfl rfl (.move _ _ rfl) rfl ?_
      refine VList.go0 (n' := 9) rfl rfl (.assign _ _ rfl) rfl ?_
      refine VList.go0 (n' := 10) rfl rfl (.assign _ _ rfl) rfl ?_
      exact VList.nil (Joins.go (B, A) ⟨⟨oB, oA⟩, by omega, by omega, by omega⟩ (Weak.of (show 0 ≤ 0 by decide) ⟨⟨rfl, rfl⟩, ⟨⟨rfl, rfl⟩, trivial⟩⟩ trivial))
    · replace hc1 := of_decide_eq_false hc1
      exact VCode.skip (Joins.go (A, B) ⟨⟨oA, oB⟩, by omega, by omega, by omega⟩ (Weak.of (show 0 ≤ 0 by decide) ⟨⟨rfl, rfl⟩, ⟨⟨rfl, rfl⟩, trivial⟩⟩ trivial))
  · rintro ⟨X, Y⟩ hok
    obtain ⟨⟨hX, hY⟩, hl, hLX, he⟩ := hok
    show VCode Try.prog 0 _ 0 (sl [(0, vS (X)), (1, vS (Y))]) (en []) _
    refine VCode.seq ?_
    refine VCode.region ?_
    refine VList.go0 (n' := 1) rfl rfl (.move _ _ rfl) rfl ?_
    refine VList.go0 (n' := 2) rfl rfl (Eff.lenS rfl Try.underlying22) rfl ?_
    refine VList.go0 (n' := 3) rfl rfl (.bin _ _ _ _ _ _ _ _ rfl rfl (bop_add_i64 (by first | omega | (simp; done) | (simp; omega)))) rfl ?_
    refine VList.go1 (n' := 4) rfl rfl (Eff.makeRow rfl Try.underlying22 P_zero51 P_sz51 P_bytes51 (by first | omega | (simp; done) | (simp; omega)) (by first | omega | (simp; done) | (simp; omega))) rfl ?_
    refine VList.go0 (n' := 5) rfl rfl (.assign _ _ rfl) rfl ?_
    refine VList.nil (Then.go ?_)
    refine VCode.seq ?_
    refine VCode.region ?_
    refine VList.go0 (n' := 6) rfl rfl (.move _ _ rfl) rfl ?_
    refine VList.go0 (n' := 7) rfl rfl (.move _ _ rfl) rfl ?_
    refine VList.go1 (n' := 8) rfl rfl (Eff.copyRow rfl rfl (by first | omega | (simp; done) | (simp; omega)) rfl rfl Try.underlying22 P_sz51) rfl ?_
    refine VList.nil (Then.go ?_)
    refine VCode.seq ?_
    refine VCode.region ?_
    refine VList.go0 (n' := 9) rfl rfl (.assign _ _ rfl) rfl ?_
    refine VList.nil (Then.go ?_)
    refine VCode.seq ?_
    refine VCode.seq ?_
    refine VCode.region ?_
    refine VList.go0 (n' := 10) rfl rfl (.move _ _ rfl) rfl ?_
    refine VList.go0 (n' := 11) rfl rfl (Eff.lenS rfl Try.underlying22) rfl ?_
    refine VList.go0 (n' := 12) rfl rfl (.move _ _ rfl) rfl ?_
    refine VList.nil (Then.go ?_)
    refine VCode.block ?_
    refine VCode.loop (α := (Nat) × (Int) × (List Int)) (fun (x_ : (Nat) × (Int) × (List Int)) => match x_ with | (n, c, O) => (4, sl [(0, vS (X)), (1, vS (Y)), (5, .own 3 (((((X).length : Int) + 1)).toNat)), (6, vI .u64 (c)), (24, vI .i64 (((X).length : Int))), (25, vI .i64 ((n : Int)))], en [(3, row (O))])) (fun (x_ : (Nat) × (Int) × (List Int)) => match x_ with | (n, c, O) => SumInv X Y O n c) (fun (x_ : (Nat) × (Int) × (List Int)) => match x_ with | (n, c, O) => X.length - n) (0, 0, (X).take (Nat.min (X).length (((X).length : Int) + 1).toNat) ++ (List.replicate (((X).length : Int) + 1).toNat 0).drop (Nat.min (X).length (((X).length : Int) + 1).toNat)) (SumInv.start (by first | omega | (simp; done) | (simp; omega))) (Weak.of (show 0 ≤ 4 by decide) ⟨⟨rfl, rfl⟩, ⟨⟨rfl, rfl⟩, ⟨⟨rfl, rfl⟩, ⟨⟨rfl, rfl⟩, ⟨⟨rfl, rfl⟩, ⟨⟨rfl, rfl⟩, trivial⟩⟩⟩⟩⟩⟩ ⟨⟨rfl, (show 3 < 4 by decide), row_cells⟩, trivial⟩) ?_
    rintro ⟨n, c, O⟩ hok
    show VCode Try.prog 0 _ 4 (sl [(0, vS (X)), (1, vS (Y)), (5, .own 3 (((((X).length : Int) + 1)).toNat)), (6, vI .u64 (c)), (24, vI .i64 (((X).length : Int))), (25, vI .i64 ((n : Int)))]) (en [(3, row (O))]) _
    refine VCode.seq ?_
    refine VCode.region ?_
    refine VList.go0 (n' := 5) rfl rfl (.bin _ _ _ _ _ _ _ _ rfl rfl rfl) rfl ?_
    refine VList.nil (Then.go ?_)
    refine VCode.seq ?_
    refine VCode.cond _ rfl (fun hc2 => ?_) (fun hc2 => ?_)
    · replace hc2 := of_decide_eq_true hc2
      refine VCode.skip (Then.go ?_)
      refine VCode.seq ?_
      refine VCode.block ?_
      refine VCode.seq ?_
      refine VCode.region ?_
      refine VList.go0 (n' := 6) rfl rfl (.move _ _ rfl) rfl ?_
      refine VList.go0 (n' := 7) rfl rfl (.assign _ _ rfl) rfl ?_
      refine VList.nil (Then.go ?_)
      refine VCode.seq ?_
      have hx := ok32_getD hX n
      have hy := ok32_getD hY n
      have h0 := hok.c0
      have h1 := hok.c1
      have hO := hok.len
      refine VCode.region ?_
      refine VList.go0 (n' := 8) rfl rfl (.move _ _ rfl) rfl ?_
      refine VList.go0 (n' := 9) rfl rfl (.move _ _ rfl) rfl ?_
      refine VList.go0 (n' := 10) rfl rfl (Eff.indexRdN rfl rfl Try.underlying22 P_sz51 (by first | omega | (simp; done) | (simp; omega))) rfl ?_
      refine VList.go0 (n' := 11) rfl rfl (.loadRd1 _ _ _ _ rfl P_agg51 rfl) rfl ?_
      refine VList.go0 (n' := 12) rfl rfl (Eff.convN_u64 rfl Try.underlying51 Try.underlying62 (by first | omega | (simp; done) | (simp; omega))) rfl ?_
      refine VList.go0 (n' := 13) rfl rfl (.move _ _ rfl) rfl ?_
      refine VList.go0 (n' := 14) rfl rfl (.bin _ _ _ _ _ _ _ _ rfl rfl (bop_add_u64 (by first | omega | (simp; done) | (simp; omega)))) rfl ?_
      refine VList.go0 (n' := 15) rfl rfl (.assign _ _ rfl) rfl ?_
      refine VList.nil (Then.go ?_)
      refine VCode.seq ?_
      refine VCode.seq ?_
      refine VCode.region ?_
      refine VList.go0 (n' := 16) rfl rfl (.move _ _ rfl) rfl ?_
      refine VList.go0 (n' := 17) rfl rfl (.move _ _ rfl) rfl ?_
      refine VList.go0 (n' := 18) rfl rfl (Eff.lenS rfl Try.underlying22) rfl ?_
      refine VList.go0 (n' := 19) rfl rfl (.bin _ _ _ _ _ _ _ _ rfl rfl rfl) rfl ?_
      refine VList.nil (Then.go ?_)
      refine VCode.cond _ rfl (fun hc3 => ?_) (fun hc3 => ?_)
      · replace hc3 := of_decide_eq_true hc3
        refine VCode.region ?_
        refine VList.go0 (n' := 20) rfl rfl (.move _ _ rfl) rfl ?_
        refine VList.go0 (n' := 21) rfl rfl (.move _ _ rfl) rfl ?_
        refine VList.go0 (n' := 22) rfl rfl (.move _ _ rfl) rfl ?_
        refine VList.go0 (n' := 23) rfl rfl (Eff.indexRdN rfl rfl Try.underlying22 P_sz51 (by first | omega | (simp; done) | (simp; omega))) rfl ?_
        refine VList.go0 (n' := 24) rfl rfl (.loadRd1 _ _ _ _ rfl P_agg51 rfl) rfl ?_
        refine VList.go0 (n' := 25) rfl rfl (Eff.convN_u64 rfl Try.underlying51 Try.underlying62 (by first | omega | (simp; done) | (simp; omega))) rfl ?_
        refine VList.go0 (n' := 26) rfl rfl (.bin _ _ _ _ _ _ _ _ rfl rfl (bop_add_u64 (by first | omega | (simp; done) | (simp; omega)))) rfl ?_
        refine VList.go0 (n' := 27) rfl rfl (.assign _ _ rfl) rfl ?_
        refine VList.nil (Then.go ?_)
        refine VCode.seq ?_
        refine VCode.region ?_
        refine VList.go0 (n' := 28) rfl rfl (.move _ _ rfl) rfl ?_
        refine VList.go0 (n' := 29) rfl rfl (.move _ _ rfl) rfl ?_
        refine VList.go0 (n' := 30) rfl rfl (.move _ _ rfl) rfl ?_
        refine VList.go0 (n' := 31) rfl rfl (Eff.convM_u32 rfl Try.underlying62 Try.underlying51) rfl ?_
        refine VList.go0 (n' := 32) rfl rfl (Eff.indexRowN rfl rfl Try.underlying22 P_sz51 (by first | omega | (simp; done) | (simp; omega))) rfl ?_
        refine VList.goS (n' := 33) rfl rfl (Eff.store32 rfl rfl rfl P_sz51 (by first | omega | (simp; done) | (simp; omega))) rfl ?_
        refine VList.nil (Then.go ?_)
        refine VCode.region ?_
        refine VList.go0 (n' := 34) rfl rfl (.move _ _ rfl) rfl ?_
        refine VList.go0 (n' := 35) rfl rfl (.bin _ _ _ _ _ _ _ _ rfl rfl (bop_shrL_u64 (q := 4294967296) (by decide) (by decide) (by decide))) rfl ?_
        refine VList.go0 (n' := 36) rfl rfl (.assign _ _ rfl) rfl ?_
        refine VList.nil (InBlock.go (Then.go ?_))
        refine VCode.region ?_
        refine VList.go0 (n' := 37) rfl rfl (.bin _ _ _ _ _ _ _ _ rfl rfl (bop_add_i64 (by first | omega | (simp; done) | (simp; omega)))) rfl ?_
        refine VList.go0 (n' := 38) rfl rfl (.move _ _ rfl) rfl ?_
        exact VList.nil (Round.go (n + 1, (X.getD n 0 + c + Y.getD n 0) / 4294967296, O.set n ((X.getD n 0 + c + Y.getD n 0) % 4294967296)) (SumInv.step hX hY hok (by omega) (by first | rfl | (rw [getD_out (L := Y) (by omega)]; omega))) (by first | (dsimp only; omega) | omega) (Weak.of (show 0 ≤ 4 by decide) ⟨⟨rfl, rfl⟩, ⟨⟨rfl, rfl⟩, ⟨⟨rfl, rfl⟩, ⟨⟨rfl, rfl⟩, ⟨⟨rfl, rfl⟩, ⟨⟨rfl, rfl⟩, trivial⟩⟩⟩⟩⟩⟩ ⟨⟨rfl, (show 3 < 4 by decide), row_cells⟩, trivial⟩))
      · replace hc3 := of_decide_eq_false hc3
        refine VCode.skip (Then.go ?_)
        refine VCode.seq ?_
        refine VCode.region ?_
        refine VList.go0 (n' := 20) rfl rfl (.move _ _ rfl) rfl ?_
        refine VList.go0 (n' := 21) rfl rfl (.move _ _ rfl) rfl ?_
        refine VList.go0 (n' := 22) rfl rfl (.move _ _ rfl) rfl ?_
        refine VList.go0 (n' := 23) rfl rfl (Eff.convM_u32 rfl Try.underlying62 Try.underlying51) rfl ?_
        refine VList.go0 (n' := 24) rfl rfl (Eff.indexRowN rfl rfl Try.underlying22 P_sz51 (by first | omega | (simp; done) | (simp; omega))) rfl ?_
        refine VList.goS (n' := 25) rfl rfl (Eff.store32 rfl rfl rfl P_sz51 (by first | omega | (simp; done) | (simp; omega))) rfl ?_
        refine VList.nil (Then.go ?_)
        refine VCode.region ?_
        refine VList.go0 (n' := 26) rfl rfl (.move _ _ rfl) rfl ?_
        refine VList.go0 (n' := 27) rfl rfl (.bin _ _ _ _ _ _ _ _ rfl rfl (bop_shrL_u64 (q := 4294967296) (by decide) (by decide) (by decide))) rfl ?_
        refine VList.go0 (n' := 28) rfl rfl (.assign _ _ rfl) rfl ?_
        refine VList.nil (InBlock.go (Then.go ?_))
        refine VCode.region ?_
        refine VList.go0 (n' := 29) rfl rfl (.bin _ _ _ _ _ _ _ _ rfl rfl (bop_add_i64 (by first | omega | (simp; done) | (simp; omega)))) rfl ?_
        refine VList.go0 (n' := 30) rfl rfl (.move _ _ rfl) rfl ?_
        exact VList.nil (Round.go (n + 1, (X.getD n 0 + c) / 4294967296, O.set n ((X.getD n 0 + c) % 4294967296)) (SumInv.step hX hY hok (by omega) (by first | rfl | (rw [getD_out (L := Y) (by omega)]; omega))) (by first | (dsimp only; omega) | omega) (Weak.of (show 0 ≤ 4 by decide) ⟨⟨rfl, rfl⟩, ⟨⟨rfl, rfl⟩, ⟨⟨rfl, rfl⟩, ⟨⟨rfl, rfl⟩, ⟨⟨rfl, rfl⟩, ⟨⟨rfl, rfl⟩, trivial⟩⟩⟩⟩⟩⟩ ⟨⟨rfl, (show 3 < 4 by decide), row_cells⟩, trivial⟩))
    · replace hc2 := of_decide_eq_false hc2
      refine VCode.exit (Then.exit (Round.exit (InBlock.here (Then.go ?_))))
      refine VCode.seq ?_
      have hn := hok.le
      have hO := hok.len
      obtain ⟨e1, e2⟩ := hok.fin (by omega) hl
      refine VCode.region ?_
      refine VList.go0 (n' := 6) rfl rfl (.move _ _ rfl) rfl ?_
      refine VList.go0 (n' := 7) rfl rfl (.move _ _ rfl) rfl ?_
      refine VList.go0 (n' := 8) rfl rfl (Eff.lenS rfl Try.underlying22) rfl ?_
      refine VList.go0 (n' := 9) rfl rfl (.move _ _ rfl) rfl ?_
      refine VList.go0 (n' := 10) rfl rfl (Eff.convM_u32 rfl Try.underlying62 Try.underlying51) rfl ?_
      refine VList.go0 (n' := 11) rfl rfl (Eff.indexRowN rfl rfl Try.underlying22 P_sz51 (by first | omega | (simp; done) | (simp; omega))) rfl ?_
      refine VList.goS (n' := 12) rfl rfl (Eff.store32 rfl rfl rfl P_sz51 (by first | omega | (simp; done) | (simp; omega))) rfl ?_
      refine VList.nil (Then.go ?_)
      refine VCode.seq ?_
      refine VCode.region ?_
      refine VList.go0 (n' := 13) rfl rfl (.move _ _ rfl) rfl ?_
      refine VList.goN (n' := 14) rfl rfl (.callV _ _ _ _ _ _ rfl (ress_cons (res_row rfl (by first | omega | (simp; done) | (simp; omega) | (simp [*]; done) | (simp [*]; omega))) ress_nil) (f64 _ (by first | omega | (simp; done) | (simp; omega)) (e2))) rfl ?_
      refine VList.go0 (n' := 15) rfl rfl (.assign _ _ rfl) rfl ?_
      refine VList.nil (Then.go ?_)
      exact VCode.ret (⟨trivial, [u32S (dg (val ((O).set (((X).length)) (((c) % 4294967296)))))], (resVars_cons (resVar_tmp rfl rfl) resVars_nil), (by rw [e1, he]; rfl)⟩)
theorem f53 (A B : List Int) (hA : A.length ≤ 900000000) (hB : B.length ≤ 900000000) (oA : ok32 A) (oB : ok32 B) (hl : B.length ≤ A.length) (hv : val B ≤ val A) : VF Try.prog 53 [u32S (A), u32S (B)] (u32S (dg (val A - val B))) := by
  refine VF_of P_mixed Try.func53 rfl rfl (by kernel_rfl) ?_
  refine VCode.seq ?_
  refine VCode.region ?_
  refine VList.go0 (n' := 1) rfl rfl (.assign _ _ rfl) rfl ?_
  refine VList.nil (Then.go ?_)
  refine VCode.seq ?_
  refine VCode.region ?_
  refine VList.go0 (n' := 2) rfl rfl (.move _ _ rfl) rfl ?_
  refine VList.go0 (n' := 3) rfl rfl (Eff.lenS rfl Try.underlying22) rfl ?_
  refine VList.go1 (n' := 4) rfl rfl (Eff.makeRow rfl Try.underlying22 P_zero51 P_sz51 P_bytes51 (by first | omega | (simp; done) | (simp; omega)) (by first | omega | (simp; done) | (simp; omega))) rfl ?_
  refine VList.go0 (n' := 5) rfl rfl (.assign _ _ rfl) rfl ?_
  refine VList.nil (Then.go ?_)
  refine VCode.seq ?_
  refine VCode.region ?_
  refine VList.go0 (n' := 6) rfl rfl (.move _ _ rfl) rfl ?_
  refine VList.go0 (n' := 7) rfl rfl (.move _ _ rfl) rfl ?_
  refine VList.go1 (n' := 8) rfl rfl (Eff.copyRow rfl rfl (by first | omega | (simp; done) | (simp; omega)) rfl rfl Try.underlying22 P_sz51) rfl ?_
  refine VList.nil (Then.go ?_)
  refine VCode.seq ?_
  refine VCode.region ?_
  refine VList.go0 (n' := 9) rfl rfl (.assign _ _ rfl) rfl ?_
  refine VList.nil (Then.go ?_)
  refine VCode.seq ?_
  refine VCode.seq ?_
  refine VCode.region ?_
  refine VList.go0 (n' := 10) rfl rfl (.move _ _ rfl) rfl ?_
  refine VList.go0 (n' := 11) rfl rfl (Eff.lenS rfl Try.underlying22) rfl ?_
  refine VList.go0 (n' := 12) rfl rfl (.move _ _ rfl) rfl ?_
  refine VList.nil (Then.go ?_)
  refine VCode.block ?_
  refine VCode.loop (α := (Nat) × (Int) × (List Int)) (fun (x_ : (Nat) × (Int) × (List Int)) => match x_ with | (n, c, O) => (4, sl [(0, vS (A)), (1, vS (B)), (5, .own 3 ((((A).length : Int)).toNat)), (6, vI .u64 (c)), (16, vI .i64 (((A).length : Int))), (17, vI .i64 ((n : Int)))], en [(3, row (O))])) (fun (x_ : (Nat) × (Int) × (List Int)) => match x_ with | (n, c, O) => DiffInv A B O n c) (fun (x_ : (Nat) × (Int) × (List Int)) => match x_ with | (n, c, O) => A.length - n) (0, 0, (A).take (Nat.min (A).length (((A).length : Int)).toNat) ++ (List.replicate (((A).length : Int)).toNat 0).drop (Nat.min (A).length (((A).length : Int)).toNat)) (DiffInv.start (by simp)) (Weak.of (show 0 ≤ 4 by decide) ⟨⟨rfl, rfl⟩, ⟨⟨rfl, rfl⟩, ⟨⟨rfl, rfl⟩, ⟨⟨rfl, rfl⟩, ⟨⟨rfl, rfl⟩, ⟨⟨rfl, rfl⟩, trivial⟩⟩⟩⟩⟩⟩ ⟨⟨rfl, (show 3 < 4 by decide), row_cells⟩, trivial⟩) ?_
  rintro ⟨n, c, O⟩ hok
  show VCode Try.prog 0 _ 4 (sl [(0, vS (A)), (1, vS (B)), (5, .own 3 ((((A).length : Int)).toNat)), (6, vI .u64 (c)), (16, vI .i64 (((A).length : Int))), (17, vI .i64 ((n : Int)))]) (en [(3, row (O))]) _
  refine VCode.seq ?_
  refine VCode.region ?_
  refine VList.go0 (n' := 5) rfl rfl (.bin _ _ _ _ _ _ _ _ rfl rfl rfl) rfl ?_
  refine VList.nil (Then.go ?_)
  refine VCode.seq ?_
  refine VCode.cond _ rfl (fun hc1 => ?_) (fun hc1 => ?_)
  · replace hc1 := of_decide_eq_true hc1
    refine VCode.skip (Then.go ?_)
    refine VCode.seq ?_
    refine VCode.block ?_
    refine VCode.seq ?_
    refine VCode.region ?_
    refine VList.go0 (n' := 6) rfl rfl (.move _ _ rfl) rfl ?_
    refine VList.go0 (n' := 7) rfl rfl (.assign _ _ rfl) rfl ?_
    refine VList.nil (Then.go ?_)
    refine VCode.seq ?_
    have hx := ok32_getD oA n
    have hy := ok32_getD oB n
    have h0 := hok.c0
    have h1 := hok.c1
    have hO := hok.len
    refine VCode.region ?_
    refine VList.go0 (n' := 8) rfl rfl (.move _ _ rfl) rfl ?_
    refine VList.go0 (n' := 9) rfl rfl (.move _ _ rfl) rfl ?_
    refine VList.go0 (n' := 10) rfl rfl (Eff.indexRdN rfl rfl Try.underlying22 P_sz51 (by first | omega | (simp; done) | (simp; omega))) rfl ?_
    refine VList.go0 (n' := 11) rfl rfl (.loadRd1 _ _ _ _ rfl P_agg51 rfl) rfl ?_
    refine VList.go0 (n' := 12) rfl rfl (Eff.convN_u64 rfl Try.underlying51 Try.underlying62 (by first | omega | (simp; done) | (simp; omega))) rfl ?_
    refine VList.go0 (n' := 13) rfl rfl (.move _ _ rfl) rfl ?_
    refine VList.go0 (n' := 14) rfl rfl (.bin _ _ _ _ _ _ _ (.int .u64 ((((A).getD (n) 0 - c) % 18446744073709551616))) rfl rfl (bopM_sub_u64 _ _)) rfl ?_
    refine VList.go0 (n' := 15) rfl rfl (.assign _ _ rfl) rfl ?_
    refine VList.nil (Then.go ?_)
    refine VCode.seq ?_
    refine VCode.seq ?_
    refine VCode.region ?_
    refine VList.go0 (n' := 16) rfl rfl (.move _ _ rfl) rfl ?_
    refine VList.go0 (n' := 17) rfl rfl (.move _ _ rfl) rfl ?_
    refine VList.go0 (n' := 18) rfl rfl (Eff.lenS rfl Try.underlying22) rfl ?_
    refine VList.go0 (n' := 19) rfl rfl (.bin _ _ _ _ _ _ _ _ rfl rfl rfl) rfl ?_
    refine VList.nil (Then.go ?_)
    refine VCode.cond _ rfl (fun hc2 => ?_) (fun hc2 => ?_)
    · replace hc2 := of_decide_eq_true hc2
      refine VCode.region ?_
      refine VList.go0 (n' := 20) rfl rfl (.move _ _ rfl) rfl ?_
      refine VList.go0 (n' := 21) rfl rfl (.move _ _ rfl) rfl ?_
      refine VList.go0 (n' := 22) rfl rfl (.move _ _ rfl) rfl ?_
      refine VList.go0 (n' := 23) rfl rfl (Eff.indexRdN rfl rfl Try.underlying22 P_sz51 (by first | omega | (simp; done) | (simp; omega))) rfl ?_
      refine VList.go0 (n' := 24) rfl rfl (.loadRd1 _ _ _ _ rfl P_agg51 rfl) rfl ?_
      refine VList.go0 (n' := 25) rfl rfl (Eff.convN_u64 rfl Try.underlying51 Try.underlying62 (by first | omega | (simp; done) | (simp; omega))) rfl ?_
      refine VList.go0 (n' := 26) rfl rfl (.bin _ _ _ _ _ _ _ (.int .u64 ((((((A).getD (n) 0 - c) % 18446744073709551616) - (B).getD (n) 0) % 18446744073709551616))) rfl rfl (bopM_sub_u64 _ _)) rfl ?_
      refine VList.go0 (n' := 27) rfl rfl (.assign _ _ rfl) rfl ?_
      refine VList.nil (Then.go ?_)
      refine VCode.seq ?_
      refine VCode.region ?_
      refine VList.go0 (n' := 28) rfl rfl (.move _ _ rfl) rfl ?_
      refine VList.go0 (n' := 29) rfl rfl (.move _ _ rfl) rfl ?_
      refine VList.go0 (n' := 30) rfl rfl (.move _ _ rfl) rfl ?_
      refine VList.go0 (n' := 31) rfl rfl (Eff.convM_u32 rfl Try.underlying62 Try.underlying51) rfl ?_
      refine VList.go0 (n' := 32) rfl rfl (Eff.indexRowN rfl rfl Try.underlying22 P_sz51 (by first | omega | (simp; done) | (simp; omega))) rfl ?_
      refine VList.goS (n' := 33) rfl rfl (Eff.store32 rfl rfl rfl P_sz51 (by first | omega | (simp; done) | (simp; omega))) rfl ?_
      refine VList.nil (Then.go ?_)
      refine VCode.region ?_
      refine VList.go0 (n' := 34) rfl rfl (.move _ _ rfl) rfl ?_
      refine VList.go0 (n' := 35) rfl rfl (.bin _ _ _ _ _ _ _ _ rfl rfl (bop_shrL_u64 (q := 9223372036854775808) (by decide) (by decide) (by decide))) rfl ?_
      refine VList.go0 (n' := 36) rfl rfl (.assign _ _ rfl) rfl ?_
      refine VList.nil (InBlock.go (Then.go ?_))
      refine VCode.region ?_
      refine VList.go0 (n' := 37) rfl rfl (.bin _ _ _ _ _ _ _ _ rfl rfl (bop_add_i64 (by first | omega | (simp; done) | (simp; omega)))) rfl ?_
      refine VList.go0 (n' := 38) rfl rfl (.move _ _ rfl) rfl ?_
      exact VList.nil (Round.go (n + 1, ((A.getD n 0 - c) % 18446744073709551616 - B.getD n 0) % 18446744073709551616 / 9223372036854775808, O.set n (((A.getD n 0 - c) % 18446744073709551616 - B.getD n 0) % 18446744073709551616 % 4294967296)) (DiffInv.step oA oB hok (by omega) (by first | omega | (rw [getD_out (L := B) (by omega)]; omega))) (by first | (dsimp only; omega) | omega) (Weak.of (show 0 ≤ 4 by decide) ⟨⟨rfl, rfl⟩, ⟨⟨rfl, rfl⟩, ⟨⟨rfl, rfl⟩, ⟨⟨rfl, rfl⟩, ⟨⟨rfl, rfl⟩, ⟨⟨rfl, rfl⟩, trivial⟩⟩⟩⟩⟩⟩ ⟨⟨rfl, (show 3 < 4 by decide), row_cells⟩, trivial⟩))
    · replace hc2 := of_decide_eq_false hc2
      refine VCode.skip (Then.go ?_)
      refine VCode.seq ?_
      refine VCode.region ?_
      refine VList.go0 (n' := 20) rfl rfl (.move _ _ rfl) rfl ?_
      refine VList.go0 (n' := 21) rfl rfl (.move _ _ rfl) rfl ?_
      refine VList.go0 (n' := 22) rfl rfl (.move _ _ rfl) rfl ?_
      refine VList.go0 (n' := 23) rfl rfl (Eff.convM_u32 rfl Try.underlying62 Try.underlying51) rfl ?_
      refine VList.go0 (n' := 24) rfl rfl (Eff.indexRowN rfl rfl Try.underlying22 P_sz51 (by first | omega | (simp; done) | (simp; omega))) rfl ?_
      refine VList.goS (n' := 25) rfl rfl (Eff.store32 rfl rfl rfl P_sz51 (by first | omega | (simp; done) | (simp; omega))) rfl ?_
      refine VList.nil (Then.go ?_)
      refine VCode.region ?_
      refine VList.go0 (n' := 26) rfl rfl (.move _ _ rfl) rfl ?_
      refine VList.go0 (n' := 27) rfl rfl (.bin _ _ _ _ _ _ _ _ rfl rfl (bop_shrL_u64 (q := 9223372036854775808) (by decide) (by decide) (by decide))) rfl ?_
      refine VList.go0 (n' := 28) rfl rfl (.assign _ _ rfl) rfl ?_
      refine VList.nil (InBlock.go (Then.go ?_))
      refine VCode.region ?_
      refine VList.go0 (n' := 29) rfl rfl (.bin _ _ _ _ _ _ _ _ rfl rfl (bop_add_i64 (by first | omega | (simp; done) | (simp; omega)))) rfl ?_
      refine VList.go0 (n' := 30) rfl rfl (.move _ _ rfl) rfl ?_
      exact VList.nil (Round.go (n + 1, (A.getD n 0 - c) % 18446744073709551616 / 9223372036854775808, O.set n ((A.getD n 0 - c) % 18446744073709551616 % 4294967296)) (DiffInv.step oA oB hok (by omega) (by first | omega | (rw [getD_out (L := B) (by omega)]; omega))) (by first | (dsimp only; omega) | omega) (Weak.of (show 0 ≤ 4 by decide) ⟨⟨rfl, rfl⟩, ⟨⟨rfl, rfl⟩, ⟨⟨rfl, rfl⟩, ⟨⟨rfl, rfl⟩, ⟨⟨rfl, rfl⟩, ⟨⟨rfl, rfl⟩, trivial⟩⟩⟩⟩⟩⟩ ⟨⟨rfl, (show 3 < 4 by decide), row_cells⟩, trivial⟩))
  · replace hc1 := of_decide_eq_false hc1
    refine VCode.exit (Then.exit (Round.exit (InBlock.here (Then.go ?_))))
    refine VCode.seq ?_
    have hn := hok.le
    have hO := hok.len
    obtain ⟨e1, e2⟩ := hok.fin oB (by omega) hl hv
    refine VCode.region ?_
    refine VList.go0 (n' := 6) rfl rfl (.move _ _ rfl) rfl ?_
    refine VList.goN (n' := 7) rfl rfl (.callV _ _ _ _ _ _ rfl (ress_cons (res_row rfl (by first | omega | (simp; done) | (simp; omega) | (simp [*]; done) | (simp [*]; omega))) ress_nil) (f64 _ (by first | omega | (simp; done) | (simp; omega)) (e2))) rfl ?_
    refine VList.go0 (n' := 8) rfl rfl (.assign _ _ rfl) rfl ?_
    refine VList.nil (Then.go ?_)
    exact VCode.ret (⟨trivial, [u32S (dg (val (O)))], (resVars_cons (resVar_tmp rfl rfl) resVars_nil), (by rw [e1]; rfl)⟩)
theorem f60 (A : List Int) (d : Int) (hA : A.length ≤ 900000000) (oA : ok32 A) (hd : 0 < d) (hd1 : d < 4294967296) : VF Try.prog 60 [u32S (A), numB .u32 (d)] (.tup [u32S (dg (val A / d)), numB .u32 (val A % d)]) := by
  refine VF_of P_mixed Try.func60 rfl rfl (by kernel_rfl) ?_
  refine VCode.seq ?_
  refine VCode.region ?_
  refine VList.go0 (n' := 1) rfl rfl (.assign _ _ rfl) rfl ?_
  refine VList.go0 (n' := 2) rfl rfl (.assign _ _ rfl) rfl ?_
  refine VList.nil (Then.go ?_)
  refine VCode.seq ?_
  refine VCode.region ?_
  refine VList.go0 (n' := 3) rfl rfl (.move _ _ rfl) rfl ?_
  refine VList.go0 (n' := 4) rfl rfl (Eff.lenS rfl Try.underlying22) rfl ?_
  refine VList.go1 (n' := 5) rfl rfl (Eff.makeRow rfl Try.underlying22 P_zero51 P_sz51 P_bytes51 (by first | omega | (simp; done) | (simp; omega)) (by first | omega | (simp; done) | (simp; omega))) rfl ?_
  refine VList.go0 (n' := 6) rfl rfl (.assign _ _ rfl) rfl ?_
  refine VList.nil (Then.go ?_)
  refine VCode.seq ?_
  refine VCode.region ?_
  refine VList.go0 (n' := 7) rfl rfl (.assign _ _ rfl) rfl ?_
  refine VList.nil (Then.go ?_)
  refine VCode.seq ?_
  refine VCode.seq ?_
  refine VCode.region ?_
  refine VList.go0 (n' := 8) rfl rfl (.move _ _ rfl) rfl ?_
  refine VList.go0 (n' := 9) rfl rfl (Eff.lenS rfl Try.underlying22) rfl ?_
  refine VList.go0 (n' := 10) rfl rfl (.move _ _ rfl) rfl ?_
  refine VList.nil (Then.go ?_)
  refine VCode.block ?_
  refine VCode.loop (α := (Nat) × (Int) × (List Int)) (fun (x_ : (Nat) × (Int) × (List Int)) => match x_ with | (n, r, O) => (5, sl [(0, vS (A)), (1, vI .u32 (d)), (6, .own 4 ((((A).length : Int)).toNat)), (7, vI .u64 (r)), (15, vI .i64 (((A).length : Int))), (16, vI .i64 ((n : Int)))], en [(4, row (O))])) (fun (x_ : (Nat) × (Int) × (List Int)) => match x_ with | (n, r, O) => SmallInv A O d n r) (fun (x_ : (Nat) × (Int) × (List Int)) => match x_ with | (n, r, O) => A.length - n) (0, 0, List.replicate (((A).length : Int)).toNat 0) (SmallInv.start (by simp) hd) (Weak.of (show 0 ≤ 5 by decide) ⟨⟨rfl, rfl⟩, ⟨⟨rfl, rfl⟩, ⟨⟨rfl, rfl⟩, ⟨⟨rfl, rfl⟩, ⟨⟨rfl, rfl⟩, ⟨⟨rfl, rfl⟩, trivial⟩⟩⟩⟩⟩⟩ ⟨⟨rfl, (show 4 < 5 by decide), row_cells⟩, trivial⟩) ?_
  rintro ⟨n, r, O⟩ hok
  show VCode Try.prog 0 _ 5 (sl [(0, vS (A)), (1, vI .u32 (d)), (6, .own 4 ((((A).length : Int)).toNat)), (7, vI .u64 (r)), (15, vI .i64 (((A).length : Int))), (16, vI .i64 ((n : Int)))]) (en [(4, row (O))]) _
  refine VCode.seq ?_
  refine VCode.region ?_
  refine VList.go0 (n' := 6) rfl rfl (.bin _ _ _ _ _ _ _ _ rfl rfl rfl) rfl ?_
  refine VList.nil (Then.go ?_)
  refine VCode.seq ?_
  refine VCode.cond _ rfl (fun hc1 => ?_) (fun hc1 => ?_)
  · replace hc1 := of_decide_eq_true hc1
    refine VCode.skip (Then.go ?_)
    refine VCode.seq ?_
    refine VCode.block ?_
    refine VCode.seq ?_
    refine VCode.region ?_
    refine VList.go0 (n' := 7) rfl rfl (.move _ _ rfl) rfl ?_
    refine VList.go0 (n' := 8) rfl rfl (.assign _ _ rfl) rfl ?_
    refine VList.nil (Then.go ?_)
    refine VCode.seq ?_
    refine VCode.region ?_
    refine VList.go0 (n' := 9) rfl rfl (.move _ _ rfl) rfl ?_
    refine VList.go0 (n' := 10) rfl rfl (Eff.lenS rfl Try.underlying22) rfl ?_
    refine VList.go0 (n' := 11) rfl rfl (.bin _ _ _ _ _ _ _ _ rfl rfl (bop_sub_i64 (by first | omega | (simp; done) | (simp; omega)))) rfl ?_
    refine VList.go0 (n' := 12) rfl rfl (.move _ _ rfl) rfl ?_
    refine VList.go0 (n' := 13) rfl rfl (.bin _ _ _ _ _ _ _ _ rfl rfl (bop_sub_i64 (by first | omega | (simp; done) | (simp; omega)))) rfl ?_
    refine VList.go0 (n' := 14) rfl rfl (.assign _ _ rfl) rfl ?_
    refine VList.nil (Then.go ?_)
    refine VCode.seq ?_
    have hx := ok32_getD oA ((((A).length : Int) - 1) - (n : Int)).toNat
    have h0 := hok.r0
    have h1 := hok.r1
    have hO := hok.len
    have hw := div_word ⟨h0, h1⟩ hd1 hx rfl
    refine VCode.region ?_
    refine VList.go0 (n' := 15) rfl rfl (.move _ _ rfl) rfl ?_
    refine VList.go0 (n' := 16) rfl rfl (.bin _ _ _ _ _ _ _ (.int .u64 ((r * 4294967296))) rfl rfl (bop_shlL_u64 (q := 4294967296) (by decide) (by decide) (by decide) (by omega))) rfl ?_
    refine VList.go0 (n' := 17) rfl rfl (.move _ _ rfl) rfl ?_
    refine VList.go0 (n' := 18) rfl rfl (.move _ _ rfl) rfl ?_
    refine VList.go0 (n' := 19) rfl rfl (Eff.indexRd rfl rfl Try.underlying22 P_sz51 (by first | omega | (simp; done) | (simp; omega)) (by first | omega | (simp; done) | (simp; omega))) rfl ?_
    refine VList.go0 (n' := 20) rfl rfl (.loadRd1 _ _ _ _ rfl P_agg51 rfl) rfl ?_
    refine VList.go0 (n' := 21) rfl rfl (Eff.convN_u64 rfl Try.underlying51 Try.underlying62 (by first | omega | (simp; done) | (simp; omega))) rfl ?_
    refine VList.go0 (n' := 22) rfl rfl (.bin _ _ _ _ _ _ _ (.int .u64 (((r * 4294967296) + (A).getD (((((A).length : Int) - 1) - (n : Int))).toNat 0))) rfl rfl (bop_or_u64 (q := 4294967296) 32 (by decide) ⟨r, h0, rfl⟩ hx (by omega))) rfl ?_
    refine VList.go0 (n' := 23) rfl rfl (.assign _ _ rfl) rfl ?_
    refine VList.nil (Then.go ?_)
    refine VCode.seq ?_
    refine VCode.region ?_
    refine VList.go0 (n' := 24) rfl rfl (.move _ _ rfl) rfl ?_
    refine VList.go0 (n' := 25) rfl rfl (.move _ _ rfl) rfl ?_
    refine VList.go0 (n' := 26) rfl rfl (.move _ _ rfl) rfl ?_
    refine VList.go0 (n' := 27) rfl rfl (.move _ _ rfl) rfl ?_
    refine VList.go0 (n' := 28) rfl rfl (Eff.convN_u64 rfl Try.underlying51 Try.underlying62 (by first | omega | (simp; done) | (simp; omega))) rfl ?_
    refine VList.go0 (n' := 29) rfl rfl (.bin _ _ _ _ _ _ _ _ rfl rfl (bop_quo_u64 (by first | omega | (simp; done) | (simp; omega)) (by first | omega | (simp; done) | (simp; omega)) (by first | omega | (simp; done) | (simp; omega)))) rfl ?_
    refine VList.go0 (n' := 30) rfl rfl (Eff.convM_u32 rfl Try.underlying62 Try.underlying51) rfl ?_
    refine VList.go0 (n' := 31) rfl rfl (Eff.indexRow rfl rfl Try.underlying22 P_sz51 (by first | omega | (simp; done) | (simp; omega)) (by first | omega | (simp; done) | (simp; omega))) rfl ?_
    refine VList.goS (n' := 32) rfl rfl (Eff.store32 rfl rfl rfl P_sz51 (by first | omega | (simp; done) | (simp; omega))) rfl ?_
    refine VList.nil (Then.go ?_)
    refine VCode.region ?_
    refine VList.go0 (n' := 33) rfl rfl (.move _ _ rfl) rfl ?_
    refine VList.go0 (n' := 34) rfl rfl (.move _ _ rfl) rfl ?_
    refine VList.go0 (n' := 35) rfl rfl (Eff.convN_u64 rfl Try.underlying51 Try.underlying62 (by first | omega | (simp; done) | (simp; omega))) rfl ?_
    refine VList.go0 (n' := 36) rfl rfl (.bin _ _ _ _ _ _ _ _ rfl rfl (bop_rem_u64 (by first | omega | (simp; done) | (simp; omega)) (by first | omega | (simp; done) | (simp; omega)))) rfl ?_
    refine VList.go0 (n' := 37) rfl rfl (.assign _ _ rfl) rfl ?_
    refine VList.nil (InBlock.go (Then.go ?_))
    refine VCode.region ?_
    refine VList.go0 (n' := 38) rfl rfl (.bin _ _ _ _ _ _ _ _ rfl rfl (bop_add_i64 (by first | omega | (simp; done) | (simp; omega)))) rfl ?_
    refine VList.go0 (n' := 39) rfl rfl (.move _ _ rfl) rfl ?_
    exact VList.nil (Round.go (n + 1, ((r * 4294967296) + (A).getD ((((A).length : Int) - 1) - (n : Int)).toNat 0) % d, O.set ((((A).length : Int) - 1) - (n : Int)).toNat ((((r * 4294967296) + (A).getD ((((A).length : Int) - 1) - (n : Int)).toNat 0) / d) % 4294967296)) (hok.step oA hd1 (by omega) rfl) (by first | (dsimp only; omega) | omega) (Weak.of (show 0 ≤ 5 by decide) ⟨⟨rfl, rfl⟩, ⟨⟨rfl, rfl⟩, ⟨⟨rfl, rfl⟩, ⟨⟨rfl, rfl⟩, ⟨⟨rfl, rfl⟩, ⟨⟨rfl, rfl⟩, trivial⟩⟩⟩⟩⟩⟩ ⟨⟨rfl, (show 4 < 5 by decide), row_cells⟩, trivial⟩))
  · replace hc1 := of_decide_eq_false hc1
    refine VCode.exit (Then.exit (Round.exit (InBlock.here (Then.go ?_))))
    refine VCode.seq ?_
    have hn := hok.le
    have hO := hok.len
    have h0 := hok.r0
    have h1 := hok.r1
    obtain ⟨e1, e2, e3⟩ := hok.fin (by omega) oA
    refine VCode.region ?_
    refine VList.go0 (n' := 7) rfl rfl (.move _ _ rfl) rfl ?_
    refine VList.goN (n' := 8) rfl rfl (.callV _ _ _ _ _ _ rfl (ress_cons (res_row rfl (by first | omega | (simp; done) | (simp; omega) | (simp [*]; done) | (simp [*]; omega))) ress_nil) (f64 _ (by first | omega | (simp; done) | (simp; omega)) (e1))) rfl ?_
    refine VList.go0 (n' := 9) rfl rfl (.move _ _ rfl) rfl ?_
    refine VList.go0 (n' := 10) rfl rfl (Eff.convM_u32 rfl Try.underlying62 Try.underlying51) rfl ?_
    refine VList.go0 (n' := 11) rfl rfl (.assign _ _ rfl) rfl ?_
    refine VList.go0 (n' := 12) rfl rfl (.assign _ _ rfl) rfl ?_
    refine VList.nil (Then.go ?_)
    exact VCode.ret (⟨trivial, [u32S (dg (val (O))), numB .u32 (((r) % 4294967296))], (resVars_cons (resVar_tmp rfl rfl) (resVars_cons (resVar_tmp rfl rfl) resVars_nil)), (by rw [e2, e3, show val A % d % 4294967296 = val A % d by omega]; rfl)⟩)
theorem f63 (A B : List Int) (hA : A.length ≤ 400000000) (hB : B.length ≤ 400000000) (oA : ok32 A) (oB : ok32 B) : VF Try.prog 63 [u32S (A), u32S (B)] (u32S (dg (val A * val B))) := by
  refine VF_of P_mixed Try.func63 rfl rfl (by kernel_rfl) ?_
  refine VCode.seq ?_
  refine VCode.region ?_
  refine VList.go0 (n' := 1) rfl rfl (.assign _ _ rfl) rfl ?_
  refine VList.nil (Then.go ?_)
  refine VCode.seq ?_
  refine VCode.region ?_
  refine VList.go0 (n' := 2) rfl rfl (.move _ _ rfl) rfl ?_
  refine VList.go0 (n' := 3) rfl rfl (Eff.lenS rfl Try.underlying22) rfl ?_
  refine VList.go0 (n' := 4) rfl rfl (.move _ _ rfl) rfl ?_
  refine VList.go0 (n' := 5) rfl rfl (Eff.lenS rfl Try.underlying22) rfl ?_
  refine VList.go0 (n' := 6) rfl rfl (.bin _ _ _ _ _ _ _ _ rfl rfl (bop_add_i64 (by first | omega | (simp; done) | (simp; omega)))) rfl ?_
  refine VList.go1 (n' := 7) rfl rfl (Eff.makeRow rfl Try.underlying22 P_zero51 P_sz51 P_bytes51 (by first | omega | (simp; done) | (simp; omega)) (by first | omega | (simp; done) | (simp; omega))) rfl ?_
  refine VList.go0 (n' := 8) rfl rfl (.assign _ _ rfl) rfl ?_
  refine VList.nil (Then.go ?_)
  refine VCode.seq ?_
  refine VCode.seq ?_
  refine VCode.region ?_
  refine VList.go0 (n' := 9) rfl rfl (.move _ _ rfl) rfl ?_
  refine VList.go0 (n' := 10) rfl rfl (Eff.lenS rfl Try.underlying22) rfl ?_
  refine VList.go0 (n' := 11) rfl rfl (.move _ _ rfl) rfl ?_
  refine VList.nil (Then.go ?_)
  refine VCode.block ?_
  refine VCode.loop (α := (Nat) × (List Int)) (fun (x_ : (Nat) × (List Int)) => match x_ with | (n, O) => (7, sl [(0, vS (A)), (1, vS (B)), (5, .own 6 (((((A).length : Int) + ((B).length : Int))).toNat)), (17, vI .i64 (((A).length : Int))), (18, vI .i64 ((n : Int)))], en [(6, row (O))])) (fun (x_ : (Nat) × (List Int)) => match x_ with | (n, O) => ProdInv A B O n) (fun (x_ : (Nat) × (List Int)) => match x_ with | (n, O) => A.length - n) (0, List.replicate (((A).length : Int) + ((B).length : Int)).toNat 0) (ProdInv.start (by first | rfl | (congr 1; omega))) (Weak.of (show 0 ≤ 7 by decide) ⟨⟨rfl, rfl⟩, ⟨⟨rfl, rfl⟩, ⟨⟨rfl, rfl⟩, ⟨⟨rfl, rfl⟩, ⟨⟨rfl, rfl⟩, trivial⟩⟩⟩⟩⟩ ⟨⟨rfl, (show 6 < 7 by decide), row_cells⟩, trivial⟩) ?_
  rintro ⟨n, O⟩ hok
  show VCode Try.prog 0 _ 7 (sl [(0, vS (A)), (1, vS (B)), (5, .own 6 (((((A).length : Int) + ((B).length : Int))).toNat)), (17, vI .i64 (((A).length : Int))), (18, vI .i64 ((n : Int)))]) (en [(6, row (O))]) _
  refine VCode.seq ?_
  refine VCode.region ?_
  refine VList.go0 (n' := 8) rfl rfl (.bin _ _ _ _ _ _ _ _ rfl rfl rfl) rfl ?_
  refine VList.nil (Then.go ?_)
  refine VCode.seq ?_
  refine VCode.cond _ rfl (fun hc1 => ?_) (fun hc1 => ?_)
  · replace hc1 := of_decide_eq_true hc1
    refine VCode.skip (Then.go ?_)
    refine VCode.seq ?_
    refine VCode.block ?_
    refine VCode.seq ?_
    refine VCode.region ?_
    refine VList.go0 (n' := 9) rfl rfl (.move _ _ rfl) rfl ?_
    refine VList.go0 (n' := 10) rfl rfl (.assign _ _ rfl) rfl ?_
    refine VList.nil (Then.go ?_)
    refine VCode.seq ?_
    refine VCode.region ?_
    refine VList.go0 (n' := 11) rfl rfl (.assign _ _ rfl) rfl ?_
    refine VList.nil (Then.go ?_)
    refine VCode.seq ?_
    refine VCode.seq ?_
    refine VCode.region ?_
    refine VList.go0 (n' := 12) rfl rfl (.move _ _ rfl) rfl ?_
    refine VList.go0 (n' := 13) rfl rfl (Eff.lenS rfl Try.underlying22) rfl ?_
    refine VList.go0 (n' := 14) rfl rfl (.move _ _ rfl) rfl ?_
    refine VList.nil (Then.go ?_)
    refine VCode.block ?_
    refine VCode.loop (α := (Nat) × (Int) × (List Int)) (fun (x_ : (Nat) × (Int) × (List Int)) => match x_ with | (k, c, O) => (7, sl [(0, vS (A)), (1, vS (B)), (5, .own 6 (((((A).length : Int) + ((B).length : Int))).toNat)), (6, vI .i64 ((n : Int))), (7, vI .u64 (c)), (17, vI .i64 (((A).length : Int))), (18, vI .i64 ((n : Int))), (22, vI .i64 (((B).length : Int))), (23, vI .i64 ((k : Int)))], en [(6, row (O))])) (fun (x_ : (Nat) × (Int) × (List Int)) => match x_ with | (k, c, O) => ProdIn A B O n k c) (fun (x_ : (Nat) × (Int) × (List Int)) => match x_ with | (k, c, O) => B.length - k) (0, 0, O) (hok.enter (by omega)) (Weak.of (show 0 ≤ 7 by decide) ⟨⟨rfl, rfl⟩, ⟨⟨rfl, rfl⟩, ⟨⟨rfl, rfl⟩, ⟨⟨rfl, rfl⟩, ⟨⟨rfl, rfl⟩, ⟨⟨rfl, rfl⟩, ⟨⟨rfl, rfl⟩, ⟨⟨rfl, rfl⟩, ⟨⟨rfl, rfl⟩, trivial⟩⟩⟩⟩⟩⟩⟩⟩⟩ ⟨⟨rfl, (show 6 < 7 by decide), row_cells⟩, trivial⟩) ?_
    rintro ⟨k, c, O⟩ hok2
    show VCode Try.prog 0 _ 7 (sl [(0, vS (A)), (1, vS (B)), (5, .own 6 (((((A).length : Int) + ((B).length : Int))).toNat)), (6, vI .i64 ((n : Int))), (7, vI .u64 (c)), (17, vI .i64 (((A).length : Int))), (18, vI .i64 ((n : Int))), (22, vI .i64 (((B).length : Int))), (23, vI .i64 ((k : Int)))]) (en [(6, row (O))]) _
    refine VCode.seq ?_
    refine VCode.region ?_
    refine VList.go0 (n' := 8) rfl rfl (.bin _ _ _ _ _ _ _ _ rfl rfl rfl) rfl ?_
    refine VList.nil (Then.go ?_)
    refine VCode.seq ?_
    refine VCode.cond _ rfl (fun hc2 => ?_) (fun hc2 => ?_)
    · replace hc2 := of_decide_eq_true hc2
      refine VCode.skip (Then.go ?_)
      refine VCode.seq ?_
      refine VCode.block ?_
      refine VCode.seq ?_
      refine VCode.region ?_
      refine VList.go0 (n' := 9) rfl rfl (.move _ _ rfl) rfl ?_
      refine VList.go0 (n' := 10) rfl rfl (.assign _ _ rfl) rfl ?_
      refine VList.nil (Then.go ?_)
      refine VCode.seq ?_
      have hi : (((n : Int)) + ((k : Int))).toNat = n + k := (by omega)
      have hx := ok32_getD oA n
      have hy := ok32_getD oB k
      have hxy := mul_small hx hy
      have hz := ok32_getD hok2.ok (((n : Int)) + ((k : Int))).toNat
      have h0 := hok2.c0
      have h1 := hok2.c1
      have hO := hok2.len
      have hkl := hok2.le
      refine VCode.draw (by kernel_rfl) ?_
      refine VLog.go0 (n' := 11) rfl rfl (.move _ _ rfl) rfl ?_
      refine VLog.go0 (n' := 12) rfl rfl (.move _ _ rfl) rfl ?_
      refine VLog.go0 (n' := 13) rfl rfl (Eff.indexRdN rfl rfl Try.underlying22 P_sz51 (by first | omega | (simp; done) | (simp; omega))) rfl ?_
      refine VLog.go0 (n' := 14) rfl rfl (.loadRd1 _ _ _ _ rfl P_agg51 rfl) rfl ?_
      refine VLog.go0 (n' := 15) rfl rfl (Eff.convN_u64 rfl Try.underlying51 Try.underlying62 (by first | omega | (simp; done) | (simp; omega))) rfl ?_
      refine VLog.go0 (n' := 16) rfl rfl (.move _ _ rfl) rfl ?_
      refine VLog.go0 (n' := 17) rfl rfl (.move _ _ rfl) rfl ?_
      refine VLog.go0 (n' := 18) rfl rfl (Eff.indexRdN rfl rfl Try.underlying22 P_sz51 (by first | omega | (simp; done) | (simp; omega))) rfl ?_
      refine VLog.go0 (n' := 19) rfl rfl (.loadRd1 _ _ _ _ rfl P_agg51 rfl) rfl ?_
      refine VLog.go0 (n' := 20) rfl rfl (Eff.convN_u64 rfl Try.underlying51 Try.underlying62 (by first | omega | (simp; done) | (simp; omega))) rfl ?_
      refine VLog.go0 (n' := 21) rfl rfl (.bin _ _ _ _ _ _ _ _ rfl rfl (bop_mul_u64 (by first | omega | (simp; done) | (simp; omega)))) rfl ?_
      refine VLog.go0 (n' := 22) rfl rfl (.move _ _ rfl) rfl ?_
      refine VLog.go0 (n' := 23) rfl rfl (.move _ _ rfl) rfl ?_
      refine VLog.go0 (n' := 24) rfl rfl (.move _ _ rfl) rfl ?_
      refine VLog.go0 (n' := 25) rfl rfl (.bin _ _ _ _ _ _ _ _ rfl rfl (bop_add_i64 (by first | omega | (simp; done) | (simp; omega)))) rfl ?_
      refine VLog.go0 (n' := 26) rfl rfl (Eff.indexRow rfl rfl Try.underlying22 P_sz51 (by first | omega | (simp; done) | (simp; omega)) (by first | omega | (simp; done) | (simp; omega))) rfl ?_
      refine VLog.go0 (n' := 27) rfl rfl (Eff.load32 rfl rfl P_agg51 (by first | omega | (simp; done) | (simp; omega))) rfl ?_
      refine VLog.go0 (n' := 28) rfl rfl (Eff.convN_u64 rfl Try.underlying51 Try.underlying62 (by first | omega | (simp; done) | (simp; omega))) rfl ?_
      refine VLog.go0 (n' := 29) rfl rfl (.bin _ _ _ _ _ _ _ _ rfl rfl (bop_add_u64 (by first | omega | (simp; done) | (simp; omega)))) rfl ?_
      refine VLog.go0 (n' := 30) rfl rfl (.move _ _ rfl) rfl ?_
      refine VLog.go0 (n' := 31) rfl rfl (.bin _ _ _ _ _ _ _ _ rfl rfl (bop_add_u64 (by first | omega | (simp; done) | (simp; omega)))) rfl ?_
      refine VLog.go0 (n' := 32) rfl rfl (.assign _ _ rfl) rfl ?_
      refine VLog.nil ⟨by kernel_rfl, Then.go ?_⟩
      refine VCode.seq ?_
      refine VCode.region ?_
      refine VList.go0 (n' := 33) rfl rfl (.move _ _ rfl) rfl ?_
      refine VList.go0 (n' := 34) rfl rfl (.move _ _ rfl) rfl ?_
      refine VList.go0 (n' := 35) rfl rfl (.move _ _ rfl) rfl ?_
      refine VList.go0 (n' := 36) rfl rfl (.bin _ _ _ _ _ _ _ _ rfl rfl (bop_add_i64 (by first | omega | (simp; done) | (simp; omega)))) rfl ?_
      refine VList.go0 (n' := 37) rfl rfl (.move _ _ rfl) rfl ?_
      refine VList.go0 (n' := 38) rfl rfl (Eff.convM_u32 rfl Try.underlying62 Try.underlying51) rfl ?_
      refine VList.go0 (n' := 39) rfl rfl (Eff.indexRow rfl rfl Try.underlying22 P_sz51 (by first | omega | (simp; done) | (simp; omega)) (by first | omega | (simp; done) | (simp; omega))) rfl ?_
      refine VList.goS (n' := 40) rfl rfl (Eff.store32 rfl rfl rfl P_sz51 (by first | omega | (simp; done) | (simp; omega))) rfl ?_
      refine VList.nil (Then.go ?_)
      refine VCode.region ?_
      refine VList.go0 (n' := 41) rfl rfl (.move _ _ rfl) rfl ?_
      refine VList.go0 (n' := 42) rfl rfl (.bin _ _ _ _ _ _ _ _ rfl rfl (bop_shrL_u64 (q := 4294967296) (by decide) (by decide) (by decide))) rfl ?_
      refine VList.go0 (n' := 43) rfl rfl (.assign _ _ rfl) rfl ?_
      refine VList.nil (InBlock.go (Then.go ?_))
      refine VCode.region ?_
      refine VList.go0 (n' := 44) rfl rfl (.bin _ _ _ _ _ _ _ _ rfl rfl (bop_add_i64 (by first | omega | (simp; done) | (simp; omega)))) rfl ?_
      refine VList.go0 (n' := 45) rfl rfl (.move _ _ rfl) rfl ?_
      exact VList.nil (Round.go (k + 1, (A.getD n 0 * B.getD k 0 + O.getD (((n : Int)) + ((k : Int))).toNat 0 + c) / 4294967296, O.set (((n : Int)) + ((k : Int))).toNat ((A.getD n 0 * B.getD k 0 + O.getD (((n : Int)) + ((k : Int))).toNat 0 + c) % 4294967296)) (by rw [hi]; exact hok2.step oA oB (by omega) rfl) (by first | (dsimp only; omega) | omega) (Weak.of (show 0 ≤ 7 by decide) ⟨⟨rfl, rfl⟩, ⟨⟨rfl, rfl⟩, ⟨⟨rfl, rfl⟩, ⟨⟨rfl, rfl⟩, ⟨⟨rfl, rfl⟩, ⟨⟨rfl, rfl⟩, ⟨⟨rfl, rfl⟩, ⟨⟨rfl, rfl⟩, ⟨⟨rfl, rfl⟩, trivial⟩⟩⟩⟩⟩⟩⟩⟩⟩ ⟨⟨rfl, (show 6 < 7 by decide), row_cells⟩, trivial⟩))
    · replace hc2 := of_decide_eq_false hc2
      refine VCode.exit (Then.exit (Round.exit (InBlock.here (Then.go ?_))))
      have hO := hok2.len
      have hkl := hok2.le
      have h0 := hok2.c0
      have h1 := hok2.c1
      refine VCode.region ?_
      refine VList.go0 (n' := 9) rfl rfl (.move _ _ rfl) rfl ?_
      refine VList.go0 (n' := 10) rfl rfl (.move _ _ rfl) rfl ?_
      refine VList.go0 (n' := 11) rfl rfl (.move _ _ rfl) rfl ?_
      refine VList.go0 (n' := 12) rfl rfl (Eff.lenS rfl Try.underlying22) rfl ?_
      refine VList.go0 (n' := 13) rfl rfl (.bin _ _ _ _ _ _ _ _ rfl rfl (bop_add_i64 (by first | omega | (simp; done) | (simp; omega)))) rfl ?_
      refine VList.go0 (n' := 14) rfl rfl (.move _ _ rfl) rfl ?_
      refine VList.go0 (n' := 15) rfl rfl (Eff.convM_u32 rfl Try.underlying62 Try.underlying51) rfl ?_
      refine VList.go0 (n' := 16) rfl rfl (Eff.indexRow rfl rfl Try.underlying22 P_sz51 (by first | omega | (simp; done) | (simp; omega)) (by first | omega | (simp; done) | (simp; omega))) rfl ?_
      refine VList.goS (n' := 17) rfl rfl (Eff.store32 rfl rfl rfl P_sz51 (by first | omega | (simp; done) | (simp; omega))) rfl ?_
      refine VList.nil (InBlock.go (Then.go ?_))
      refine VCode.region ?_
      refine VList.go0 (n' := 18) rfl rfl (.bin _ _ _ _ _ _ _ _ rfl rfl (bop_add_i64 (by first | omega | (simp; done) | (simp; omega)))) rfl ?_
      refine VList.go0 (n' := 19) rfl rfl (.move _ _ rfl) rfl ?_
      exact VList.nil (Round.go (n + 1, O.set (((n : Int)) + ((B).length : Int)).toNat (c % 4294967296)) (by have hi : (((n : Int)) + ((B).length : Int)).toNat = n + B.length := (by omega); rw [hi]; exact hok2.leave (by omega)) (by first | (dsimp only; omega) | omega) (Weak.of (show 0 ≤ 7 by decide) ⟨⟨rfl, rfl⟩, ⟨⟨rfl, rfl⟩, ⟨⟨rfl, rfl⟩, ⟨⟨rfl, rfl⟩, ⟨⟨rfl, rfl⟩, trivial⟩⟩⟩⟩⟩ ⟨⟨rfl, (show 6 < 7 by decide), row_cells⟩, trivial⟩))
  · replace hc1 := of_decide_eq_false hc1
    refine VCode.exit (Then.exit (Round.exit (InBlock.here (Then.go ?_))))
    refine VCode.seq ?_
    have hn := hok.le
    have hO := hok.len
    have e1 := hok.fin (by omega)
    refine VCode.region ?_
    refine VList.go0 (n' := 9) rfl rfl (.move _ _ rfl) rfl ?_
    refine VList.goN (n' := 10) rfl rfl (.callV _ _ _ _ _ _ rfl (ress_cons (res_row rfl (by first | omega | (simp; done) | (simp; omega) | (simp [*]; done) | (simp [*]; omega))) ress_nil) (f64 _ (by first | omega | (simp; done) | (simp; omega)) (hok.ok))) rfl ?_
    refine VList.go0 (n' := 11) rfl rfl (.assign _ _ rfl) rfl ?_
    refine VList.nil (Then.go ?_)
    exact VCode.ret (⟨trivial, [u32S (dg (val (O)))], (resVars_cons (resVar_tmp rfl rfl) resVars_nil), (by rw [e1]; rfl)⟩)
theorem f67 (L : List Int) (n : Int) (hL : L.length ≤ 400000000) (oL : ok32 L) (h0 : 0 ≤ n) (h1 : n ≤ 1000000000) : VF Try.prog 67 [u32S (L), numB .i64 (n)] (u32S (dg (val L * 2 ^ n.toNat))) := by
  refine VF_of P_mixed Try.func67 rfl rfl (by kernel_rfl) ?_
  refine VCode.seq ?_
  refine VCode.region ?_
  refine VList.go0 (n' := 1) rfl rfl (.assign _ _ rfl) rfl ?_
  refine VList.nil (Then.go ?_)
  refine VCode.seq ?_
  refine VCode.region ?_
  refine VList.go0 (n' := 2) rfl rfl (.move _ _ rfl) rfl ?_
  refine VList.go0 (n' := 3) rfl rfl (Eff.lenS rfl Try.underlying22) rfl ?_
  refine VList.go0 (n' := 4) rfl rfl (.move _ _ rfl) rfl ?_
  refine VList.go0 (n' := 5) rfl rfl (.bin _ _ _ _ _ _ _ _ rfl rfl (bop_quo_i64 (by first | omega | (simp; done) | (simp; omega)) (by first | omega | (simp; done) | (simp; omega)) (by first | omega | (simp; done) | (simp; omega)))) rfl ?_
  refine VList.go0 (n' := 6) rfl rfl (.bin _ _ _ _ _ _ _ _ rfl rfl (bop_add_i64 (by first | omega | (simp; done) | (simp; omega)))) rfl ?_
  refine VList.go0 (n' := 7) rfl rfl (.bin _ _ _ _ _ _ _ _ rfl rfl (bop_add_i64 (by first | omega | (simp; done) | (simp; omega)))) rfl ?_
  refine VList.go1 (n' := 8) rfl rfl (Eff.makeRow rfl Try.underlying22 P_zero51 P_sz51 P_bytes51 (by first | omega | (simp; done) | (simp; omega)) (by first | omega | (simp; done) | (simp; omega))) rfl ?_
  refine VList.go0 (n' := 9) rfl rfl (.assign _ _ rfl) rfl ?_
  refine VList.nil (Then.go ?_)
  refine VCode.seq ?_
  refine VCode.seq ?_
  refine VCode.region ?_
  refine VList.go0 (n' := 10) rfl rfl (.move _ _ rfl) rfl ?_
  refine VList.go0 (n' := 11) rfl rfl (Eff.lenS rfl Try.underlying22) rfl ?_
  refine VList.go0 (n' := 12) rfl rfl (.move _ _ rfl) rfl ?_
  refine VList.nil (Then.go ?_)
  refine VCode.block ?_
  refine VCode.loop (α := (Nat) × (List Int)) (fun (x_ : (Nat) × (List Int)) => match x_ with | (k, O) => (8, sl [(0, vS (L)), (1, vI .i64 (n)), (5, .own 7 ((((((L).length : Int) + (n / 32)) + 1)).toNat)), (16, vI .i64 (((L).length : Int))), (17, vI .i64 ((k : Int)))], en [(7, row (O))])) (fun (x_ : (Nat) × (List Int)) => match x_ with | (k, O) => LeftInv L O (n / 32).toNat (n % 32).toNat k) (fun (x_ : (Nat) × (List Int)) => match x_ with | (k, O) => L.length - k) (0, List.replicate ((((L).length : Int) + (n / 32)) + 1).toNat 0) (by have e : ((((L).length : Int) + (n / 32)) + 1).toNat = L.length + (n / 32).toNat + 1 := (by omega); show LeftInv L (List.replicate _ 0) _ _ 0; rw [e]; exact LeftInv.start) (Weak.of (show 0 ≤ 8 by decide) ⟨⟨rfl, rfl⟩, ⟨⟨rfl, rfl⟩, ⟨⟨rfl, rfl⟩, ⟨⟨rfl, rfl⟩, ⟨⟨rfl, rfl⟩, trivial⟩⟩⟩⟩⟩ ⟨⟨rfl, (show 7 < 8 by decide), row_cells⟩, trivial⟩) ?_
  rintro ⟨k, O⟩ hok
  show VCode Try.prog 0 _ 8 (sl [(0, vS (L)), (1, vI .i64 (n)), (5, .own 7 ((((((L).length : Int) + (n / 32)) + 1)).toNat)), (16, vI .i64 (((L).length : Int))), (17, vI .i64 ((k : Int)))]) (en [(7, row (O))]) _
  refine VCode.seq ?_
  refine VCode.region ?_
  refine VList.go0 (n' := 9) rfl rfl (.bin _ _ _ _ _ _ _ _ rfl rfl rfl) rfl ?_
  refine VList.nil (Then.go ?_)
  refine VCode.seq ?_
  refine VCode.cond _ rfl (fun hc1 => ?_) (fun hc1 => ?_)
  · replace hc1 := of_decide_eq_true hc1
    refine VCode.skip (Then.go ?_)
    refine VCode.seq ?_
    refine VCode.block ?_
    refine VCode.seq ?_
    refine VCode.region ?_
    refine VList.go0 (n' := 10) rfl rfl (.move _ _ rfl) rfl ?_
    refine VList.go0 (n' := 11) rfl rfl (.assign _ _ rfl) rfl ?_
    refine VList.nil (Then.go ?_)
    refine VCode.seq ?_
    have hx := ok32_getD oL k
    have hs := shl_word (r := (n % 32).toNat) (by omega) hx
    have hO := hok.len
    have hi : (((k : Int)) + (n / 32)).toNat = k + (n / 32).toNat := (by omega)
    have hi1 : ((((k : Int)) + (n / 32)) + 1).toNat = k + (n / 32).toNat + 1 := (by omega)
    have hz := ok32_getD hok.ok (k + (n / 32).toNat)
    have htop := hok.top
    have hsum := hok.sum oL (by omega) (by omega) rfl
    rw [← hi] at hz htop hsum
    refine VCode.region ?_
    refine VList.go0 (n' := 12) rfl rfl (.move _ _ rfl) rfl ?_
    refine VList.go0 (n' := 13) rfl rfl (.move _ _ rfl) rfl ?_
    refine VList.go0 (n' := 14) rfl rfl (Eff.indexRdN rfl rfl Try.underlying22 P_sz51 (by first | omega | (simp; done) | (simp; omega))) rfl ?_
    refine VList.go0 (n' := 15) rfl rfl (.loadRd1 _ _ _ _ rfl P_agg51 rfl) rfl ?_
    refine VList.go0 (n' := 16) rfl rfl (Eff.convN_u64 rfl Try.underlying51 Try.underlying62 (by first | omega | (simp; done) | (simp; omega))) rfl ?_
    refine VList.go0 (n' := 17) rfl rfl (.move _ _ rfl) rfl ?_
    refine VList.go0 (n' := 18) rfl rfl (.bin _ _ _ _ _ _ _ _ rfl rfl (bop_rem_i64 (by first | omega | (simp; done) | (simp; omega)) (by first | omega | (simp; done) | (simp; omega)))) rfl ?_
    refine VList.go0 (n' := 19) rfl rfl (.bin _ _ _ _ _ _ _ (.int .u64 (((L).getD (k) 0 * 2 ^ ((n % 32)).toNat))) rfl rfl (bop_shl_u64 (by omega) (by omega) (by omega))) rfl ?_
    refine VList.go0 (n' := 20) rfl rfl (.assign _ _ rfl) rfl ?_
    refine VList.nil (Then.go ?_)
    refine VCode.seq ?_
    refine VCode.region ?_
    refine VList.go0 (n' := 21) rfl rfl (.move _ _ rfl) rfl ?_
    refine VList.go0 (n' := 22) rfl rfl (.move _ _ rfl) rfl ?_
    refine VList.go0 (n' := 23) rfl rfl (.move _ _ rfl) rfl ?_
    refine VList.go0 (n' := 24) rfl rfl (.bin _ _ _ _ _ _ _ _ rfl rfl (bop_quo_i64 (by first | omega | (simp; done) | (simp; omega)) (by first | omega | (simp; done) | (simp; omega)) (by first | omega | (simp; done) | (simp; omega)))) rfl ?_
    refine VList.go0 (n' := 25) rfl rfl (.bin _ _ _ _ _ _ _ _ rfl rfl (bop_add_i64 (by first | omega | (simp; done) | (simp; omega)))) rfl ?_
    refine VList.go0 (n' := 26) rfl rfl (Eff.indexRow rfl rfl Try.underlying22 P_sz51 (by first | omega | (simp; done) | (simp; omega)) (by first | omega | (simp; done) | (simp; omega))) rfl ?_
    refine VList.go0 (n' := 27) rfl rfl (Eff.load32 rfl rfl P_agg51 (by first | omega | (simp; done) | (simp; omega))) rfl ?_
    refine VList.go0 (n' := 28) rfl rfl (.move _ _ rfl) rfl ?_
    refine VList.go0 (n' := 29) rfl rfl (Eff.convM_u32 rfl Try.underlying62 Try.underlying51) rfl ?_
    refine VList.go0 (n' := 30) rfl rfl (.bin _ _ _ _ _ _ _ (.int .u32 (((O).getD ((((k : Int) + (n / 32))).toNat) 0 + ((((L).getD (k) 0 * 2 ^ ((n % 32)).toNat)) % 4294967296)))) rfl rfl (bop_orR_u32 (q := 2 ^ (n % 32).toNat) (n % 32).toNat rfl ⟨hz.1, htop⟩ (shl_low (by omega) hx.1) (by omega))) rfl ?_
    refine VList.go0 (n' := 31) rfl rfl (Eff.indexRow rfl rfl Try.underlying22 P_sz51 (by first | omega | (simp; done) | (simp; omega)) (by first | omega | (simp; done) | (simp; omega))) rfl ?_
    refine VList.goS (n' := 32) rfl rfl (Eff.store32 rfl rfl rfl P_sz51 (by first | omega | (simp; done) | (simp; omega))) rfl ?_
    refine VList.nil (Then.go ?_)
    refine VCode.region ?_
    refine VList.go0 (n' := 33) rfl rfl (.move _ _ rfl) rfl ?_
    refine VList.go0 (n' := 34) rfl rfl (.move _ _ rfl) rfl ?_
    refine VList.go0 (n' := 35) rfl rfl (.move _ _ rfl) rfl ?_
    refine VList.go0 (n' := 36) rfl rfl (.bin _ _ _ _ _ _ _ _ rfl rfl (bop_quo_i64 (by first | omega | (simp; done) | (simp; omega)) (by first | omega | (simp; done) | (simp; omega)) (by first | omega | (simp; done) | (simp; omega)))) rfl ?_
    refine VList.go0 (n' := 37) rfl rfl (.bin _ _ _ _ _ _ _ _ rfl rfl (bop_add_i64 (by first | omega | (simp; done) | (simp; omega)))) rfl ?_
    refine VList.go0 (n' := 38) rfl rfl (.bin _ _ _ _ _ _ _ _ rfl rfl (bop_add_i64 (by first | omega | (simp; done) | (simp; omega)))) rfl ?_
    refine VList.go0 (n' := 39) rfl rfl (.move _ _ rfl) rfl ?_
    refine VList.go0 (n' := 40) rfl rfl (.bin _ _ _ _ _ _ _ _ rfl rfl (bop_shrL_u64 (q := 4294967296) (by decide) (by decide) (by decide))) rfl ?_
    refine VList.go0 (n' := 41) rfl rfl (Eff.convM_u32 rfl Try.underlying62 Try.underlying51) rfl ?_
    refine VList.go0 (n' := 42) rfl rfl (Eff.indexRow rfl rfl Try.underlying22 P_sz51 (by first | omega | (simp; done) | (simp; omega)) (by first | omega | (simp; done) | (simp; omega))) rfl ?_
    refine VList.goS (n' := 43) rfl rfl (Eff.store32 rfl rfl rfl P_sz51 (by first | omega | (simp; done) | (simp; omega))) rfl ?_
    refine VList.nil (InBlock.go (Then.go ?_))
    refine VCode.region ?_
    refine VList.go0 (n' := 44) rfl rfl (.bin _ _ _ _ _ _ _ _ rfl rfl (bop_add_i64 (by first | omega | (simp; done) | (simp; omega)))) rfl ?_
    refine VList.go0 (n' := 45) rfl rfl (.move _ _ rfl) rfl ?_
    exact VList.nil (Round.go (k + 1, ((O).set ((((k : Int)) + (n / 32)).toNat) ((O).getD ((((k : Int)) + (n / 32)).toNat) 0 + (((L).getD (k) 0 * 2 ^ (n % 32).toNat) % 4294967296))).set (((((k : Int)) + (n / 32)) + 1).toNat) ((((L).getD (k) 0 * 2 ^ (n % 32).toNat) / 4294967296) % 4294967296)) (by show LeftInv L (((O).set ((((k : Int)) + (n / 32)).toNat) ((O).getD ((((k : Int)) + (n / 32)).toNat) 0 + (((L).getD (k) 0 * 2 ^ (n % 32).toNat) % 4294967296))).set (((((k : Int)) + (n / 32)) + 1).toNat) ((((L).getD (k) 0 * 2 ^ (n % 32).toNat) / 4294967296) % 4294967296)) _ _ (k + 1); rw [hi, hi1]; exact hok.step oL (by omega) (by omega) rfl) (by first | (dsimp only; omega) | omega) (Weak.of (show 0 ≤ 8 by decide) ⟨⟨rfl, rfl⟩, ⟨⟨rfl, rfl⟩, ⟨⟨rfl, rfl⟩, ⟨⟨rfl, rfl⟩, ⟨⟨rfl, rfl⟩, trivial⟩⟩⟩⟩⟩ ⟨⟨rfl, (show 7 < 8 by decide), row_cells⟩, trivial⟩))
  · replace hc1 := of_decide_eq_false hc1
    refine VCode.exit (Then.exit (Round.exit (InBlock.here (Then.go ?_))))
    refine VCode.seq ?_
    have hle := hok.le
    have hO := hok.len
    have e1 := hok.fin (m := n.toNat) (by omega) (by omega)
    refine VCode.region ?_
    refine VList.go0 (n' := 10) rfl rfl (.move _ _ rfl) rfl ?_
    refine VList.goN (n' := 11) rfl rfl (.callV _ _ _ _ _ _ rfl (ress_cons (res_row rfl (by first | omega | (simp; done) | (simp; omega) | (simp [*]; done) | (simp [*]; omega))) ress_nil) (f64 _ (by first | omega | (simp; done) | (simp; omega)) (hok.ok))) rfl ?_
    refine VList.go0 (n' := 12) rfl rfl (.assign _ _ rfl) rfl ?_
    refine VList.nil (Then.go ?_)
    exact VCode.ret (⟨trivial, [u32S (dg (val (O)))], (resVars_cons (resVar_tmp rfl rfl) resVars_nil), (by rw [e1]; rfl)⟩)
theorem f74 (A B : List Int) (hA : A.length ≤ 900000000) (hB : B.length ≤ 900000000) (oA : ok32 A) (oB : ok32 B) (hn : A.length ≠ B.length → cmp3 (val A) (val B) = if A.length < B.length then -1 else 1) : VF Try.prog 74 [u32S (A), u32S (B)] (numB .i64 (cmp3 (val A) (val B))) := by
  refine VF_of P_mixed Try.func74 rfl rfl (by kernel_rfl) ?_
  refine VCode.seq ?_
  refine VCode.region ?_
  refine VList.go0 (n' := 1) rfl rfl (.assign _ _ rfl) rfl ?_
  refine VList.nil (Then.go ?_)
  refine VCode.seq ?_
  refine VCode.seq ?_
  refine VCode.region ?_
  refine VList.go0 (n' := 2) rfl rfl (.move _ _ rfl) rfl ?_
  refine VList.go0 (n' := 3) rfl rfl (Eff.lenS rfl Try.underlying22) rfl ?_
  refine VList.go0 (n' := 4) rfl rfl (.move _ _ rfl) rfl ?_
  refine VList.go0 (n' := 5) rfl rfl (Eff.lenS rfl Try.underlying22) rfl ?_
  refine VList.go0 (n' := 6) rfl rfl (.bin _ _ _ _ _ _ _ _ rfl rfl rfl) rfl ?_
  refine VList.nil (Then.go ?_)
  refine VCode.cond _ rfl (fun hc1 => ?_) (fun hc1 => ?_)
  · replace hc1 := bne_iff_ne.1 hc1
    refine VCode.seq ?_
    refine VCode.seq ?_
    refine VCode.region ?_
    refine VList.go0 (n' := 7) rfl rfl (.move _ _ rfl) rfl ?_
    refine VList.go0 (n' := 8) rfl rfl (Eff.lenS rfl Try.underlying22) rfl ?_
    refine VList.go0 (n' := 9) rfl rfl (.move _ _ rfl) rfl ?_
    refine VList.go0 (n' := 10) rfl rfl (Eff.lenS rfl Try.underlying22) rfl ?_
    refine VList.go0 (n' := 11) rfl rfl (.bin _ _ _ _ _ _ _ _ rfl rfl rfl) rfl ?_
    refine VList.nil (Then.go ?_)
    refine VCode.cond _ rfl (fun hc2 => ?_) (fun hc2 => ?_)
    · replace hc2 := of_decide_eq_true hc2
      refine VCode.seq ?_
      refine VCode.region ?_
      refine VList.go0 (n' := 12) rfl rfl (.assign _ _ rfl) rfl ?_
      refine VList.nil (Then.go ?_)
      exact VCode.ret (Then.ret (Then.ret (⟨trivial, [numB .i64 ((-1))], (resVars_cons (resVar_tmp rfl rfl) resVars_nil), (by rw [hn (by omega), if_pos (by omega)]; rfl)⟩)))
    · replace hc2 := of_decide_eq_false hc2
      refine VCode.skip (Then.go ?_)
      refine VCode.seq ?_
      refine VCode.region ?_
      refine VList.go0 (n' := 12) rfl rfl (.assign _ _ rfl) rfl ?_
      refine VList.nil (Then.go ?_)
      exact VCode.ret (Then.ret (⟨trivial, [numB .i64 (1)], (resVars_cons (resVar_tmp rfl rfl) resVars_nil), (by rw [hn (by omega), if_neg (by omega)]; rfl)⟩))
  · replace hc1 := bne_eq_false_iff_eq.1 hc1
    refine VCode.skip (Then.go ?_)
    refine VCode.seq ?_
    refine VCode.seq ?_
    refine VCode.region ?_
    refine VList.go0 (n' := 7) rfl rfl (.move _ _ rfl) rfl ?_
    refine VList.go0 (n' := 8) rfl rfl (Eff.lenS rfl Try.underlying22) rfl ?_
    refine VList.go0 (n' := 9) rfl rfl (.move _ _ rfl) rfl ?_
    refine VList.nil (Then.go ?_)
    refine VCode.block ?_
    refine VCode.loop (α := (Nat)) (fun (n : (Nat)) => (0, sl [(0, vS (A)), (1, vS (B)), (18, vI .i64 (((A).length : Int))), (19, vI .i64 ((n : Int)))], en [])) (fun (n : (Nat)) => CmpInv A B n) (fun (n : (Nat)) => A.length - n) (0) (CmpInv.start (by omega)) (Weak.of (show 0 ≤ 0 by decide) ⟨⟨rfl, rfl⟩, ⟨⟨rfl, rfl⟩, ⟨⟨rfl, rfl⟩, ⟨⟨rfl, rfl⟩, trivial⟩⟩⟩⟩ trivial) ?_
    intro n hok
    show VCode Try.prog 0 _ 0 (sl [(0, vS (A)), (1, vS (B)), (18, vI .i64 (((A).length : Int))), (19, vI .i64 ((n : Int)))]) (en []) _
    refine VCode.seq ?_
    refine VCode.region ?_
    refine VList.go0 (n' := 1) rfl rfl (.bin _ _ _ _ _ _ _ _ rfl rfl rfl) rfl ?_
    refine VList.nil (Then.go ?_)
    refine VCode.seq ?_
    refine VCode.cond _ rfl (fun hc3 => ?_) (fun hc3 => ?_)
    · replace hc3 := of_decide_eq_true hc3
      refine VCode.skip (Then.go ?_)
      refine VCode.seq ?_
      refine VCode.block ?_
      refine VCode.seq ?_
      refine VCode.region ?_
      refine VList.go0 (n' := 2) rfl rfl (.move _ _ rfl) rfl ?_
      refine VList.go0 (n' := 3) rfl rfl (.assign _ _ rfl) rfl ?_
      refine VList.nil (Then.go ?_)
      refine VCode.seq ?_
      refine VCode.region ?_
      refine VList.go0 (n' := 4) rfl rfl (.move _ _ rfl) rfl ?_
      refine VList.go0 (n' := 5) rfl rfl (Eff.lenS rfl Try.underlying22) rfl ?_
      refine VList.go0 (n' := 6) rfl rfl (.bin _ _ _ _ _ _ _ _ rfl rfl (bop_sub_i64 (by first | omega | (simp; done) | (simp; omega)))) rfl ?_
      refine VList.go0 (n' := 7) rfl rfl (.move _ _ rfl) rfl ?_
      refine VList.go0 (n' := 8) rfl rfl (.bin _ _ _ _ _ _ _ _ rfl rfl (bop_sub_i64 (by first | omega | (simp; done) | (simp; omega)))) rfl ?_
      refine VList.go0 (n' := 9) rfl rfl (.assign _ _ rfl) rfl ?_
      refine VList.nil (Then.go ?_)
      refine VCode.seq ?_
      have hlen := hok.len
      refine VCode.draw (by kernel_rfl) ?_
      refine VLog.go0 (n' := 10) rfl rfl (.move _ _ rfl) rfl ?_
      refine VLog.go0 (n' := 11) rfl rfl (.move _ _ rfl) rfl ?_
      refine VLog.go0 (n' := 12) rfl rfl (Eff.indexRd rfl rfl Try.underlying22 P_sz51 (by first | omega | (simp; done) | (simp; omega)) (by first | omega | (simp; done) | (simp; omega))) rfl ?_
      refine VLog.go0 (n' := 13) rfl rfl (.loadRd1 _ _ _ _ rfl P_agg51 rfl) rfl ?_
      refine VLog.go0 (n' := 14) rfl rfl (.move _ _ rfl) rfl ?_
      refine VLog.go0 (n' := 15) rfl rfl (.move _ _ rfl) rfl ?_
      refine VLog.go0 (n' := 16) rfl rfl (Eff.indexRd rfl rfl Try.underlying22 P_sz51 (by first | omega | (simp; done) | (simp; omega)) (by first | omega | (simp; done) | (simp; omega))) rfl ?_
      refine VLog.go0 (n' := 17) rfl rfl (.loadRd1 _ _ _ _ rfl P_agg51 rfl) rfl ?_
      refine VLog.go0 (n' := 18) rfl rfl (.bin _ _ _ _ _ _ _ _ rfl rfl rfl) rfl ?_
      refine VLog.nil ⟨by kernel_rfl, Then.go ?_⟩
      refine VCode.cond _ rfl (fun hc4 => ?_) (fun hc4 => ?_)
      · replace hc4 := bne_iff_ne.1 hc4
        refine VCode.seq ?_
        refine VCode.seq ?_
        refine VCode.draw (by kernel_rfl) ?_
        refine VLog.go0 (n' := 19) rfl rfl (.move _ _ rfl) rfl ?_
        refine VLog.go0 (n' := 20) rfl rfl (.move _ _ rfl) rfl ?_
        refine VLog.go0 (n' := 21) rfl rfl (Eff.indexRd rfl rfl Try.underlying22 P_sz51 (by first | omega | (simp; done) | (simp; omega)) (by first | omega | (simp; done) | (simp; omega))) rfl ?_
        refine VLog.go0 (n' := 22) rfl rfl (.loadRd1 _ _ _ _ rfl P_agg51 rfl) rfl ?_
        refine VLog.go0 (n' := 23) rfl rfl (.move _ _ rfl) rfl ?_
        refine VLog.go0 (n' := 24) rfl rfl (.move _ _ rfl) rfl ?_
        refine VLog.go0 (n' := 25) rfl rfl (Eff.indexRd rfl rfl Try.underlying22 P_sz51 (by first | omega | (simp; done) | (simp; omega)) (by first | omega | (simp; done) | (simp; omega))) rfl ?_
        refine VLog.go0 (n' := 26) rfl rfl (.loadRd1 _ _ _ _ rfl P_agg51 rfl) rfl ?_
        refine VLog.go0 (n' := 27) rfl rfl (.bin _ _ _ _ _ _ _ _ rfl rfl rfl) rfl ?_
        refine VLog.nil ⟨by kernel_rfl, Then.go ?_⟩
        refine VCode.cond _ rfl (fun hc5 => ?_) (fun hc5 => ?_)
        · replace hc5 := of_decide_eq_true hc5
          refine VCode.seq ?_
          refine VCode.region ?_
          refine VList.go0 (n' := 28) rfl rfl (.assign _ _ rfl) rfl ?_
          refine VList.nil (Then.go ?_)
          exact VCode.ret (Then.ret (InBlock.ret (Then.ret (Round.ret (InBlock.ret (Then.ret (⟨trivial, [numB .i64 ((-1))], (resVars_cons (resVar_tmp rfl rfl) resVars_nil), (by rw [hok.diff (q := ((((A).length : Int) - 1) - (n : Int)).toNat) oA oB (by omega) hc4, if_pos hc5]; rfl)⟩)))))))
        · replace hc5 := of_decide_eq_false hc5
          refine VCode.skip (Then.go ?_)
          refine VCode.seq ?_
          refine VCode.region ?_
          refine VList.go0 (n' := 28) rfl rfl (.assign _ _ rfl) rfl ?_
          refine VList.nil (Then.go ?_)
          exact VCode.ret (InBlock.ret (Then.ret (Round.ret (InBlock.ret (Then.ret (⟨trivial, [numB .i64 (1)], (resVars_cons (resVar_tmp rfl rfl) resVars_nil), (by rw [hok.diff (q := ((((A).length : Int) - 1) - (n : Int)).toNat) oA oB (by omega) hc4, if_neg hc5]; rfl)⟩))))))
      · replace hc4 := bne_eq_false_iff_eq.1 hc4
        refine VCode.skip (InBlock.go (Then.go ?_))
        refine VCode.region ?_
        refine VList.go0 (n' := 19) rfl rfl (.bin _ _ _ _ _ _ _ _ rfl rfl (bop_add_i64 (by first | omega | (simp; done) | (simp; omega)))) rfl ?_
        refine VList.go0 (n' := 20) rfl rfl (.move _ _ rfl) rfl ?_
        exact VList.nil (Round.go (n + 1) (hok.step (q := ((((A).length : Int) - 1) - (n : Int)).toNat) (by omega) hc4) (by first | (dsimp only; omega) | omega) (Weak.of (show 0 ≤ 0 by decide) ⟨⟨rfl, rfl⟩, ⟨⟨rfl, rfl⟩, ⟨⟨rfl, rfl⟩, ⟨⟨rfl, rfl⟩, trivial⟩⟩⟩⟩ trivial))
    · replace hc3 := of_decide_eq_false hc3
      refine VCode.exit (Then.exit (Round.exit (InBlock.here (Then.go ?_))))
      refine VCode.seq ?_
      have hle := hok.le
      refine VCode.region ?_
      refine VList.go0 (n' := 2) rfl rfl (.assign _ _ rfl) rfl ?_
      refine VList.nil (Then.go ?_)
      exact VCode.ret (⟨trivial, [numB .i64 (0)], (resVars_cons (resVar_tmp rfl rfl) resVars_nil), (by rw [hok.fin (by omega)]; rfl)⟩)
theorem f54 (neg : Bool) (L : List Int) (hL : L.length ≤ 1000000000) (oL : ok32 L) : VF Try.prog 54 [boolB (neg), u32S (L)] (zR (sg neg (val L))) := by
  refine VF_of P_mixed Try.func54 rfl rfl (by kernel_rfl) ?_
  refine VCode.seq ?_
  refine VCode.region ?_
  refine VList.go1 (n' := 1) rfl rfl (.alloc _ _ P_zero24 (List.cons_ne_nil _ _)) rfl ?_
  refine VList.go0 (n' := 2) rfl rfl (.assign _ _ rfl) rfl ?_
  refine VList.nil (Then.go ?_)
  refine VCode.seq ?_
  refine VCode.region ?_
  refine VList.go0 (n' := 3) rfl rfl (.move _ _ rfl) rfl ?_
  refine VList.go0 (n' := 4) rfl rfl (Eff.callV0 rfl (ress_cons rfl ress_nil) (f64 _ (by first | omega | (simp; done) | (simp; omega)) (by first | omega | (simp; done) | (simp; omega))) rfl) rfl ?_
  refine VList.go0 (n' := 5) rfl rfl (.assign _ _ rfl) rfl ?_
  refine VList.nil (Then.go ?_)
  refine VCode.seq ?_
  refine VCode.seq ?_
  have hv := val_nonneg oL
  refine VCode.region ?_
  refine VList.go0 (n' := 6) rfl rfl (.move _ _ rfl) rfl ?_
  refine VList.go0 (n' := 7) rfl rfl (Eff.lenS rfl Try.underlying22) rfl ?_
  refine VList.go0 (n' := 8) rfl rfl (.bin _ _ _ _ _ _ _ _ rfl rfl rfl) rfl ?_
  refine VList.nil (Then.go ?_)
  refine VCode.cond _ rfl (fun hc1 => ?_) (fun hc1 => ?_)
  · replace hc1 := of_decide_eq_true hc1
    refine VCode.seq ?_
    refine VCode.region ?_
    refine VList.go0 (n' := 9) rfl rfl Eff.int0 rfl ?_
    refine VList.goS (n' := 10) rfl rfl (.store _ _ _ _ _ _ _ rfl rfl rfl rfl P_sz24 (Nat.le_of_ble_eq_true rfl) rfl) rfl ?_
    refine VList.go0 (n' := 11) rfl rfl (.assign _ _ rfl) rfl ?_
    refine VList.nil (Then.go ?_)
    exact VCode.ret (Then.ret (⟨trivial, [.agg [boolB (false), u32S ([])], numB .i64 (2)], (resVars_cons (resVar_cell rfl rfl P_agg24 P_sz24 (Nat.le_of_ble_eq_true rfl) rfl) (resVars_cons (resVar_tmp rfl rfl) resVars_nil)), (by obtain ⟨r1, r2, r3⟩ := res_big (neg := neg) hv hc1; rw [zR, r1, r2, r3]; rfl)⟩))
  · replace hc1 := of_decide_eq_false hc1
    refine VCode.skip (Then.go ?_)
    refine VCode.seq ?_
    refine VCode.region ?_
    refine VList.go0 (n' := 9) rfl rfl (.move _ _ rfl) rfl ?_
    refine VList.go0 (n' := 10) rfl rfl (Eff.lenS rfl Try.underlying22) rfl ?_
    refine VList.go1 (n' := 11) rfl rfl (Eff.makeRow rfl Try.underlying22 P_zero51 P_sz51 P_bytes51 (by first | omega | (simp; done) | (simp; omega)) (by first | omega | (simp; done) | (simp; omega))) rfl ?_
    refine VList.go0 (n' := 12) rfl rfl (.assign _ _ rfl) rfl ?_
    refine VList.nil (Then.go ?_)
    refine VCode.seq ?_
    refine VCode.region ?_
    refine VList.go0 (n' := 13) rfl rfl (.move _ _ rfl) rfl ?_
    refine VList.go0 (n' := 14) rfl rfl (.move _ _ rfl) rfl ?_
    refine VList.go1 (n' := 15) rfl rfl (Eff.copyRow rfl rfl (by first | omega | (simp; done) | (simp; omega)) rfl rfl Try.underlying22 P_sz51) rfl ?_
    refine VList.nil (Then.go ?_)
    refine VCode.seq ?_
    refine VCode.region ?_
    refine VList.go0 (n' := 16) rfl rfl (.move _ _ rfl) rfl ?_
    refine VList.go0 (n' := 17) rfl rfl (.move _ _ rfl) rfl ?_
    refine VList.split (d := 20) _ rfl (fun hc2 => ?_) (fun hc2 => ?_)
    · (try simp at hc2)
      refine VList.go0 (n' := 18) rfl rfl (.move _ _ rfl) rfl ?_
      refine VList.go0 (n' := 19) rfl rfl (Eff.lenS rfl Try.underlying22) rfl ?_
      refine VList.go0 (n' := 20) rfl rfl (.bin _ _ _ _ _ _ _ _ rfl rfl rfl) rfl ?_
      refine VList.go0 (n' := 21) rfl rfl (.pick _ _ _ _ _ rfl rfl) rfl ?_
      refine VList.go0 (n' := 22) rfl rfl (.move _ _ rfl) rfl ?_
      refine VList.go0 (n' := 23) rfl rfl (Eff.int2 rfl rfl rfl rfl) rfl ?_
      refine VList.goS (n' := 24) rfl rfl (.store _ _ _ _ _ _ _ rfl rfl rfl rfl P_sz24 (Nat.le_of_ble_eq_true rfl) rfl) rfl ?_
      refine VList.go0 (n' := 25) rfl rfl (.assign _ _ rfl) rfl ?_
      refine VList.nil (Then.go ?_)
      exact VCode.ret (⟨trivial, [.agg [boolB (decide (((dg (val (L))).length : Int) > 0)), u32S ((dg (val (L))).take (Nat.min (dg (val (L))).length ((((dg (val (L))).length : Int)).toNat)) ++ (List.replicate (((dg (val (L))).length : Int)).toNat 0).drop (Nat.min (dg (val (L))).length ((((dg (val (L))).length : Int)).toNat)))], numB .i64 (0)], (resVars_cons (resVar_cell rfl rfl P_agg24 P_sz24 (Nat.le_of_ble_eq_true rfl) (res_agg rfl (by simp))) (resVars_cons (resVar_tmp rfl rfl) resVars_nil)), (by obtain ⟨r1, r2, r3⟩ := res_small (neg := neg) hv hc1; rw [zR, r1, r2, r3, copy_all, hc2, Bool.true_and]; rfl)⟩)
    · (try simp at hc2)
      refine VList.skip (n' := 18) rfl rfl rfl ?_
      refine VList.skip (n' := 19) rfl rfl rfl ?_
      refine VList.skip (n' := 20) rfl rfl rfl ?_
      refine VList.go0 (n' := 21) rfl rfl (.pick _ _ _ _ _ rfl rfl) rfl ?_
      refine VList.go0 (n' := 22) rfl rfl (.move _ _ rfl) rfl ?_
      refine VList.go0 (n' := 23) rfl rfl (Eff.int2 rfl rfl rfl rfl) rfl ?_
      refine VList.goS (n' := 24) rfl rfl (.store _ _ _ _ _ _ _ rfl rfl rfl rfl P_sz24 (Nat.le_of_ble_eq_true rfl) rfl) rfl ?_
      refine VList.go0 (n' := 25) rfl rfl (.assign _ _ rfl) rfl ?_
      refine VList.nil (Then.go ?_)
      exact VCode.ret (⟨trivial, [.agg [boolB (false), u32S ((dg (val (L))).take (Nat.min (dg (val (L))).length ((((dg (val (L))).length : Int)).toNat)) ++ (List.replicate (((dg (val (L))).length : Int)).toNat 0).drop (Nat.min (dg (val (L))).length ((((dg (val (L))).length : Int)).toNat)))], numB .i64 (0)], (resVars_cons (resVar_cell rfl rfl P_agg24 P_sz24 (Nat.le_of_ble_eq_true rfl) (res_agg rfl (by simp))) (resVars_cons (resVar_tmp rfl rfl) resVars_nil)), (by obtain ⟨r1, r2, r3⟩ := res_small (neg := neg) hv hc1; rw [zR, r1, r2, r3, copy_all, hc2, Bool.false_and]; rfl)⟩)
theorem f75 (n : Bool) (A : List Int) (m : Bool) (B : List Int) (hA : A.length ≤ 128) (hB : B.length ≤ 128) (nA : norm A) (nB : norm B) : VF Try.prog 75 [boolB (n), u32S (A), boolB (m), u32S (B)] (zR (sg n (val A) + sg m (val B))) := by
  refine VF_of P_mixed Try.func75 rfl rfl (by kernel_rfl) ?_
  refine VCode.seq ?_
  refine VCode.region ?_
  refine VList.go1 (n' := 1) rfl rfl (.alloc _ _ P_zero24 (List.cons_ne_nil _ _)) rfl ?_
  refine VList.go0 (n' := 2) rfl rfl (.assign _ _ rfl) rfl ?_
  refine VList.nil (Then.go ?_)
  refine VCode.seq ?_
  refine VCode.seq ?_
  have oA := nA.1
  have oB := nB.1
  have vA := val_nonneg oA
  have vB := val_nonneg oB
  have la := len_dg (v := val A + val B) (by omega) 129
  have lb := val_lt oA
  have lc := val_lt oB
  refine VCode.region ?_
  refine VList.go0 (n' := 3) rfl rfl (.move _ _ rfl) rfl ?_
  refine VList.go0 (n' := 4) rfl rfl (.move _ _ rfl) rfl ?_
  refine VList.go0 (n' := 5) rfl rfl (.binB _ _ _ _ _ _ _ _ rfl rfl Try.underlying4 rfl) rfl ?_
  refine VList.nil (Then.go ?_)
  refine VCode.cond _ rfl (fun hc1 => ?_) (fun hc1 => ?_)
  · replace hc1 := eq_of_beq hc1
    refine VCode.seq ?_
    refine VCode.region ?_
    refine VList.go0 (n' := 6) rfl rfl (.move _ _ rfl) rfl ?_
    refine VList.go0 (n' := 7) rfl rfl (.move _ _ rfl) rfl ?_
    refine VList.go0 (n' := 8) rfl rfl (.move _ _ rfl) rfl ?_
    refine VList.go0 (n' := 9) rfl rfl (Eff.callV0 rfl (ress_cons rfl (ress_cons rfl ress_nil)) (f52 _ _ (by first | omega | (simp; done) | (simp; omega)) (by first | omega | (simp; done) | (simp; omega)) (by first | omega | (simp; done) | (simp; omega)) (by first | omega | (simp; done) | (simp; omega))) rfl) rfl ?_
    refine VList.go0 (n' := 10) rfl rfl (Eff.callV0 rfl (ress_cons rfl (ress_cons rfl ress_nil)) (f54 _ _ (add_len nA.1 nB.1 hA hB) (ok32_dg _)) rfl) rfl ?_
    refine VList.go0 (n' := 11) rfl rfl (.extract _ _ _ _ rfl rfl) rfl ?_
    refine VList.go0 (n' := 12) rfl rfl (.extract _ _ _ _ rfl rfl) rfl ?_
    refine VList.goS (n' := 13) rfl rfl (.store _ _ _ _ _ _ _ rfl rfl rfl rfl P_sz24 (Nat.le_of_ble_eq_true rfl) rfl) rfl ?_
    refine VList.go0 (n' := 14) rfl rfl (.assign _ _ rfl) rfl ?_
    refine VList.nil (Then.go ?_)
    exact VCode.ret (Then.ret (⟨trivial, [.agg [boolB (zN (sg (n) (val (dg (val (A) + val (B)))))), u32S (zL (sg (n) (val (dg (val (A) + val (B))))))], numB .i64 (zE (sg (n) (val (dg (val (A) + val (B))))))], (resVars_cons (resVar_cell rfl rfl P_agg24 P_sz24 (Nat.le_of_ble_eq_true rfl) rfl) (resVars_cons (resVar_tmp rfl rfl) resVars_nil)), (by rw [val_dg (by omega), sg_add, ← hc1]; rfl)⟩))
  · replace hc1 := ne_of_beq_false hc1
    refine VCode.skip (Then.go ?_)
    refine VCode.seq ?_
    refine VCode.seq ?_
    refine VCode.region ?_
    refine VList.go0 (n' := 6) rfl rfl (.move _ _ rfl) rfl ?_
    refine VList.go0 (n' := 7) rfl rfl (.move _ _ rfl) rfl ?_
    refine VList.go0 (n' := 8) rfl rfl (.callF _ _ _ _ _ _ rfl (ress_cons rfl (ress_cons rfl ress_nil)) (f74 _ _ (by first | omega | (simp; done) | (simp; omega)) (by first | omega | (simp; done) | (simp; omega)) (by first | omega | (simp; done) | (simp; omega)) (by first | omega | (simp; done) | (simp; omega)) (fun h => cmp_len nA nB h)) rfl) rfl ?_
    refine VList.go0 (n' := 9) rfl rfl (.bin _ _ _ _ _ _ _ _ rfl rfl rfl) rfl ?_
    refine VList.nil (Then.go ?_)
    refine VCode.cond _ rfl (fun hc2 => ?_) (fun hc2 => ?_)
    · replace hc2 := of_decide_eq_true hc2
      refine VCode.seq ?_
      refine VCode.region ?_
      refine VList.go0 (n' := 10) rfl rfl (.move _ _ rfl) rfl ?_
      refine VList.go0 (n' := 11) rfl rfl (.move _ _ rfl) rfl ?_
      refine VList.go0 (n' := 12) rfl rfl (.move _ _ rfl) rfl ?_
      refine VList.go0 (n' := 13) rfl rfl (Eff.callV0 rfl (ress_cons rfl (ress_cons rfl ress_nil)) (f53 _ _ (by first | omega | (simp; done) | (simp; omega)) (by first | omega | (simp; done) | (simp; omega)) (by first | omega | (simp; done) | (simp; omega)) (by first | omega | (simp; done) | (simp; omega)) (norm_le_len nA nB (Int.le_of_lt (cmp3_lt.1 hc2))) (Int.le_of_lt (cmp3_lt.1 hc2))) rfl) rfl ?_
      refine VList.go0 (n' := 14) rfl rfl (Eff.callV0 rfl (ress_cons rfl (ress_cons rfl ress_nil)) (f54 _ _ (sub_len nB.1 nA.1 hB) (ok32_dg _)) rfl) rfl ?_
      refine VList.go0 (n' := 15) rfl rfl (.extract _ _ _ _ rfl rfl) rfl ?_
      refine VList.go0 (n' := 16) rfl rfl (.extract _ _ _ _ rfl rfl) rfl ?_
      refine VList.goS (n' := 17) rfl rfl (.store _ _ _ _ _ _ _ rfl rfl rfl rfl P_sz24 (Nat.le_of_ble_eq_true rfl) rfl) rfl ?_
      refine VList.go0 (n' := 18) rfl rfl (.assign _ _ rfl) rfl ?_
      refine VList.nil (Then.go ?_)
      exact VCode.ret (Then.ret (⟨trivial, [.agg [boolB (zN (sg (m) (val (dg (val (B) - val (A)))))), u32S (zL (sg (m) (val (dg (val (B) - val (A))))))], numB .i64 (zE (sg (m) (val (dg (val (B) - val (A))))))], (resVars_cons (resVar_cell rfl rfl P_agg24 P_sz24 (Nat.le_of_ble_eq_true rfl) rfl) (resVars_cons (resVar_tmp rfl rfl) resVars_nil)), (by have h2 := cmp3_lt.1 hc2; rw [val_dg (by omega), sg_mix hc1]; rfl)⟩))
    · replace hc2 := of_decide_eq_false hc2
      refine VCode.skip (Then.go ?_)
      refine VCode.seq ?_
      refine VCode.region ?_
      refine VList.go0 (n' := 10) rfl rfl (.move _ _ rfl) rfl ?_
      refine VList.go0 (n' := 11) rfl rfl (.move _ _ rfl) rfl ?_
      refine VList.go0 (n' := 12) rfl rfl (.move _ _ rfl) rfl ?_
      refine VList.go0 (n' := 13) rfl rfl (Eff.callV0 rfl (ress_cons rfl (ress_cons rfl ress_nil)) (f53 _ _ (by first | omega | (simp; done) | (simp; omega)) (by first | omega | (simp; done) | (simp; omega)) (by first | omega | (simp; done) | (simp; omega)) (by first | omega | (simp; done) | (simp; omega)) (norm_le_len nB nA (by have := mt cmp3_lt.2 hc2; omega)) ((by have := mt cmp3_lt.2 hc2; omega))) rfl) rfl ?_
      refine VList.go0 (n' := 14) rfl rfl (Eff.callV0 rfl (ress_cons rfl (ress_cons rfl ress_nil)) (f54 _ _ (sub_len nA.1 nB.1 hA) (ok32_dg _)) rfl) rfl ?_
      refine VList.go0 (n' := 15) rfl rfl (.extract _ _ _ _ rfl rfl) rfl ?_
      refine VList.go0 (n' := 16) rfl rfl (.extract _ _ _ _ rfl rfl) rfl ?_
      refine VList.goS (n' := 17) rfl rfl (.store _ _ _ _ _ _ _ rfl rfl rfl rfl P_sz24 (Nat.le_of_ble_eq_true rfl) rfl) rfl ?_
      refine VList.go0 (n' := 18) rfl rfl (.assign _ _ rfl) rfl ?_
      refine VList.nil (Then.go ?_)
      exact VCode.ret (⟨trivial, [.agg [boolB (zN (sg (n) (val (dg (val (A) - val (B)))))), u32S (zL (sg (n) (val (dg (val (A) - val (B))))))], numB .i64 (zE (sg (n) (val (dg (val (A) - val (B))))))], (resVars_cons (resVar_cell rfl rfl P_agg24 P_sz24 (Nat.le_of_ble_eq_true rfl) rfl) (resVars_cons (resVar_tmp rfl rfl) resVars_nil)), (by have h2 := mt cmp3_lt.2 hc2; rw [val_dg (by omega), sg_mix' hc1]; rfl)⟩)
theorem f38 (n : Bool) (A : List Int) (m : Bool) (B : List Int) (hA : A.length ≤ 9223372036854775807) (hB : B.length ≤ 9223372036854775807) (oA : ok32 A) (oB : ok32 B) : VF Try.prog 38 [.agg [boolB (n), u32S (A)], .agg [boolB (m), u32S (B)]] (gR (validB n A && validB m B) (zOf n A + zOf m B)) := by
  refine VF_of P_mixed Try.func38 rfl rfl (by kernel_rfl) ?_
  refine VCode.seq ?_
  refine VCode.region ?_
  refine VList.go1 (n' := 1) rfl rfl (.box _ _ _ rfl (List.cons_ne_nil _ _) rfl) rfl ?_
  refine VList.go1 (n' := 2) rfl rfl (.box _ _ _ rfl (List.cons_ne_nil _ _) rfl) rfl ?_
  refine VList.go1 (n' := 3) rfl rfl (.alloc _ _ P_zero24 (List.cons_ne_nil _ _)) rfl ?_
  refine VList.go0 (n' := 4) rfl rfl (.assign _ _ rfl) rfl ?_
  refine VList.nil (Then.go ?_)
  refine VCode.seq ?_
  refine VCode.seq ?_
  refine VCode.region ?_
  refine VList.go0 (n' := 5) rfl rfl (.loadS _ _ _ _ _ _ rfl rfl P_agg24 P_sz24 (Nat.le_of_ble_eq_true rfl)) rfl ?_
  refine VList.go0 (n' := 6) rfl rfl (.loadS _ _ _ _ _ _ rfl rfl P_agg24 P_sz24 (Nat.le_of_ble_eq_true rfl)) rfl ?_
  refine VList.go0 (n' := 7) rfl rfl (.callF _ _ _ _ _ _ rfl (ress_cons rfl (ress_cons rfl ress_nil)) (f50 _ _ _ _ (by first | omega | (simp; done) | (simp; omega)) (by first | omega | (simp; done) | (simp; omega))) rfl) rfl ?_
  refine VList.go0 (n' := 8) rfl rfl (.un _ _ _ _ _ rfl rfl) rfl ?_
  refine VList.nil (Then.go ?_)
  refine VCode.cond _ rfl (fun hc1 => ?_) (fun hc1 => ?_)
  · replace hc1 := (bnot_t hc1)
    refine VCode.seq ?_
    refine VCode.region ?_
    refine VList.go0 (n' := 9) rfl rfl Eff.int0 rfl ?_
    refine VList.goS (n' := 10) rfl rfl (.store _ _ _ _ _ _ _ rfl rfl rfl rfl P_sz24 (Nat.le_of_ble_eq_true rfl) rfl) rfl ?_
    refine VList.go0 (n' := 11) rfl rfl (.assign _ _ rfl) rfl ?_
    refine VList.nil (Then.go ?_)
    exact VCode.ret (Then.ret (⟨trivial, [.agg [boolB (false), u32S ([])], numB .i64 (1)], (resVars_cons (resVar_cell rfl rfl P_agg24 P_sz24 (Nat.le_of_ble_eq_true rfl) rfl) (resVars_cons (resVar_tmp rfl rfl) resVars_nil)), (by rw [gR_false hc1]; rfl)⟩))
  · replace hc1 := (bnot_f hc1)
    refine VCode.skip (Then.go ?_)
    refine VCode.seq ?_
    obtain ⟨v1, v2⟩ := Bool.and_eq_true_iff.1 hc1
    obtain ⟨nA, lA, sA⟩ := valid_norm oA v1
    obtain ⟨nB, lB, sB⟩ := valid_norm oB v2
    refine VCode.region ?_
    refine VList.go0 (n' := 9) rfl rfl (.fieldAddr _ _ _ _ _ _ _ _ rfl P_fld24_0) rfl ?_
    refine VList.go0 (n' := 10) rfl rfl (.load1 _ _ _ _ _ _ rfl rfl P_agg4 rfl) rfl ?_
    refine VList.go0 (n' := 11) rfl rfl (.fieldAddr _ _ _ _ _ _ _ _ rfl P_fld24_1) rfl ?_
    refine VList.go0 (n' := 12) rfl rfl (.load1 _ _ _ _ _ _ rfl rfl P_agg22 rfl) rfl ?_
    refine VList.go0 (n' := 13) rfl rfl (.fieldAddr _ _ _ _ _ _ _ _ rfl P_fld24_0) rfl ?_
    refine VList.go0 (n' := 14) rfl rfl (.load1 _ _ _ _ _ _ rfl rfl P_agg4 rfl) rfl ?_
    refine VList.go0 (n' := 15) rfl rfl (.fieldAddr _ _ _ _ _ _ _ _ rfl P_fld24_1) rfl ?_
    refine VList.go0 (n' := 16) rfl rfl (.load1 _ _ _ _ _ _ rfl rfl P_agg22 rfl) rfl ?_
    refine VList.go0 (n' := 17) rfl rfl (Eff.callV0 rfl (ress_cons rfl (ress_cons rfl (ress_cons rfl (ress_cons rfl ress_nil)))) (f75 _ _ _ _ (by first | omega | (simp; done) | (simp; omega)) (by first | omega | (simp; done) | (simp; omega)) (nA) (nB)) rfl) rfl ?_
    refine VList.go0 (n' := 18) rfl rfl (.extract _ _ _ _ rfl rfl) rfl ?_
    refine VList.go0 (n' := 19) rfl rfl (.extract _ _ _ _ rfl rfl) rfl ?_
    refine VList.goS (n' := 20) rfl rfl (.store _ _ _ _ _ _ _ rfl rfl rfl rfl P_sz24 (Nat.le_of_ble_eq_true rfl) rfl) rfl ?_
    refine VList.go0 (n' := 21) rfl rfl (.assign _ _ rfl) rfl ?_
    refine VList.nil (Then.go ?_)
    exact VCode.ret (⟨trivial, [.agg [boolB (zN (sg (n) (val (A)) + sg (m) (val (B)))), u32S (zL (sg (n) (val (A)) + sg (m) (val (B))))], numB .i64 (zE (sg (n) (val (A)) + sg (m) (val (B))))], (resVars_cons (resVar_cell rfl rfl P_agg24 P_sz24 (Nat.le_of_ble_eq_true rfl) rfl) (resVars_cons (resVar_tmp rfl rfl) resVars_nil)), (by rw [gR_true hc1]; rfl)⟩)
theorem f40 (n : Bool) (A : List Int) (m : Bool) (B : List Int) (hA : A.length ≤ 9223372036854775807) (hB : B.length ≤ 9223372036854775807) (oA : ok32 A) (oB : ok32 B) : VF Try.prog 40 [.agg [boolB (n), u32S (A)], .agg [boolB (m), u32S (B)]] (gR (validB n A && validB m B) (zOf n A - zOf m B)) := by
  refine VF_of P_mixed Try.func40 rfl rfl (by kernel_rfl) ?_
  refine VCode.seq ?_
  refine VCode.region ?_
  refine VList.go1 (n' := 1) rfl rfl (.box _ _ _ rfl (List.cons_ne_nil _ _) rfl) rfl ?_
  refine VList.go1 (n' := 2) rfl rfl (.box _ _ _ rfl (List.cons_ne_nil _ _) rfl) rfl ?_
  refine VList.go1 (n' := 3) rfl rfl (.alloc _ _ P_zero24 (List.cons_ne_nil _ _)) rfl ?_
  refine VList.go0 (n' := 4) rfl rfl (.assign _ _ rfl) rfl ?_
  refine VList.nil (Then.go ?_)
  refine VCode.seq ?_
  refine VCode.seq ?_
  refine VCode.region ?_
  refine VList.go0 (n' := 5) rfl rfl (.loadS _ _ _ _ _ _ rfl rfl P_agg24 P_sz24 (Nat.le_of_ble_eq_true rfl)) rfl ?_
  refine VList.go0 (n' := 6) rfl rfl (.loadS _ _ _ _ _ _ rfl rfl P_agg24 P_sz24 (Nat.le_of_ble_eq_true rfl)) rfl ?_
  refine VList.go0 (n' := 7) rfl rfl (.callF _ _ _ _ _ _ rfl (ress_cons rfl (ress_cons rfl ress_nil)) (f50 _ _ _ _ (by first | omega | (simp; done) | (simp; omega)) (by first | omega | (simp; done) | (simp; omega))) rfl) rfl ?_
  refine VList.go0 (n' := 8) rfl rfl (.un _ _ _ _ _ rfl rfl) rfl ?_
  refine VList.nil (Then.go ?_)
  refine VCode.cond _ rfl (fun hc1 => ?_) (fun hc1 => ?_)
  · replace hc1 := (bnot_t hc1)
    refine VCode.seq ?_
    refine VCode.region ?_
    refine VList.go0 (n' := 9) rfl rfl Eff.int0 rfl ?_
    refine VList.goS (n' := 10) rfl rfl (.store _ _ _ _ _ _ _ rfl rfl rfl rfl P_sz24 (Nat.le_of_ble_eq_true rfl) rfl) rfl ?_
    refine VList.go0 (n' := 11) rfl rfl (.assign _ _ rfl) rfl ?_
    refine VList.nil (Then.go ?_)
    exact VCode.ret (Then.ret (⟨trivial, [.agg [boolB (false), u32S ([])], numB .i64 (1)], (resVars_cons (resVar_cell rfl rfl P_agg24 P_sz24 (Nat.le_of_ble_eq_true rfl) rfl) (resVars_cons (resVar_tmp rfl rfl) resVars_nil)), (by rw [gR_false hc1]; rfl)⟩))
  · replace hc1 := (bnot_f hc1)
    refine VCode.skip (Then.go ?_)
    refine VCode.seq ?_
    obtain ⟨v1, v2⟩ := Bool.and_eq_true_iff.1 hc1
    obtain ⟨nA, lA, sA⟩ := valid_norm oA v1
    obtain ⟨nB, lB, sB⟩ := valid_norm oB v2
    refine VCode.region ?_
    refine VList.go0 (n' := 9) rfl rfl (.fieldAddr _ _ _ _ _ _ _ _ rfl P_fld24_0) rfl ?_
    refine VList.go0 (n' := 10) rfl rfl (.load1 _ _ _ _ _ _ rfl rfl P_agg4 rfl) rfl ?_
    refine VList.go0 (n' := 11) rfl rfl (.fieldAddr _ _ _ _ _ _ _ _ rfl P_fld24_1) rfl ?_
    refine VList.go0 (n' := 12) rfl rfl (.load1 _ _ _ _ _ _ rfl rfl P_agg22 rfl) rfl ?_
    refine VList.go0 (n' := 13) rfl rfl (.fieldAddr _ _ _ _ _ _ _ _ rfl P_fld24_0) rfl ?_
    refine VList.go0 (n' := 14) rfl rfl (.load1 _ _ _ _ _ _ rfl rfl P_agg4 rfl) rfl ?_
    refine VList.go0 (n' := 15) rfl rfl (.un _ _ _ _ _ rfl rfl) rfl ?_
    refine VList.go0 (n' := 16) rfl rfl (.fieldAddr _ _ _ _ _ _ _ _ rfl P_fld24_1) rfl ?_
    refine VList.go0 (n' := 17) rfl rfl (.load1 _ _ _ _ _ _ rfl rfl P_agg22 rfl) rfl ?_
    refine VList.go0 (n' := 18) rfl rfl (Eff.callV0 rfl (ress_cons rfl (ress_cons rfl (ress_cons rfl (ress_cons rfl ress_nil)))) (f75 _ _ _ _ (by first | omega | (simp; done) | (simp; omega)) (by first | omega | (simp; done) | (simp; omega)) (by first | omega | (simp; done) | (simp; omega)) (by first | omega | (simp; done) | (simp; omega))) rfl) rfl ?_
    refine VList.go0 (n' := 19) rfl rfl (.extract _ _ _ _ rfl rfl) rfl ?_
    refine VList.go0 (n' := 20) rfl rfl (.extract _ _ _ _ rfl rfl) rfl ?_
    refine VList.goS (n' := 21) rfl rfl (.store _ _ _ _ _ _ _ rfl rfl rfl rfl P_sz24 (Nat.le_of_ble_eq_true rfl) rfl) rfl ?_
    refine VList.go0 (n' := 22) rfl rfl (.assign _ _ rfl) rfl ?_
    refine VList.nil (Then.go ?_)
    exact VCode.ret (⟨trivial, [.agg [boolB (zN (sg (n) (val (A)) + sg ((!m)) (val (B)))), u32S (zL (sg (n) (val (A)) + sg ((!m)) (val (B))))], numB .i64 (zE (sg (n) (val (A)) + sg ((!m)) (val (B))))], (resVars_cons (resVar_cell rfl rfl P_agg24 P_sz24 (Nat.le_of_ble_eq_true rfl) rfl) (resVars_cons (resVar_tmp rfl rfl) resVars_nil)), (by rw [gR_true hc1, show zOf n A - zOf m B = sg n (val A) + sg (!m) (val B) from sg_sub]; rfl)⟩)
theorem f29 (n : Bool) (A : List Int) (m : Bool) (B : List Int) (hA : A.length ≤ 9223372036854775807) (hB : B.length ≤ 9223372036854775807) (oA : ok32 A) (oB : ok32 B) : VF Try.prog 29 [.agg [boolB (n), u32S (A)], .agg [boolB (m), u32S (B)]] (gR (validB n A && validB m B) (zOf n A * zOf m B)) := by
  refine VF_of P_mixed Try.func29 rfl rfl (by kernel_rfl) ?_
  refine VCode.seq ?_
  refine VCode.region ?_
  refine VList.go1 (n' := 1) rfl rfl (.box _ _ _ rfl (List.cons_ne_nil _ _) rfl) rfl ?_
  refine VList.go1 (n' := 2) rfl rfl (.box _ _ _ rfl (List.cons_ne_nil _ _) rfl) rfl ?_
  refine VList.go1 (n' := 3) rfl rfl (.alloc _ _ P_zero24 (List.cons_ne_nil _ _)) rfl ?_
  refine VList.go0 (n' := 4) rfl rfl (.assign _ _ rfl) rfl ?_
  refine VList.nil (Then.go ?_)
  refine VCode.seq ?_
  refine VCode.seq ?_
  refine VCode.region ?_
  refine VList.go0 (n' := 5) rfl rfl (.loadS _ _ _ _ _ _ rfl rfl P_agg24 P_sz24 (Nat.le_of_ble_eq_true rfl)) rfl ?_
  refine VList.go0 (n' := 6) rfl rfl (.loadS _ _ _ _ _ _ rfl rfl P_agg24 P_sz24 (Nat.le_of_ble_eq_true rfl)) rfl ?_
  refine VList.go0 (n' := 7) rfl rfl (.callF _ _ _ _ _ _ rfl (ress_cons rfl (ress_cons rfl ress_nil)) (f50 _ _ _ _ (by first | omega | (simp; done) | (simp; omega)) (by first | omega | (simp; done) | (simp; omega))) rfl) rfl ?_
  refine VList.go0 (n' := 8) rfl rfl (.un _ _ _ _ _ rfl rfl) rfl ?_
  refine VList.nil (Then.go ?_)
  refine VCode.cond _ rfl (fun hc1 => ?_) (fun hc1 => ?_)
  · replace hc1 := (bnot_t hc1)
    refine VCode.seq ?_
    refine VCode.region ?_
    refine VList.go0 (n' := 9) rfl rfl Eff.int0 rfl ?_
    refine VList.goS (n' := 10) rfl rfl (.store _ _ _ _ _ _ _ rfl rfl rfl rfl P_sz24 (Nat.le_of_ble_eq_true rfl) rfl) rfl ?_
    refine VList.go0 (n' := 11) rfl rfl (.assign _ _ rfl) rfl ?_
    refine VList.nil (Then.go ?_)
    exact VCode.ret (Then.ret (⟨trivial, [.agg [boolB (false), u32S ([])], numB .i64 (1)], (resVars_cons (resVar_cell rfl rfl P_agg24 P_sz24 (Nat.le_of_ble_eq_true rfl) rfl) (resVars_cons (resVar_tmp rfl rfl) resVars_nil)), (by rw [gR_false hc1]; rfl)⟩))
  · replace hc1 := (bnot_f hc1)
    refine VCode.skip (Then.go ?_)
    refine VCode.seq ?_
    obtain ⟨v1, v2⟩ := Bool.and_eq_true_iff.1 hc1
    obtain ⟨nA, lA, sA⟩ := valid_norm oA v1
    obtain ⟨nB, lB, sB⟩ := valid_norm oB v2
    have m0 := Int.mul_nonneg (val_nonneg oA) (val_nonneg oB)
    refine VCode.draw (by kernel_rfl) ?_
    refine VLog.go0 (n' := 9) rfl rfl (.fieldAddr _ _ _ _ _ _ _ _ rfl P_fld24_0) rfl ?_
    refine VLog.go0 (n' := 10) rfl rfl (.load1 _ _ _ _ _ _ rfl rfl P_agg4 rfl) rfl ?_
    refine VLog.go0 (n' := 11) rfl rfl (.fieldAddr _ _ _ _ _ _ _ _ rfl P_fld24_0) rfl ?_
    refine VLog.go0 (n' := 12) rfl rfl (.load1 _ _ _ _ _ _ rfl rfl P_agg4 rfl) rfl ?_
    refine VLog.go0 (n' := 13) rfl rfl (.binB _ _ _ _ _ _ _ _ rfl rfl Try.underlying4 rfl) rfl ?_
    refine VLog.go0 (n' := 14) rfl rfl (.fieldAddr _ _ _ _ _ _ _ _ rfl P_fld24_1) rfl ?_
    refine VLog.go0 (n' := 15) rfl rfl (.load1 _ _ _ _ _ _ rfl rfl P_agg22 rfl) rfl ?_
    refine VLog.go0 (n' := 16) rfl rfl (.fieldAddr _ _ _ _ _ _ _ _ rfl P_fld24_1) rfl ?_
    refine VLog.go0 (n' := 17) rfl rfl (.load1 _ _ _ _ _ _ rfl rfl P_agg22 rfl) rfl ?_
    refine VLog.go0 (n' := 18) rfl rfl (Eff.callV0 rfl (ress_cons rfl (ress_cons rfl ress_nil)) (f63 _ _ (by first | omega | (simp; done) | (simp; omega)) (by first | omega | (simp; done) | (simp; omega)) (by first | omega | (simp; done) | (simp; omega)) (by first | omega | (simp; done) | (simp; omega))) rfl) rfl ?_
    refine VLog.go0 (n' := 19) rfl rfl (Eff.callV0 rfl (ress_cons rfl (ress_cons rfl ress_nil)) (f54 _ _ (mul_len oA oB lA lB) (ok32_dg _)) rfl) rfl ?_
    refine VLog.go0 (n' := 20) rfl rfl (.extract _ _ _ _ rfl rfl) rfl ?_
    refine VLog.go0 (n' := 21) rfl rfl (.extract _ _ _ _ rfl rfl) rfl ?_
    refine VLog.goS (n' := 22) rfl rfl (.store _ _ _ _ _ _ _ rfl rfl rfl rfl P_sz24 (Nat.le_of_ble_eq_true rfl) rfl) rfl ?_
    refine VLog.go0 (n' := 23) rfl rfl (.assign _ _ rfl) rfl ?_
    refine VLog.nil ⟨by kernel_rfl, Then.go ?_⟩
    exact VCode.ret (⟨trivial, [.agg [boolB (zN (sg ((!(n == m))) (val (dg (val (A) * val (B)))))), u32S (zL (sg ((!(n == m))) (val (dg (val (A) * val (B))))))], numB .i64 (zE (sg ((!(n == m))) (val (dg (val (A) * val (B))))))], (resVars_cons (resVar_cell rfl rfl P_agg24 P_sz24 (Nat.le_of_ble_eq_true rfl) rfl) (resVars_cons (resVar_tmp rfl rfl) resVars_nil)), (by rw [gR_true hc1, show zOf n A * zOf m B = sg (!(n == m)) (val A * val B) from sg_mul, val_dg m0]; rfl)⟩)
theorem f33 (n : Bool) (A : List Int) (m : Bool) (B : List Int) (hA : A.length ≤ 9223372036854775807) (hB : B.length ≤ 9223372036854775807) (oA : ok32 A) (oB : ok32 B) : VF Try.prog 33 [.agg [boolB (n), u32S (A)], .agg [boolB (m), u32S (B)]] (.tup [numB .i64 (cC (validB n A && validB m B) (zOf n A) (zOf m B)), numB .i64 (cE (validB n A && validB m B))]) := by
  refine VF_of P_mixed Try.func33 rfl rfl (by kernel_rfl) ?_
  refine VCode.seq ?_
  refine VCode.region ?_
  refine VList.go1 (n' := 1) rfl rfl (.box _ _ _ rfl (List.cons_ne_nil _ _) rfl) rfl ?_
  refine VList.go1 (n' := 2) rfl rfl (.box _ _ _ rfl (List.cons_ne_nil _ _) rfl) rfl ?_
  refine VList.go0 (n' := 3) rfl rfl (.assign _ _ rfl) rfl ?_
  refine VList.go0 (n' := 4) rfl rfl (.assign _ _ rfl) rfl ?_
  refine VList.nil (Then.go ?_)
  refine VCode.seq ?_
  refine VCode.seq ?_
  refine VCode.region ?_
  refine VList.go0 (n' := 5) rfl rfl (.loadS _ _ _ _ _ _ rfl rfl P_agg24 P_sz24 (Nat.le_of_ble_eq_true rfl)) rfl ?_
  refine VList.go0 (n' := 6) rfl rfl (.loadS _ _ _ _ _ _ rfl rfl P_agg24 P_sz24 (Nat.le_of_ble_eq_true rfl)) rfl ?_
  refine VList.go0 (n' := 7) rfl rfl (.callF _ _ _ _ _ _ rfl (ress_cons rfl (ress_cons rfl ress_nil)) (f50 _ _ _ _ (by first | omega | (simp; done) | (simp; omega)) (by first | omega | (simp; done) | (simp; omega))) rfl) rfl ?_
  refine VList.go0 (n' := 8) rfl rfl (.un _ _ _ _ _ rfl rfl) rfl ?_
  refine VList.nil (Then.go ?_)
  refine VCode.cond _ rfl (fun hc1 => ?_) (fun hc1 => ?_)
  · replace hc1 := (bnot_t hc1)
    refine VCode.seq ?_
    refine VCode.region ?_
    refine VList.go0 (n' := 9) rfl rfl (.assign _ _ rfl) rfl ?_
    refine VList.go0 (n' := 10) rfl rfl (.assign _ _ rfl) rfl ?_
    refine VList.nil (Then.go ?_)
    exact VCode.ret (Then.ret (⟨trivial, [numB .i64 (0), numB .i64 (1)], (resVars_cons (resVar_tmp rfl rfl) (resVars_cons (resVar_tmp rfl rfl) resVars_nil)), (by rw [cC_false hc1, cE_false hc1]; rfl)⟩))
  · replace hc1 := (bnot_f hc1)
    refine VCode.skip (Then.go ?_)
    refine VCode.seq ?_
    obtain ⟨v1, v2⟩ := Bool.and_eq_true_iff.1 hc1
    obtain ⟨nA, lA, sA⟩ := valid_norm oA v1
    obtain ⟨nB, lB, sB⟩ := valid_norm oB v2
    have hr := cmp3_range (val A) (val B)
    refine VCode.region ?_
    refine VList.go0 (n' := 9) rfl rfl (.fieldAddr _ _ _ _ _ _ _ _ rfl P_fld24_1) rfl ?_
    refine VList.go0 (n' := 10) rfl rfl (.load1 _ _ _ _ _ _ rfl rfl P_agg22 rfl) rfl ?_
    refine VList.go0 (n' := 11) rfl rfl (.fieldAddr _ _ _ _ _ _ _ _ rfl P_fld24_1) rfl ?_
    refine VList.go0 (n' := 12) rfl rfl (.load1 _ _ _ _ _ _ rfl rfl P_agg22 rfl) rfl ?_
    refine VList.go0 (n' := 13) rfl rfl (.callF _ _ _ _ _ _ rfl (ress_cons rfl (ress_cons rfl ress_nil)) (f74 _ _ (by first | omega | (simp; done) | (simp; omega)) (by first | omega | (simp; done) | (simp; omega)) (by first | omega | (simp; done) | (simp; omega)) (by first | omega | (simp; done) | (simp; omega)) (fun h => cmp_len nA nB h)) rfl) rfl ?_
    refine VList.go0 (n' := 14) rfl rfl (.assign _ _ rfl) rfl ?_
    refine VList.nil (Then.go ?_)
    refine VCode.seq ?_
    refine VCode.block ?_
    refine VCode.seq ?_
    refine VCode.region ?_
    refine VList.go0 (n' := 15) rfl rfl (.fieldAddr _ _ _ _ _ _ _ _ rfl P_fld24_0) rfl ?_
    refine VList.go0 (n' := 16) rfl rfl (.load1 _ _ _ _ _ _ rfl rfl P_agg4 rfl) rfl ?_
    refine VList.go0 (n' := 17) rfl rfl (.move _ _ rfl) rfl ?_
    refine VList.split (d := 19) _ rfl (fun hc2 => ?_) (fun hc2 => ?_)
    · (try simp at hc2)
      refine VList.go0 (n' := 18) rfl rfl (.fieldAddr _ _ _ _ _ _ _ _ rfl P_fld24_0) rfl ?_
      refine VList.go0 (n' := 19) rfl rfl (.load1 _ _ _ _ _ _ rfl rfl P_agg4 rfl) rfl ?_
      refine VList.go0 (n' := 20) rfl rfl (.pick _ _ _ _ _ rfl rfl) rfl ?_
      refine VList.go0 (n' := 21) rfl rfl (.assign _ _ rfl) rfl ?_
      refine VList.nil (Then.go ?_)
      refine VCode.cond _ rfl (fun hc3 => ?_) (fun hc3 => ?_)
      · (try simp at hc3)
        refine VCode.seq ?_
        refine VCode.region ?_
        refine VList.go0 (n' := 22) rfl rfl (.move _ _ rfl) rfl ?_
        refine VList.go0 (n' := 23) rfl rfl (.un _ _ _ _ _ rfl (uop_neg_i64 (by first | omega | (simp; done) | (simp; omega)))) rfl ?_
        refine VList.go0 (n' := 24) rfl rfl (.assign _ _ rfl) rfl ?_
        refine VList.go0 (n' := 25) rfl rfl (.assign _ _ rfl) rfl ?_
        refine VList.nil (Then.go ?_)
        exact VCode.ret (InBlock.ret (Then.ret (⟨trivial, [numB .i64 ((-cmp3 (val (A)) (val (B)))), numB .i64 (0)], (resVars_cons (resVar_tmp rfl rfl) (resVars_cons (resVar_tmp rfl rfl) resVars_nil)), (by rw [cC_true hc1, cE_true hc1]; have vA := val_nonneg oA; have vB := val_nonneg oB; subst_vars; first | contradiction | (rw [cmp3_nn]; rfl) | (rw [cmp3_np (neg_pos nA sA rfl) vB]; rfl) | (rw [cmp3_pn vA (neg_pos nB sB rfl)]; rfl) | (rw [cmp3_pp]; rfl))⟩)))
      · (try simp at hc3)
        refine VCode.seq ?_
        refine VCode.region ?_
        refine VList.go0 (n' := 22) rfl rfl (.fieldAddr _ _ _ _ _ _ _ _ rfl P_fld24_0) rfl ?_
        refine VList.go0 (n' := 23) rfl rfl (.load1 _ _ _ _ _ _ rfl rfl P_agg4 rfl) rfl ?_
        refine VList.go0 (n' := 24) rfl rfl (.assign _ _ rfl) rfl ?_
        refine VList.nil (Then.go ?_)
        refine VCode.cond _ rfl (fun hc4 => ?_) (fun hc4 => ?_)
        · (try simp at hc4)
          refine VCode.seq ?_
          refine VCode.region ?_
          refine VList.go0 (n' := 25) rfl rfl (.assign _ _ rfl) rfl ?_
          refine VList.go0 (n' := 26) rfl rfl (.assign _ _ rfl) rfl ?_
          refine VList.nil (Then.go ?_)
          exact VCode.ret (InBlock.ret (Then.ret (⟨trivial, [numB .i64 ((-1)), numB .i64 (0)], (resVars_cons (resVar_tmp rfl rfl) (resVars_cons (resVar_tmp rfl rfl) resVars_nil)), (by rw [cC_true hc1, cE_true hc1]; have vA := val_nonneg oA; have vB := val_nonneg oB; subst_vars; first | contradiction | (rw [cmp3_nn]; rfl) | (rw [cmp3_np (neg_pos nA sA rfl) vB]; rfl) | (rw [cmp3_pn vA (neg_pos nB sB rfl)]; rfl) | (rw [cmp3_pp]; rfl))⟩)))
        · (try simp at hc4)
          refine VCode.seq ?_
          refine VCode.region ?_
          refine VList.go0 (n' := 25) rfl rfl (.fieldAddr _ _ _ _ _ _ _ _ rfl P_fld24_0) rfl ?_
          refine VList.go0 (n' := 26) rfl rfl (.load1 _ _ _ _ _ _ rfl rfl P_agg4 rfl) rfl ?_
          refine VList.go0 (n' := 27) rfl rfl (.assign _ _ rfl) rfl ?_
          refine VList.nil (Then.go ?_)
          refine VCode.cond _ rfl (fun hc5 => ?_) (fun hc5 => ?_)
          · (try simp at hc5)
            refine VCode.seq ?_
            refine VCode.region ?_
            refine VList.go0 (n' := 28) rfl rfl (.assign _ _ rfl) rfl ?_
            refine VList.go0 (n' := 29) rfl rfl (.assign _ _ rfl) rfl ?_
            refine VList.nil (Then.go ?_)
            exact VCode.ret (InBlock.ret (Then.ret (⟨trivial, [numB .i64 (1), numB .i64 (0)], (resVars_cons (resVar_tmp rfl rfl) (resVars_cons (resVar_tmp rfl rfl) resVars_nil)), (by rw [cC_true hc1, cE_true hc1]; have vA := val_nonneg oA; have vB := val_nonneg oB; subst_vars; first | contradiction | (rw [cmp3_nn]; rfl) | (rw [cmp3_np (neg_pos nA sA rfl) vB]; rfl) | (rw [cmp3_pn vA (neg_pos nB sB rfl)]; rfl) | (rw [cmp3_pp]; rfl))⟩)))
          · (try simp at hc5)
            refine VCode.skip (InBlock.go (Then.go ?_))
            refine VCode.seq ?_
            refine VCode.region ?_
            refine VList.go0 (n' := 28) rfl rfl (.move _ _ rfl) rfl ?_
            refine VList.go0 (n' := 29) rfl rfl (.assign _ _ rfl) rfl ?_
            refine VList.go0 (n' := 30) rfl rfl (.assign _ _ rfl) rfl ?_
            refine VList.nil (Then.go ?_)
            exact VCode.ret (⟨trivial, [numB .i64 (cmp3 (val (A)) (val (B))), numB .i64 (0)], (resVars_cons (resVar_tmp rfl rfl) (resVars_cons (resVar_tmp rfl rfl) resVars_nil)), (by rw [cC_true hc1, cE_true hc1]; have vA := val_nonneg oA; have vB := val_nonneg oB; subst_vars; first | contradiction | (rw [cmp3_nn]; rfl) | (rw [cmp3_np (neg_pos nA sA rfl) vB]; rfl) | (rw [cmp3_pn vA (neg_pos nB sB rfl)]; rfl) | (rw [cmp3_pp]; rfl))⟩)
    · (try simp at hc2)
      refine VList.skip (n' := 18) rfl rfl rfl ?_
      refine VList.skip (n' := 19) rfl rfl rfl ?_
      refine VList.go0 (n' := 20) rfl rfl (.pick _ _ _ _ _ rfl rfl) rfl ?_
      refine VList.go0 (n' := 21) rfl rfl (.assign _ _ rfl) rfl ?_
      refine VList.nil (Then.go ?_)
      refine VCode.cond _ rfl (fun h_ => Bool.noConfusion h_) (fun _ => ?_)
      refine VCode.seq ?_
      refine VCode.region ?_
      refine VList.go0 (n' := 22) rfl rfl (.fieldAddr _ _ _ _ _ _ _ _ rfl P_fld24_0) rfl ?_
      refine VList.go0 (n' := 23) rfl rfl (.load1 _ _ _ _ _ _ rfl rfl P_agg4 rfl) rfl ?_
      refine VList.go0 (n' := 24) rfl rfl (.assign _ _ rfl) rfl ?_
      refine VList.nil (Then.go ?_)
      refine VCode.cond _ rfl (fun hc6 => ?_) (fun hc6 => ?_)
      · (try simp at hc6)
        refine VCode.seq ?_
        refine VCode.region ?_
        refine VList.go0 (n' := 25) rfl rfl (.assign _ _ rfl) rfl ?_
        refine VList.go0 (n' := 26) rfl rfl (.assign _ _ rfl) rfl ?_
        refine VList.nil (Then.go ?_)
        exact VCode.ret (InBlock.ret (Then.ret (⟨trivial, [numB .i64 ((-1)), numB .i64 (0)], (resVars_cons (resVar_tmp rfl rfl) (resVars_cons (resVar_tmp rfl rfl) resVars_nil)), (by rw [cC_true hc1, cE_true hc1]; have vA := val_nonneg oA; have vB := val_nonneg oB; subst_vars; first | contradiction | (rw [cmp3_nn]; rfl) | (rw [cmp3_np (neg_pos nA sA rfl) vB]; rfl) | (rw [cmp3_pn vA (neg_pos nB sB rfl)]; rfl) | (rw [cmp3_pp]; rfl))⟩)))
      · (try simp at hc6)
        refine VCode.seq ?_
        refine VCode.region ?_
        refine VList.go0 (n' := 25) rfl rfl (.fieldAddr _ _ _ _ _ _ _ _ rfl P_fld24_0) rfl ?_
        refine VList.go0 (n' := 26) rfl rfl (.load1 _ _ _ _ _ _ rfl rfl P_agg4 rfl) rfl ?_
        refine VList.go0 (n' := 27) rfl rfl (.assign _ _ rfl) rfl ?_
        refine VList.nil (Then.go ?_)
        refine VCode.cond _ rfl (fun hc7 => ?_) (fun hc7 => ?_)
        · (try simp at hc7)
          refine VCode.seq ?_
          refine VCode.region ?_
          refine VList.go0 (n' := 28) rfl rfl (.assign _ _ rfl) rfl ?_
          refine VList.go0 (n' := 29) rfl rfl (.assign _ _ rfl) rfl ?_
          refine VList.nil (Then.go ?_)
          exact VCode.ret (InBlock.ret (Then.ret (⟨trivial, [numB .i64 (1), numB .i64 (0)], (resVars_cons (resVar_tmp rfl rfl) (resVars_cons (resVar_tmp rfl rfl) resVars_nil)), (by rw [cC_true hc1, cE_true hc1]; have vA := val_nonneg oA; have vB := val_nonneg oB; subst_vars; first | contradiction | (rw [cmp3_nn]; rfl) | (rw [cmp3_np (neg_pos nA sA rfl) vB]; rfl) | (rw [cmp3_pn vA (neg_pos nB sB rfl)]; rfl) | (rw [cmp3_pp]; rfl))⟩)))
        · (try simp at hc7)
          refine VCode.skip (InBlock.go (Then.go ?_))
          refine VCode.seq ?_
          refine VCode.region ?_
          refine VList.go0 (n' := 28) rfl rfl (.move _ _ rfl) rfl ?_
          refine VList.go0 (n' := 29) rfl rfl (.assign _ _ rfl) rfl ?_
          refine VList.go0 (n' := 30) rfl rfl (.assign _ _ rfl) rfl ?_
          refine VList.nil (Then.go ?_)
          exact VCode.ret (⟨trivial, [numB .i64 (cmp3 (val (A)) (val (B))), numB .i64 (0)], (resVars_cons (resVar_tmp rfl rfl) (resVars_cons (resVar_tmp rfl rfl) resVars_nil)), (by rw [cC_true hc1, cE_true hc1]; have vA := val_nonneg oA; have vB := val_nonneg oB; subst_vars; first | contradiction | (rw [cmp3_nn]; rfl) | (rw [cmp3_np (neg_pos nA sA rfl) vB]; rfl) | (rw [cmp3_pn vA (neg_pos nB sB rfl)]; rfl) | (rw [cmp3_pp]; rfl))⟩)
end Go.VL

/- Walks over the Go functions, printed by a program of this session over the kit's print, and by hand. -/
set_option linter.unusedVariables false
set_option linter.unusedSimpArgs false
namespace Go.VL
open Go.Proofs
theorem f69 (L : List Int) (hL : L.length ≤ 2) (oL : ok32 L) : VF Try.prog 69 [u32S (L)] (numB .u64 (val L)) := by
  refine VF_of P_mixed Try.func69 rfl rfl (by kernel_rfl) ?_
  refine VCode.seq ?_
  refine VCode.region ?_
  refine VList.go0 (n' := 1) rfl rfl (.assign _ _ rfl) rfl ?_
  refine VList.nil (Then.go ?_)
  refine VCode.seq ?_
  refine VCode.region ?_
  refine VList.go0 (n' := 2) rfl rfl (.assign _ _ rfl) rfl ?_
  refine VList.nil (Then.go ?_)
  refine VCode.seq ?_
  refine VCode.seq ?_
  refine VCode.region ?_
  refine VList.go0 (n' := 3) rfl rfl (.move _ _ rfl) rfl ?_
  refine VList.go0 (n' := 4) rfl rfl (Eff.lenS rfl Try.underlying22) rfl ?_
  refine VList.go0 (n' := 5) rfl rfl (.move _ _ rfl) rfl ?_
  refine VList.nil (Then.go ?_)
  refine VCode.block ?_
  refine VCode.loop (α := (Nat) × (Int)) (fun (x_ : (Nat) × (Int)) => match x_ with | (k, c) => (0, sl [(0, vS (L)), (3, vI .u64 (c)), (6, vI .i64 (((L).length : Int))), (7, vI .i64 ((k : Int)))], en [])) (fun (x_ : (Nat) × (Int)) => match x_ with | (k, c) => k ≤ L.length ∧ c = val (L.take k)) (fun (x_ : (Nat) × (Int)) => match x_ with | (k, c) => L.length - k) (0, 0) ⟨by omega, rfl⟩ (Weak.of (show 0 ≤ 0 by decide) ⟨⟨rfl, rfl⟩, ⟨⟨rfl, rfl⟩, ⟨⟨rfl, rfl⟩, ⟨⟨rfl, rfl⟩, trivial⟩⟩⟩⟩ trivial) ?_
  rintro ⟨k, c⟩ hok
  show VCode Try.prog 0 _ 0 (sl [(0, vS (L)), (3, vI .u64 (c)), (6, vI .i64 (((L).length : Int))), (7, vI .i64 ((k : Int)))]) (en []) _
  refine VCode.seq ?_
  refine VCode.region ?_
  refine VList.go0 (n' := 1) rfl rfl (.bin _ _ _ _ _ _ _ _ rfl rfl rfl) rfl ?_
  refine VList.nil (Then.go ?_)
  refine VCode.seq ?_
  refine VCode.cond _ rfl (fun hc1 => ?_) (fun hc1 => ?_)
  · replace hc1 := of_decide_eq_true hc1
    refine VCode.skip (Then.go ?_)
    refine VCode.seq ?_
    refine VCode.block ?_
    refine VCode.seq ?_
    refine VCode.region ?_
    refine VList.go0 (n' := 2) rfl rfl (.move _ _ rfl) rfl ?_
    refine VList.go0 (n' := 3) rfl rfl (.assign _ _ rfl) rfl ?_
    refine VList.nil (Then.go ?_)
    have hx := ok32_getD oL k
    have hp : (2 : Int) ^ ((32 * (k : Int))).toNat = 4294967296 ^ k := by rw [show ((32 * (k : Int))).toNat = 32 * k by omega, pow_two_words]
    have hs := word_shl (k := k) (by omega) hx
    have hc := val_lt (ok32_take oL k)
    have hc0 := val_nonneg (ok32_take oL k)
    rw [List.length_take, Nat.min_eq_left (by omega), ← hok.2] at hc
    rw [← hok.2] at hc0
    rw [← hp] at hs hc
    refine VCode.region ?_
    refine VList.go0 (n' := 4) rfl rfl (.move _ _ rfl) rfl ?_
    refine VList.go0 (n' := 5) rfl rfl (.move _ _ rfl) rfl ?_
    refine VList.go0 (n' := 6) rfl rfl (.move _ _ rfl) rfl ?_
    refine VList.go0 (n' := 7) rfl rfl (Eff.indexRdN rfl rfl Try.underlying22 P_sz51 (by first | omega | (simp; done) | (simp; omega))) rfl ?_
    refine VList.go0 (n' := 8) rfl rfl (.loadRd1 _ _ _ _ rfl P_agg51 rfl) rfl ?_
    refine VList.go0 (n' := 9) rfl rfl (Eff.convN_u64 rfl Try.underlying51 Try.underlying62 (by first | omega | (simp; done) | (simp; omega))) rfl ?_
    refine VList.go0 (n' := 10) rfl rfl (.move _ _ rfl) rfl ?_
    refine VList.go0 (n' := 11) rfl rfl (.bin _ _ _ _ _ _ _ _ rfl rfl (bop_mul_i64 (by first | omega | (simp; done) | (simp; omega)))) rfl ?_
    refine VList.go0 (n' := 12) rfl rfl (.bin _ _ _ _ _ _ _ (.int .u64 (((L).getD (k) 0 * 2 ^ ((32 * (k : Int))).toNat))) rfl rfl (bop_shl_u64 (by omega) (by omega) (by omega))) rfl ?_
    refine VList.go0 (n' := 13) rfl rfl (.bin _ _ _ _ _ _ _ (.int .u64 ((c + ((L).getD (k) 0 * 2 ^ ((32 * (k : Int))).toNat)))) rfl rfl (bop_orR_u64 (q := 2 ^ ((32 * (k : Int))).toNat) ((32 * (k : Int))).toNat rfl ⟨hc0, hc⟩ ⟨_, hx.1, rfl⟩ (by omega))) rfl ?_
    refine VList.go0 (n' := 14) rfl rfl (.assign _ _ rfl) rfl ?_
    refine VList.nil (InBlock.go (Then.go ?_))
    refine VCode.region ?_
    refine VList.go0 (n' := 15) rfl rfl (.bin _ _ _ _ _ _ _ _ rfl rfl (bop_add_i64 (by first | omega | (simp; done) | (simp; omega)))) rfl ?_
    refine VList.go0 (n' := 16) rfl rfl (.move _ _ rfl) rfl ?_
    exact VList.nil (Round.go (k + 1, (c + (L).getD (k) 0 * 2 ^ ((32 * (k : Int))).toNat)) ⟨by omega, by rw [val_take_step, ← hok.2, hp, Int.mul_comm]⟩ (by first | (dsimp only; omega) | omega) (Weak.of (show 0 ≤ 0 by decide) ⟨⟨rfl, rfl⟩, ⟨⟨rfl, rfl⟩, ⟨⟨rfl, rfl⟩, ⟨⟨rfl, rfl⟩, trivial⟩⟩⟩⟩ trivial))
  · replace hc1 := of_decide_eq_false hc1
    refine VCode.exit (Then.exit (Round.exit (InBlock.here (Then.go ?_))))
    refine VCode.seq ?_
    refine VCode.region ?_
    refine VList.go0 (n' := 2) rfl rfl (.move _ _ rfl) rfl ?_
    refine VList.go0 (n' := 3) rfl rfl (.assign _ _ rfl) rfl ?_
    refine VList.nil (Then.go ?_)
    exact VCode.ret (⟨trivial, [numB .u64 (c)], (resVars_cons (resVar_tmp rfl rfl) resVars_nil), (by have h := hok.1; rw [hok.2, List.take_of_length_le (by omega)]; rfl)⟩)
set_option maxRecDepth 100000 in
set_option maxHeartbeats 2000000 in
theorem f84 (x : Int) (h0 : 0 ≤ x) (h1 : x < 4294967296) : VF Try.prog 84 [numB .u32 (x)] (numB .i64 (blen x.toNat : Nat)) := by
  refine VF_of P_mixed Try.func84 rfl rfl (by kernel_rfl) ?_
  refine VCode.seq ?_
  refine VCode.region ?_
  refine VList.go0 (n' := 1) rfl rfl (.assign _ _ rfl) rfl ?_
  refine VList.nil (Then.go ?_)
  refine VCode.seq ?_
  refine VCode.seq ?_
  refine VCode.region ?_
  refine VList.go0 (n' := 2) rfl rfl (.move _ _ rfl) rfl ?_
  refine VList.go0 (n' := 3) rfl rfl (.bin _ _ _ _ _ _ _ _ rfl rfl rfl) rfl ?_
  refine VList.nil (Then.go ?_)
  refine VCode.cond _ rfl (fun hc1 => ?_) (fun hc1 => ?_)
  · replace hc1 := of_decide_eq_true hc1
    refine VCode.seq ?_
    refine VCode.region ?_
    refine VList.go0 (n' := 4) rfl rfl (.move _ _ rfl) rfl ?_
    refine VList.go0 (n' := 5) rfl rfl (.bin _ _ _ _ _ _ _ _ rfl rfl (bop_shrL_u32 (q := 65536) (by decide) (by decide) (by decide))) rfl ?_
    refine VList.go0 (n' := 6) rfl rfl (.assign _ _ rfl) rfl ?_
    refine VList.nil (Then.go ?_)
    refine VCode.region ?_
    refine VList.go0 (n' := 7) rfl rfl (.assign _ _ rfl) rfl ?_
    refine VList.nil (Then.go ?_)
    refine VCode.seq ?_
    refine VCode.seq ?_
    refine VCode.region ?_
    refine VList.go0 (n' := 8) rfl rfl (.move _ _ rfl) rfl ?_
    refine VList.go0 (n' := 9) rfl rfl (.bin _ _ _ _ _ _ _ _ rfl rfl rfl) rfl ?_
    refine VList.nil (Then.go ?_)
    refine VCode.cond _ rfl (fun hc2 => ?_) (fun hc2 => ?_)
    · replace hc2 := of_decide_eq_true hc2
      refine VCode.seq ?_
      refine VCode.region ?_
      refine VList.go0 (n' := 10) rfl rfl (.move _ _ rfl) rfl ?_
      refine VList.go0 (n' := 11) rfl rfl (.bin _ _ _ _ _ _ _ _ rfl rfl (bop_shrL_u32 (q := 256) (by decide) (by decide) (by decide))) rfl ?_
      refine VList.go0 (n' := 12) rfl rfl (.assign _ _ rfl) rfl ?_
      refine VList.nil (Then.go ?_)
      refine VCode.region ?_
      refine VList.go0 (n' := 13) rfl rfl (.move _ _ rfl) rfl ?_
      refine VList.go0 (n' := 14) rfl rfl (.bin _ _ _ _ _ _ _ _ rfl rfl (bop_add_i64 (by first | omega | (simp; done) | (simp; omega)))) rfl ?_
      refine VList.go0 (n' := 15) rfl rfl (.assign _ _ rfl) rfl ?_
      refine VList.nil (Then.go ?_)
      refine VCode.seq ?_
      refine VCode.region ?_
      refine VList.go0 (n' := 16) rfl rfl (.move _ _ rfl) rfl ?_
      refine VList.go0 (n' := 17) rfl rfl (.move _ _ rfl) rfl ?_
      refine VList.go0 (n' := 18) rfl rfl (Eff.convN_u8 rfl Try.underlying51 Try.underlying5 (by first | omega | (simp; done) | (simp; omega))) rfl ?_
      refine VList.go0 (n' := 19) rfl rfl (Eff.indexT (z := ((tab8.data.getD (((x / 65536) / 256)).toNat 0).toNat : Int)) rfl rfl Try.underlying9 (by first | omega | (simp; done) | (simp; omega)) (show _ < 256 from by omega) rfl) rfl ?_
      refine VList.go0 (n' := 20) rfl rfl (Eff.convN_i64 rfl Try.underlying5 Try.underlying3 (by have ht := tab8_le (x / 65536 / 256).toNat; have ht2 := tab8_le (x / 65536).toNat; have ht3 := tab8_le (x / 256).toNat; have ht4 := tab8_le x.toNat; omega)) rfl ?_
      refine VList.go0 (n' := 21) rfl rfl (.bin _ _ _ _ _ _ _ _ rfl rfl (bop_add_i64 (by have ht := tab8_le (x / 65536 / 256).toNat; have ht2 := tab8_le (x / 65536).toNat; have ht3 := tab8_le (x / 256).toNat; have ht4 := tab8_le x.toNat; omega))) rfl ?_
      refine VList.go0 (n' := 22) rfl rfl (.assign _ _ rfl) rfl ?_
      refine VList.nil (Then.go ?_)
      exact VCode.ret (⟨trivial, [numB .i64 (((16 + 8) + ((tab8.data.getD (((x / 65536) / 256)).toNat 0).toNat : Int)))], (resVars_cons (resVar_tmp rfl rfl) resVars_nil), (by rw [len32_a (y := x / 65536) 16 h0 (by simp) (by omega), len32_a (y := x / 65536 / 256) 8 (by omega) (by simp) (by omega), tab8_get (by omega)]; exact congrArg (numB .i64) (by omega))⟩)
    · replace hc2 := of_decide_eq_false hc2
      refine VCode.skip (Then.go ?_)
      refine VCode.seq ?_
      refine VCode.region ?_
      refine VList.go0 (n' := 10) rfl rfl (.move _ _ rfl) rfl ?_
      refine VList.go0 (n' := 11) rfl rfl (.move _ _ rfl) rfl ?_
      refine VList.go0 (n' := 12) rfl rfl (Eff.convN_u8 rfl Try.underlying51 Try.underlying5 (by first | omega | (simp; done) | (simp; omega))) rfl ?_
      refine VList.go0 (n' := 13) rfl rfl (Eff.indexT (z := ((tab8.data.getD ((x / 65536)).toNat 0).toNat : Int)) rfl rfl Try.underlying9 (by first | omega | (simp; done) | (simp; omega)) (show _ < 256 from by omega) rfl) rfl ?_
      refine VList.go0 (n' := 14) rfl rfl (Eff.convN_i64 rfl Try.underlying5 Try.underlying3 (by have ht := tab8_le (x / 65536 / 256).toNat; have ht2 := tab8_le (x / 65536).toNat; have ht3 := tab8_le (x / 256).toNat; have ht4 := tab8_le x.toNat; omega)) rfl ?_
      refine VList.go0 (n' := 15) rfl rfl (.bin _ _ _ _ _ _ _ _ rfl rfl (bop_add_i64 (by have ht := tab8_le (x / 65536 / 256).toNat; have ht2 := tab8_le (x / 65536).toNat; have ht3 := tab8_le (x / 256).toNat; have ht4 := tab8_le x.toNat; omega))) rfl ?_
      refine VList.go0 (n' := 16) rfl rfl (.assign _ _ rfl) rfl ?_
      refine VList.nil (Then.go ?_)
      exact VCode.ret (⟨trivial, [numB .i64 ((16 + ((tab8.data.getD ((x / 65536)).toNat 0).toNat : Int)))], (resVars_cons (resVar_tmp rfl rfl) resVars_nil), (by rw [len32_a (y := x / 65536) 16 h0 (by simp) (by omega), tab8_get (by omega)]; exact congrArg (numB .i64) (by omega))⟩)
  · replace hc1 := of_decide_eq_false hc1
    refine VCode.skip (Then.go ?_)
    refine VCode.seq ?_
    refine VCode.seq ?_
    refine VCode.region ?_
    refine VList.go0 (n' := 4) rfl rfl (.move _ _ rfl) rfl ?_
    refine VList.go0 (n' := 5) rfl rfl (.bin _ _ _ _ _ _ _ _ rfl rfl rfl) rfl ?_
    refine VList.nil (Then.go ?_)
    refine VCode.cond _ rfl (fun hc3 => ?_) (fun hc3 => ?_)
    · replace hc3 := of_decide_eq_true hc3
      refine VCode.seq ?_
      refine VCode.region ?_
      refine VList.go0 (n' := 6) rfl rfl (.move _ _ rfl) rfl ?_
      refine VList.go0 (n' := 7) rfl rfl (.bin _ _ _ _ _ _ _ _ rfl rfl (bop_shrL_u32 (q := 256) (by decide) (by decide) (by decide))) rfl ?_
      refine VList.go0 (n' := 8) rfl rfl (.assign _ _ rfl) rfl ?_
      refine VList.nil (Then.go ?_)
      refine VCode.region ?_
      refine VList.go0 (n' := 9) rfl rfl (.move _ _ rfl) rfl ?_
      refine VList.go0 (n' := 10) rfl rfl (.bin _ _ _ _ _ _ _ _ rfl rfl (bop_add_i64 (by first | omega | (simp; done) | (simp; omega)))) rfl ?_
      refine VList.go0 (n' := 11) rfl rfl (.assign _ _ rfl) rfl ?_
      refine VList.nil (Then.go ?_)
      refine VCode.seq ?_
      refine VCode.region ?_
      refine VList.go0 (n' := 12) rfl rfl (.move _ _ rfl) rfl ?_
      refine VList.go0 (n' := 13) rfl rfl (.move _ _ rfl) rfl ?_
      refine VList.go0 (n' := 14) rfl rfl (Eff.convN_u8 rfl Try.underlying51 Try.underlying5 (by first | omega | (simp; done) | (simp; omega))) rfl ?_
      refine VList.go0 (n' := 15) rfl rfl (Eff.indexT (z := ((tab8.data.getD ((x / 256)).toNat 0).toNat : Int)) rfl rfl Try.underlying9 (by first | omega | (simp; done) | (simp; omega)) (show _ < 256 from by omega) rfl) rfl ?_
      refine VList.go0 (n' := 16) rfl rfl (Eff.convN_i64 rfl Try.underlying5 Try.underlying3 (by have ht := tab8_le (x / 65536 / 256).toNat; have ht2 := tab8_le (x / 65536).toNat; have ht3 := tab8_le (x / 256).toNat; have ht4 := tab8_le x.toNat; omega)) rfl ?_
      refine VList.go0 (n' := 17) rfl rfl (.bin _ _ _ _ _ _ _ _ rfl rfl (bop_add_i64 (by have ht := tab8_le (x / 65536 / 256).toNat; have ht2 := tab8_le (x / 65536).toNat; have ht3 := tab8_le (x / 256).toNat; have ht4 := tab8_le x.toNat; omega))) rfl ?_
      refine VList.go0 (n' := 18) rfl rfl (.assign _ _ rfl) rfl ?_
      refine VList.nil (Then.go ?_)
      exact VCode.ret (⟨trivial, [numB .i64 (((0 + 8) + ((tab8.data.getD ((x / 256)).toNat 0).toNat : Int)))], (resVars_cons (resVar_tmp rfl rfl) resVars_nil), (by rw [len32_a (y := x / 256) 8 h0 (by simp) (by omega), tab8_get (by omega)]; exact congrArg (numB .i64) (by omega))⟩)
    · replace hc3 := of_decide_eq_false hc3
      refine VCode.skip (Then.go ?_)
      refine VCode.seq ?_
      refine VCode.region ?_
      refine VList.go0 (n' := 6) rfl rfl (.move _ _ rfl) rfl ?_
      refine VList.go0 (n' := 7) rfl rfl (.move _ _ rfl) rfl ?_
      refine VList.go0 (n' := 8) rfl rfl (Eff.convN_u8 rfl Try.underlying51 Try.underlying5 (by first | omega | (simp; done) | (simp; omega))) rfl ?_
      refine VList.go0 (n' := 9) rfl rfl (Eff.indexT (z := ((tab8.data.getD (x).toNat 0).toNat : Int)) rfl rfl Try.underlying9 (by first | omega | (simp; done) | (simp; omega)) (show _ < 256 from by omega) rfl) rfl ?_
      refine VList.go0 (n' := 10) rfl rfl (Eff.convN_i64 rfl Try.underlying5 Try.underlying3 (by have ht := tab8_le (x / 65536 / 256).toNat; have ht2 := tab8_le (x / 65536).toNat; have ht3 := tab8_le (x / 256).toNat; have ht4 := tab8_le x.toNat; omega)) rfl ?_
      refine VList.go0 (n' := 11) rfl rfl (.bin _ _ _ _ _ _ _ _ rfl rfl (bop_add_i64 (by have ht := tab8_le (x / 65536 / 256).toNat; have ht2 := tab8_le (x / 65536).toNat; have ht3 := tab8_le (x / 256).toNat; have ht4 := tab8_le x.toNat; omega))) rfl ?_
      refine VList.go0 (n' := 12) rfl rfl (.assign _ _ rfl) rfl ?_
      refine VList.nil (Then.go ?_)
      exact VCode.ret (⟨trivial, [numB .i64 ((0 + ((tab8.data.getD (x).toNat 0).toNat : Int)))], (resVars_cons (resVar_tmp rfl rfl) resVars_nil), (by rw [tab8_get (by omega)]; exact congrArg (numB .i64) (by omega))⟩)
theorem f81 (x : Int) (h0 : 0 ≤ x) (h1 : x < 4294967296) : VF Try.prog 81 [numB .u32 (x)] (numB .i64 ((32 - blen x.toNat : Nat) : Int)) := by
  refine VF_of P_mixed Try.func81 rfl rfl (by kernel_rfl) ?_
  refine VCode.seq ?_
  refine VCode.region ?_
  refine VList.go0 (n' := 1) rfl rfl (.assign _ _ rfl) rfl ?_
  refine VList.nil (Then.go ?_)
  refine VCode.seq ?_
  refine VCode.region ?_
  refine VList.go0 (n' := 2) rfl rfl (.move _ _ rfl) rfl ?_
  refine VList.go0 (n' := 3) rfl rfl (.callF _ _ _ _ _ _ rfl (ress_cons rfl ress_nil) (f84 _ (by first | omega | (simp; done) | (simp; omega)) (by first | omega | (simp; done) | (simp; omega))) rfl) rfl ?_
  have hb := (blen_lt 32 x.toNat).2 (by omega)
  refine VList.go0 (n' := 4) rfl rfl (.bin _ _ _ _ _ _ _ _ rfl rfl (bop_sub_i64 (by first | omega | (simp; done) | (simp; omega)))) rfl ?_
  refine VList.go0 (n' := 5) rfl rfl (.assign _ _ rfl) rfl ?_
  refine VList.nil (Then.go ?_)
  exact VCode.ret (⟨trivial, [numB .i64 ((32 - ((blen (x).toNat : Nat) : Int)))], (resVars_cons (resVar_tmp rfl rfl) resVars_nil), (by exact congrArg (numB .i64) (by omega))⟩)
theorem f77 (L : List Int) (hL : L.length ≤ 1000000000) (nL : norm L) : VF Try.prog 77 [u32S (L)] (numB .i64 ((blen (val L).toNat : Nat) : Int)) := by
  refine VF_of P_mixed Try.func77 rfl rfl (by kernel_rfl) ?_
  refine VCode.seq ?_
  refine VCode.region ?_
  refine VList.go0 (n' := 1) rfl rfl (.assign _ _ rfl) rfl ?_
  refine VList.nil (Then.go ?_)
  refine VCode.seq ?_
  refine VCode.seq ?_
  refine VCode.region ?_
  refine VList.go0 (n' := 2) rfl rfl (.move _ _ rfl) rfl ?_
  refine VList.go0 (n' := 3) rfl rfl (Eff.lenS rfl Try.underlying22) rfl ?_
  refine VList.go0 (n' := 4) rfl rfl (.bin _ _ _ _ _ _ _ _ rfl rfl rfl) rfl ?_
  refine VList.nil (Then.go ?_)
  refine VCode.cond _ rfl (fun hc1 => ?_) (fun hc1 => ?_)
  · replace hc1 := eq_of_beq hc1
    refine VCode.seq ?_
    refine VCode.region ?_
    refine VList.go0 (n' := 5) rfl rfl (.assign _ _ rfl) rfl ?_
    refine VList.nil (Then.go ?_)
    exact VCode.ret (Then.ret (⟨trivial, [numB .i64 (0)], (resVars_cons (resVar_tmp rfl rfl) resVars_nil), (by rw [norm_zero nL (by omega)]; exact congrArg (numB .i64) (by simp [blen_zero]))⟩))
  · replace hc1 := ne_of_beq_false hc1
    refine VCode.skip (Then.go ?_)
    refine VCode.seq ?_
    have hx := ok32_getD nL.1 ((((L).length : Int) - 1)).toNat
    have e := blen_val (q := ((((L).length : Int) - 1)).toNat) nL (by omega) (by omega)
    refine VCode.region ?_
    refine VList.go0 (n' := 5) rfl rfl (.move _ _ rfl) rfl ?_
    refine VList.go0 (n' := 6) rfl rfl (Eff.lenS rfl Try.underlying22) rfl ?_
    refine VList.go0 (n' := 7) rfl rfl (.bin _ _ _ _ _ _ _ _ rfl rfl (bop_sub_i64 (by first | omega | (simp; done) | (simp; omega)))) rfl ?_
    refine VList.go0 (n' := 8) rfl rfl (.bin _ _ _ _ _ _ _ _ rfl rfl (bop_mul_i64 (by first | omega | (simp; done) | (simp; omega)))) rfl ?_
    refine VList.go0 (n' := 9) rfl rfl (.move _ _ rfl) rfl ?_
    refine VList.go0 (n' := 10) rfl rfl (.move _ _ rfl) rfl ?_
    refine VList.go0 (n' := 11) rfl rfl (Eff.lenS rfl Try.underlying22) rfl ?_
    refine VList.go0 (n' := 12) rfl rfl (.bin _ _ _ _ _ _ _ _ rfl rfl (bop_sub_i64 (by first | omega | (simp; done) | (simp; omega)))) rfl ?_
    refine VList.go0 (n' := 13) rfl rfl (Eff.indexRd rfl rfl Try.underlying22 P_sz51 (by first | omega | (simp; done) | (simp; omega)) (by first | omega | (simp; done) | (simp; omega))) rfl ?_
    refine VList.go0 (n' := 14) rfl rfl (.loadRd1 _ _ _ _ rfl P_agg51 rfl) rfl ?_
    refine VList.go0 (n' := 15) rfl rfl (.callF _ _ _ _ _ _ rfl (ress_cons rfl ress_nil) (f84 _ (by first | omega | (simp; done) | (simp; omega)) (by first | omega | (simp; done) | (simp; omega))) rfl) rfl ?_
    have hb := (blen_lt 32 ((L).getD ((((L).length : Int) - 1)).toNat 0).toNat).2 (by omega)
    refine VList.go0 (n' := 16) rfl rfl (.bin _ _ _ _ _ _ _ _ rfl rfl (bop_add_i64 (by first | omega | (simp; done) | (simp; omega)))) rfl ?_
    refine VList.go0 (n' := 17) rfl rfl (.assign _ _ rfl) rfl ?_
    refine VList.nil (Then.go ?_)
    exact VCode.ret (⟨trivial, [numB .i64 (((32 * (((L).length : Int) - 1)) + ((blen ((L).getD ((((L).length : Int) - 1)).toNat 0).toNat : Nat) : Int)))], (resVars_cons (resVar_tmp rfl rfl) resVars_nil), (by rw [e]; exact congrArg (numB .i64) (by omega))⟩)
theorem f47 (n : Bool) (A : List Int) (hA : A.length ≤ 9223372036854775807) (oA : ok32 A) : VF Try.prog 47 [.agg [boolB (n), u32S (A)]] (.tup [numB .i64 (if validB n A = true then ((blen (val A).toNat : Nat) : Int) else 0), numB .i64 (cE (validB n A))]) := by
  refine VF_of P_mixed Try.func47 rfl rfl (by kernel_rfl) ?_
  refine VCode.seq ?_
  refine VCode.region ?_
  refine VList.go1 (n' := 1) rfl rfl (.box _ _ _ rfl (List.cons_ne_nil _ _) rfl) rfl ?_
  refine VList.go0 (n' := 2) rfl rfl (.assign _ _ rfl) rfl ?_
  refine VList.go0 (n' := 3) rfl rfl (.assign _ _ rfl) rfl ?_
  refine VList.nil (Then.go ?_)
  refine VCode.seq ?_
  refine VCode.seq ?_
  refine VCode.region ?_
  refine VList.go0 (n' := 4) rfl rfl (.loadS _ _ _ _ _ _ rfl rfl P_agg24 P_sz24 (Nat.le_of_ble_eq_true rfl)) rfl ?_
  refine VList.go0 (n' := 5) rfl rfl (.callF _ _ _ _ _ _ rfl (ress_cons rfl ress_nil) (f36 _ _ (by first | omega | (simp; done) | (simp; omega))) rfl) rfl ?_
  refine VList.go0 (n' := 6) rfl rfl (.un _ _ _ _ _ rfl rfl) rfl ?_
  refine VList.nil (Then.go ?_)
  refine VCode.cond _ rfl (fun hc1 => ?_) (fun hc1 => ?_)
  · replace hc1 := (bnot_t hc1)
    refine VCode.seq ?_
    refine VCode.region ?_
    refine VList.go0 (n' := 7) rfl rfl (.assign _ _ rfl) rfl ?_
    refine VList.go0 (n' := 8) rfl rfl (.assign _ _ rfl) rfl ?_
    refine VList.nil (Then.go ?_)
    exact VCode.ret (Then.ret (⟨trivial, [numB .i64 (0), numB .i64 (1)], (resVars_cons (resVar_tmp rfl rfl) (resVars_cons (resVar_tmp rfl rfl) resVars_nil)), (by rw [cE_false hc1, hc1]; rfl)⟩))
  · replace hc1 := (bnot_f hc1)
    refine VCode.skip (Then.go ?_)
    refine VCode.seq ?_
    obtain ⟨nA, lA, sA⟩ := valid_norm oA hc1
    refine VCode.region ?_
    refine VList.go0 (n' := 7) rfl rfl (.fieldAddr _ _ _ _ _ _ _ _ rfl P_fld24_1) rfl ?_
    refine VList.go0 (n' := 8) rfl rfl (.load1 _ _ _ _ _ _ rfl rfl P_agg22 rfl) rfl ?_
    refine VList.go0 (n' := 9) rfl rfl (.callF _ _ _ _ _ _ rfl (ress_cons rfl ress_nil) (f77 _ (by first | omega | (simp; done) | (simp; omega)) (nA)) rfl) rfl ?_
    refine VList.go0 (n' := 10) rfl rfl (.assign _ _ rfl) rfl ?_
    refine VList.go0 (n' := 11) rfl rfl (.assign _ _ rfl) rfl ?_
    refine VList.nil (Then.go ?_)
    exact VCode.ret (⟨trivial, [numB .i64 (((blen (val (A)).toNat : Nat) : Int)), numB .i64 (0)], (resVars_cons (resVar_tmp rfl rfl) (resVars_cons (resVar_tmp rfl rfl) resVars_nil)), (by rw [cE_true hc1, if_pos hc1]; rfl)⟩)
theorem f28 (n : Int) (h0 : -9223372036854775808 ≤ n) (h1 : n ≤ 9223372036854775807) : VF Try.prog 28 [numB .i64 (n)] (intB (zN n) (zL n)) := by
  refine VF_of P_mixed Try.func28 rfl rfl (by kernel_rfl) ?_
  refine VCode.seq ?_
  refine VCode.region ?_
  refine VList.go1 (n' := 1) rfl rfl (.alloc _ _ P_zero24 (List.cons_ne_nil _ _)) rfl ?_
  refine VList.nil (Then.go ?_)
  refine VCode.seq ?_
  refine VCode.region ?_
  refine VList.go0 (n' := 2) rfl rfl (.move _ _ rfl) rfl ?_
  refine VList.go0 (n' := 3) rfl rfl (Eff.convM_u64 rfl Try.underlying3 Try.underlying62) rfl ?_
  refine VList.go0 (n' := 4) rfl rfl (.assign _ _ rfl) rfl ?_
  refine VList.nil (Then.go ?_)
  refine VCode.seq ?_
  refine VCode.seq ?_
  refine VCode.region ?_
  refine VList.go0 (n' := 5) rfl rfl (.move _ _ rfl) rfl ?_
  refine VList.go0 (n' := 6) rfl rfl (.bin _ _ _ _ _ _ _ _ rfl rfl rfl) rfl ?_
  refine VList.nil (Then.go ?_)
  refine VCode.cond _ rfl (fun hc1 => ?_) (fun hc1 => ?_)
  · replace hc1 := of_decide_eq_true hc1
    refine VCode.region ?_
    refine VList.go0 (n' := 7) rfl rfl (.move _ _ rfl) rfl ?_
    refine VList.go0 (n' := 8) rfl rfl (.un _ _ _ _ _ rfl (uopM_neg_u64 _)) rfl ?_
    refine VList.go0 (n' := 9) rfl rfl (.assign _ _ rfl) rfl ?_
    refine VList.nil (Then.go ?_)
    refine VCode.seq ?_
    refine VCode.region ?_
    refine VList.go0 (n' := 10) rfl rfl (.move _ _ rfl) rfl ?_
    refine VList.go0 (n' := 11) rfl rfl (.bin _ _ _ _ _ _ _ _ rfl rfl rfl) rfl ?_
    refine VList.go0 (n' := 12) rfl rfl (.move _ _ rfl) rfl ?_
    refine VList.go0 (n' := 13) rfl rfl (Eff.convM_u32 rfl Try.underlying62 Try.underlying51) rfl ?_
    refine VList.go0 (n' := 14) rfl rfl (.move _ _ rfl) rfl ?_
    refine VList.go0 (n' := 15) rfl rfl (.bin _ _ _ _ _ _ _ _ rfl rfl (bop_shrL_u64 (q := 4294967296) (by decide) (by decide) (by decide))) rfl ?_
    refine VList.go0 (n' := 16) rfl rfl (Eff.convM_u32 rfl Try.underlying62 Try.underlying51) rfl ?_
    refine VList.go1 (n' := 17) rfl rfl (Eff.lits2 rfl rfl Try.underlying22 P_zero51 P_sz51) rfl ?_
    refine VList.goN (n' := 18) rfl rfl (.callV _ _ _ _ _ _ rfl (ress_cons rfl (ress_cons (res_row rfl (by first | omega | (simp; done) | (simp; omega) | (simp [*]; done) | (simp [*]; omega))) ress_nil)) (f54 _ _ (by simp) (ok32_two (by omega) (by omega)))) rfl ?_
    refine VList.go0 (n' := 19) rfl rfl (.move _ _ rfl) rfl ?_
    refine VList.go0 (n' := 20) rfl rfl (.extract _ _ _ _ rfl rfl) rfl ?_
    refine VList.go0 (n' := 21) rfl rfl (.extract _ _ _ _ rfl rfl) rfl ?_
    refine VList.go1 (n' := 22) rfl rfl (.alloc _ _ P_zero24 (List.cons_ne_nil _ _)) rfl ?_
    refine VList.goS (n' := 23) rfl rfl (.store _ _ _ _ _ _ _ rfl rfl rfl rfl P_sz24 (Nat.le_of_ble_eq_true rfl) rfl) rfl ?_
    refine VList.go0 (n' := 24) rfl rfl (.assign _ _ rfl) rfl ?_
    refine VList.nil (Then.go ?_)
    refine VCode.seq ?_
    refine VCode.region ?_
    refine VList.go0 (n' := 25) rfl rfl (.loadS _ _ _ _ _ _ rfl rfl P_agg24 P_sz24 (Nat.le_of_ble_eq_true rfl)) rfl ?_
    refine VList.goS (n' := 26) rfl rfl (.store _ _ _ _ _ _ _ rfl rfl rfl rfl P_sz24 (Nat.le_of_ble_eq_true rfl) rfl) rfl ?_
    refine VList.nil (Then.go ?_)
    exact VCode.ret (⟨trivial, [.agg [boolB (zN (sg (decide (n < 0)) (val ([((((0 - ((n) % 18446744073709551616)) % 18446744073709551616)) % 4294967296), (((((0 - ((n) % 18446744073709551616)) % 18446744073709551616) / 4294967296)) % 4294967296)])))), u32S (zL (sg (decide (n < 0)) (val ([((((0 - ((n) % 18446744073709551616)) % 18446744073709551616)) % 4294967296), (((((0 - ((n) % 18446744073709551616)) % 18446744073709551616) / 4294967296)) % 4294967296)]))))]], (resVars_cons (resVar_cell rfl rfl P_agg24 P_sz24 (Nat.le_of_ble_eq_true rfl) rfl) resVars_nil), (by rw [of_val (by omega), show sg (decide (n < 0)) ((0 - n % 18446744073709551616) % 18446744073709551616) = n by simp only [sg, decide_eq_true hc1, if_true]; omega]; rfl)⟩)
  · replace hc1 := of_decide_eq_false hc1
    refine VCode.skip (Then.go ?_)
    refine VCode.seq ?_
    refine VCode.region ?_
    refine VList.go0 (n' := 7) rfl rfl (.move _ _ rfl) rfl ?_
    refine VList.go0 (n' := 8) rfl rfl (.bin _ _ _ _ _ _ _ _ rfl rfl rfl) rfl ?_
    refine VList.go0 (n' := 9) rfl rfl (.move _ _ rfl) rfl ?_
    refine VList.go0 (n' := 10) rfl rfl (Eff.convM_u32 rfl Try.underlying62 Try.underlying51) rfl ?_
    refine VList.go0 (n' := 11) rfl rfl (.move _ _ rfl) rfl ?_
    refine VList.go0 (n' := 12) rfl rfl (.bin _ _ _ _ _ _ _ _ rfl rfl (bop_shrL_u64 (q := 4294967296) (by decide) (by decide) (by decide))) rfl ?_
    refine VList.go0 (n' := 13) rfl rfl (Eff.convM_u32 rfl Try.underlying62 Try.underlying51) rfl ?_
    refine VList.go1 (n' := 14) rfl rfl (Eff.lits2 rfl rfl Try.underlying22 P_zero51 P_sz51) rfl ?_
    refine VList.goN (n' := 15) rfl rfl (.callV _ _ _ _ _ _ rfl (ress_cons rfl (ress_cons (res_row rfl (by first | omega | (simp; done) | (simp; omega) | (simp [*]; done) | (simp [*]; omega))) ress_nil)) (f54 _ _ (by simp) (ok32_two (by omega) (by omega)))) rfl ?_
    refine VList.go0 (n' := 16) rfl rfl (.move _ _ rfl) rfl ?_
    refine VList.go0 (n' := 17) rfl rfl (.extract _ _ _ _ rfl rfl) rfl ?_
    refine VList.go0 (n' := 18) rfl rfl (.extract _ _ _ _ rfl rfl) rfl ?_
    refine VList.go1 (n' := 19) rfl rfl (.alloc _ _ P_zero24 (List.cons_ne_nil _ _)) rfl ?_
    refine VList.goS (n' := 20) rfl rfl (.store _ _ _ _ _ _ _ rfl rfl rfl rfl P_sz24 (Nat.le_of_ble_eq_true rfl) rfl) rfl ?_
    refine VList.go0 (n' := 21) rfl rfl (.assign _ _ rfl) rfl ?_
    refine VList.nil (Then.go ?_)
    refine VCode.seq ?_
    refine VCode.region ?_
    refine VList.go0 (n' := 22) rfl rfl (.loadS _ _ _ _ _ _ rfl rfl P_agg24 P_sz24 (Nat.le_of_ble_eq_true rfl)) rfl ?_
    refine VList.goS (n' := 23) rfl rfl (.store _ _ _ _ _ _ _ rfl rfl rfl rfl P_sz24 (Nat.le_of_ble_eq_true rfl) rfl) rfl ?_
    refine VList.nil (Then.go ?_)
    exact VCode.ret (⟨trivial, [.agg [boolB (zN (sg (decide (n < 0)) (val ([((((n) % 18446744073709551616)) % 4294967296), (((((n) % 18446744073709551616) / 4294967296)) % 4294967296)])))), u32S (zL (sg (decide (n < 0)) (val ([((((n) % 18446744073709551616)) % 4294967296), (((((n) % 18446744073709551616) / 4294967296)) % 4294967296)]))))]], (resVars_cons (resVar_cell rfl rfl P_agg24 P_sz24 (Nat.le_of_ble_eq_true rfl) rfl) resVars_nil), (by rw [of_val (by omega), show sg (decide (n < 0)) (n % 18446744073709551616) = n by simp only [sg, decide_eq_false hc1, Bool.false_eq_true, if_false]; omega]; rfl)⟩)
theorem f35 (n : Bool) (A : List Int) (hA : A.length ≤ 9223372036854775807) (oA : ok32 A) : VF Try.prog 35 [.agg [boolB (n), u32S (A)]] (.tup [numB .i64 (smI n A), boolB (smB n A)]) := by
  refine VF_of P_mixed Try.func35 rfl rfl (by kernel_rfl) ?_
  refine VCode.seq ?_
  refine VCode.region ?_
  refine VList.go1 (n' := 1) rfl rfl (.box _ _ _ rfl (List.cons_ne_nil _ _) rfl) rfl ?_
  refine VList.go0 (n' := 2) rfl rfl (.assign _ _ rfl) rfl ?_
  refine VList.go0 (n' := 3) rfl rfl (.assign _ _ rfl) rfl ?_
  refine VList.nil (Then.go ?_)
  refine VCode.seq ?_
  refine VCode.seq ?_
  refine VCode.region ?_
  refine VList.go0 (n' := 4) rfl rfl (.loadS _ _ _ _ _ _ rfl rfl P_agg24 P_sz24 (Nat.le_of_ble_eq_true rfl)) rfl ?_
  refine VList.go0 (n' := 5) rfl rfl (.callF _ _ _ _ _ _ rfl (ress_cons rfl ress_nil) (f36 _ _ (by first | omega | (simp; done) | (simp; omega))) rfl) rfl ?_
  refine VList.go0 (n' := 6) rfl rfl (.un _ _ _ _ _ rfl rfl) rfl ?_
  refine VList.go0 (n' := 7) rfl rfl (.move _ _ rfl) rfl ?_
  refine VList.split (d := 8) _ rfl (fun hc1 => ?_) (fun hc1 => ?_)
  · replace hc1 := (bnot_t hc1)
    refine VList.skip (n' := 8) rfl rfl rfl ?_
    refine VList.skip (n' := 9) rfl rfl rfl ?_
    refine VList.skip (n' := 10) rfl rfl rfl ?_
    refine VList.skip (n' := 11) rfl rfl rfl ?_
    refine VList.go0 (n' := 12) rfl rfl (.pick _ _ _ _ _ rfl rfl) rfl ?_
    refine VList.nil (Then.go ?_)
    refine VCode.cond _ rfl (fun _ => ?_) (fun h_ => Bool.noConfusion h_)
    refine VCode.seq ?_
    refine VCode.region ?_
    refine VList.go0 (n' := 13) rfl rfl (.assign _ _ rfl) rfl ?_
    refine VList.go0 (n' := 14) rfl rfl (.assign _ _ rfl) rfl ?_
    refine VList.nil (Then.go ?_)
    exact VCode.ret (Then.ret (⟨trivial, [numB .i64 (0), boolB (false)], (resVars_cons (resVar_tmp rfl rfl) (resVars_cons (resVar_tmp rfl rfl) resVars_nil)), (by have hs : smB n A = false := sm_inv hc1; rw [sm_bad hs, hs]; rfl)⟩))
  · replace hc1 := (bnot_f hc1)
    refine VList.go0 (n' := 8) rfl rfl (.fieldAddr _ _ _ _ _ _ _ _ rfl P_fld24_1) rfl ?_
    refine VList.go0 (n' := 9) rfl rfl (.load1 _ _ _ _ _ _ rfl rfl P_agg22 rfl) rfl ?_
    refine VList.go0 (n' := 10) rfl rfl (Eff.lenS rfl Try.underlying22) rfl ?_
    refine VList.go0 (n' := 11) rfl rfl (.bin _ _ _ _ _ _ _ _ rfl rfl rfl) rfl ?_
    refine VList.go0 (n' := 12) rfl rfl (.pick _ _ _ _ _ rfl rfl) rfl ?_
    refine VList.nil (Then.go ?_)
    refine VCode.cond _ rfl (fun hc2 => ?_) (fun hc2 => ?_)
    · replace hc2 := of_decide_eq_true hc2
      refine VCode.seq ?_
      refine VCode.region ?_
      refine VList.go0 (n' := 13) rfl rfl (.assign _ _ rfl) rfl ?_
      refine VList.go0 (n' := 14) rfl rfl (.assign _ _ rfl) rfl ?_
      refine VList.nil (Then.go ?_)
      exact VCode.ret (Then.ret (⟨trivial, [numB .i64 (0), boolB (false)], (resVars_cons (resVar_tmp rfl rfl) (resVars_cons (resVar_tmp rfl rfl) resVars_nil)), (by have hs : smB n A = false := sm_len oA hc2; rw [sm_bad hs, hs]; rfl)⟩))
    · replace hc2 := of_decide_eq_false hc2
      refine VCode.skip (Then.go ?_)
      refine VCode.seq ?_
      have hv := hc1
      obtain ⟨nA, lA, sA⟩ := valid_norm oA hv
      have hw := word_lt oA (by omega)
      refine VCode.region ?_
      refine VList.go0 (n' := 13) rfl rfl (.fieldAddr _ _ _ _ _ _ _ _ rfl P_fld24_1) rfl ?_
      refine VList.go0 (n' := 14) rfl rfl (.load1 _ _ _ _ _ _ rfl rfl P_agg22 rfl) rfl ?_
      refine VList.go0 (n' := 15) rfl rfl (.callF _ _ _ _ _ _ rfl (ress_cons rfl ress_nil) (f69 _ (by omega) (oA)) rfl) rfl ?_
      refine VList.go0 (n' := 16) rfl rfl (.assign _ _ rfl) rfl ?_
      refine VList.nil (Then.go ?_)
      refine VCode.seq ?_
      refine VCode.seq ?_
      refine VCode.region ?_
      refine VList.go0 (n' := 17) rfl rfl (.fieldAddr _ _ _ _ _ _ _ _ rfl P_fld24_0) rfl ?_
      refine VList.go0 (n' := 18) rfl rfl (.load1 _ _ _ _ _ _ rfl rfl P_agg4 rfl) rfl ?_
      refine VList.nil (Then.go ?_)
      refine VCode.cond _ rfl (fun hc3 => ?_) (fun hc3 => ?_)
      · (try simp at hc3)
        refine VCode.seq ?_
        refine VCode.seq ?_
        refine VCode.region ?_
        refine VList.go0 (n' := 19) rfl rfl (.move _ _ rfl) rfl ?_
        refine VList.go0 (n' := 20) rfl rfl (.bin _ _ _ _ _ _ _ _ rfl rfl rfl) rfl ?_
        refine VList.nil (Then.go ?_)
        refine VCode.cond _ rfl (fun hc4 => ?_) (fun hc4 => ?_)
        · replace hc4 := of_decide_eq_true hc4
          refine VCode.seq ?_
          refine VCode.region ?_
          refine VList.go0 (n' := 21) rfl rfl (.assign _ _ rfl) rfl ?_
          refine VList.go0 (n' := 22) rfl rfl (.assign _ _ rfl) rfl ?_
          refine VList.nil (Then.go ?_)
          exact VCode.ret (Then.ret (Then.ret (⟨trivial, [numB .i64 (0), boolB (false)], (resVars_cons (resVar_tmp rfl rfl) (resVars_cons (resVar_tmp rfl rfl) resVars_nil)), (by have hs : smB n A = false := sm_val hv (by subst hc3; rw [eq_comm]; simp [zOf, sg]; omega); rw [sm_bad hs, hs]; rfl)⟩)))
        · replace hc4 := of_decide_eq_false hc4
          refine VCode.skip (Then.go ?_)
          refine VCode.seq ?_
          refine VCode.region ?_
          refine VList.go0 (n' := 21) rfl rfl (.move _ _ rfl) rfl ?_
          refine VList.go0 (n' := 22) rfl rfl (.un _ _ _ _ _ rfl (uopM_neg_u64 _)) rfl ?_
          refine VList.go0 (n' := 23) rfl rfl (Eff.convW rfl Try.underlying62 Try.underlying3 (neg_back hw.1 (by omega))) rfl ?_
          refine VList.go0 (n' := 24) rfl rfl (.assign _ _ rfl) rfl ?_
          refine VList.go0 (n' := 25) rfl rfl (.assign _ _ rfl) rfl ?_
          refine VList.nil (Then.go ?_)
          exact VCode.ret (Then.ret (⟨trivial, [numB .i64 ((-val (A))), boolB (true)], (resVars_cons (resVar_tmp rfl rfl) (resVars_cons (resVar_tmp rfl rfl) resVars_nil)), (by have hs : smB n A = true := sm_val hv (by subst hc3; rw [eq_comm]; simp [zOf, sg]; omega); rw [sm_ok hs, hs, hc3]; rfl)⟩))
      · (try simp at hc3)
        refine VCode.skip (Then.go ?_)
        refine VCode.seq ?_
        refine VCode.seq ?_
        refine VCode.region ?_
        refine VList.go0 (n' := 19) rfl rfl (.move _ _ rfl) rfl ?_
        refine VList.go0 (n' := 20) rfl rfl (.bin _ _ _ _ _ _ _ _ rfl rfl rfl) rfl ?_
        refine VList.nil (Then.go ?_)
        refine VCode.cond _ rfl (fun hc5 => ?_) (fun hc5 => ?_)
        · replace hc5 := of_decide_eq_true hc5
          refine VCode.seq ?_
          refine VCode.region ?_
          refine VList.go0 (n' := 21) rfl rfl (.assign _ _ rfl) rfl ?_
          refine VList.go0 (n' := 22) rfl rfl (.assign _ _ rfl) rfl ?_
          refine VList.nil (Then.go ?_)
          exact VCode.ret (Then.ret (⟨trivial, [numB .i64 (0), boolB (false)], (resVars_cons (resVar_tmp rfl rfl) (resVars_cons (resVar_tmp rfl rfl) resVars_nil)), (by have hs : smB n A = false := sm_val hv (by subst hc3; rw [eq_comm]; simp [zOf, sg]; omega); rw [sm_bad hs, hs]; rfl)⟩))
        · replace hc5 := of_decide_eq_false hc5
          refine VCode.skip (Then.go ?_)
          refine VCode.seq ?_
          refine VCode.region ?_
          refine VList.go0 (n' := 21) rfl rfl (.move _ _ rfl) rfl ?_
          refine VList.go0 (n' := 22) rfl rfl (Eff.convN_i64 rfl Try.underlying62 Try.underlying3 (by first | omega | (simp; done) | (simp; omega))) rfl ?_
          refine VList.go0 (n' := 23) rfl rfl (.assign _ _ rfl) rfl ?_
          refine VList.go0 (n' := 24) rfl rfl (.assign _ _ rfl) rfl ?_
          refine VList.nil (Then.go ?_)
          exact VCode.ret (⟨trivial, [numB .i64 (val (A)), boolB (true)], (resVars_cons (resVar_tmp rfl rfl) (resVars_cons (resVar_tmp rfl rfl) resVars_nil)), (by have hs : smB n A = true := sm_val hv (by subst hc3; rw [eq_comm]; simp [zOf, sg]; omega); rw [sm_ok hs, hs, hc3]; rfl)⟩)
end Go.VL

/- Walks over the Go functions, printed by a program of this session over the kit's print, and by hand. -/
set_option linter.unusedVariables false
set_option linter.unusedSimpArgs false
namespace Go.VL
open Go.Proofs
theorem f68 (L : List Int) (n : Int) (hL : L.length ≤ 900000000) (nL : norm L) (h0 : 0 ≤ n) (h1 : n ≤ 1000000000) : VF Try.prog 68 [u32S (L), numB .i64 (n)] (.tup [u32S (dg (val L / 2 ^ n.toNat)), boolB (decide (val L % 2 ^ n.toNat ≠ 0))]) := by
  refine VF_of P_mixed Try.func68 rfl rfl (by kernel_rfl) ?_
  refine VCode.seq ?_
  refine VCode.region ?_
  refine VList.go0 (n' := 1) rfl rfl (.assign _ _ rfl) rfl ?_
  refine VList.go0 (n' := 2) rfl rfl (.assign _ _ rfl) rfl ?_
  refine VList.nil (Then.go ?_)
  refine VCode.seq ?_
  refine VCode.region ?_
  refine VList.go0 (n' := 3) rfl rfl (.move _ _ rfl) rfl ?_
  refine VList.go0 (n' := 4) rfl rfl (.bin _ _ _ _ _ _ _ _ rfl rfl (bop_quo_i64 (by first | omega | (simp; done) | (simp; omega)) (by first | omega | (simp; done) | (simp; omega)) (by first | omega | (simp; done) | (simp; omega)))) rfl ?_
  refine VList.go0 (n' := 5) rfl rfl (.assign _ _ rfl) rfl ?_
  refine VList.nil (Then.go ?_)
  refine VCode.seq ?_
  refine VCode.seq ?_
  have oL := nL.1
  have hr : (n % 32).toNat < 32 := (by omega)
  have hm : n.toNat = 32 * (n / 32).toNat + (n % 32).toNat := (by omega)
  refine VCode.region ?_
  refine VList.go0 (n' := 6) rfl rfl (.move _ _ rfl) rfl ?_
  refine VList.go0 (n' := 7) rfl rfl (.move _ _ rfl) rfl ?_
  refine VList.go0 (n' := 8) rfl rfl (Eff.lenS rfl Try.underlying22) rfl ?_
  refine VList.go0 (n' := 9) rfl rfl (.bin _ _ _ _ _ _ _ _ rfl rfl rfl) rfl ?_
  refine VList.nil (Then.go ?_)
  refine VCode.cond _ rfl (fun hc1 => ?_) (fun hc1 => ?_)
  · replace hc1 := of_decide_eq_true hc1
    refine VCode.seq ?_
    refine VCode.region ?_
    refine VList.go0 (n' := 10) rfl rfl (.move _ _ rfl) rfl ?_
    refine VList.go0 (n' := 11) rfl rfl (Eff.lenS rfl Try.underlying22) rfl ?_
    refine VList.go0 (n' := 12) rfl rfl (.bin _ _ _ _ _ _ _ _ rfl rfl rfl) rfl ?_
    refine VList.go0 (n' := 13) rfl rfl (.assign _ _ rfl) rfl ?_
    refine VList.go0 (n' := 14) rfl rfl (.assign _ _ rfl) rfl ?_
    refine VList.nil (Then.go ?_)
    exact VCode.ret (Then.ret (⟨trivial, [u32S ([]), boolB (decide (((L).length : Int) > 0))], (resVars_cons (resVar_tmp rfl rfl) (resVars_cons (resVar_tmp rfl rfl) resVars_nil)), (by obtain ⟨w1, w2⟩ := right_out nL hm (by omega); rw [w1, w2]; rfl)⟩))
  · replace hc1 := of_decide_eq_false hc1
    refine VCode.skip (Then.go ?_)
    refine VCode.join (α := (Bool)) (fun (b : (Bool)) => (0, sl [(0, vS (L)), (1, vI .i64 (n)), (6, vI .i64 ((n / 32))), (7, vB (b))], en [])) (fun (b : (Bool)) => b = decide (val L % 2 ^ n.toNat ≠ 0)) ?_ ?_
    · skip
      have hq : (n / 32).toNat < L.length := (by omega)
      have h2 := two_pow_pos (n % 32).toNat
      have h3 := two_pow_lt hr
      have hx := ok32_getD oL (n / 32).toNat
      refine VCode.draw (by kernel_rfl) ?_
      refine VLog.go0 (n' := 10) rfl rfl (.move _ _ rfl) rfl ?_
      refine VLog.go0 (n' := 11) rfl rfl (.move _ _ rfl) rfl ?_
      refine VLog.go0 (n' := 12) rfl rfl (Eff.cutTo rfl rfl Try.underlying22 P_sz51 (by first | omega | (simp; done) | (simp; omega)) (by first | omega | (simp; done) | (simp; omega))) rfl ?_
      refine VLog.go0 (n' := 13) rfl rfl (Eff.callV0 rfl (ress_cons rfl ress_nil) (f64 _ (by first | omega | (simp; done) | (simp; omega)) (ok32_take oL _)) rfl) rfl ?_
      refine VLog.go0 (n' := 14) rfl rfl (Eff.lenS rfl Try.underlying22) rfl ?_
      refine VLog.go0 (n' := 15) rfl rfl (.bin _ _ _ _ _ _ _ _ rfl rfl rfl) rfl ?_
      refine VLog.go0 (n' := 16) rfl rfl (.move _ _ rfl) rfl ?_
      refine VLog.split (d := 26) _ rfl (fun hc2 => ?_) (fun hc2 => ?_)
      · replace hc2 := of_decide_eq_true hc2
        refine VLog.skip (n' := 17) rfl rfl rfl ?_
        refine VLog.skip (n' := 18) rfl rfl rfl ?_
        refine VLog.skip (n' := 19) rfl rfl rfl ?_
        refine VLog.skip (n' := 20) rfl rfl rfl ?_
        refine VLog.skip (n' := 21) rfl rfl rfl ?_
        refine VLog.skip (n' := 22) rfl rfl rfl ?_
        refine VLog.skip (n' := 23) rfl rfl rfl ?_
        refine VLog.skip (n' := 24) rfl rfl rfl ?_
        refine VLog.skip (n' := 25) rfl rfl rfl ?_
        refine VLog.skip (n' := 26) rfl rfl rfl ?_
        refine VLog.go0 (n' := 27) rfl rfl (.pick _ _ _ _ _ rfl rfl) rfl ?_
        refine VLog.go0 (n' := 28) rfl rfl (.assign _ _ rfl) rfl ?_
        exact VLog.nil ⟨by kernel_rfl, Joins.go (true) (by rw [eq_comm, decide_eq_true_iff]; exact (right_lost oL hr hm hq).2 (.inl hc2)) (Weak.of (show 0 ≤ 0 by decide) ⟨⟨rfl, rfl⟩, ⟨⟨rfl, rfl⟩, ⟨⟨rfl, rfl⟩, ⟨⟨rfl, rfl⟩, trivial⟩⟩⟩⟩ trivial)⟩
      · replace hc2 := of_decide_eq_false hc2
        refine VLog.go0 (n' := 17) rfl rfl (.move _ _ rfl) rfl ?_
        refine VLog.go0 (n' := 18) rfl rfl (.move _ _ rfl) rfl ?_
        refine VLog.go0 (n' := 19) rfl rfl (Eff.indexRd rfl rfl Try.underlying22 P_sz51 (by first | omega | (simp; done) | (simp; omega)) (by first | omega | (simp; done) | (simp; omega))) rfl ?_
        refine VLog.go0 (n' := 20) rfl rfl (.loadRd1 _ _ _ _ rfl P_agg51 rfl) rfl ?_
        refine VLog.go0 (n' := 21) rfl rfl (.move _ _ rfl) rfl ?_
        refine VLog.go0 (n' := 22) rfl rfl (.bin _ _ _ _ _ _ _ _ rfl rfl (bop_rem_i64 (by first | omega | (simp; done) | (simp; omega)) (by first | omega | (simp; done) | (simp; omega)))) rfl ?_
        refine VLog.go0 (n' := 23) rfl rfl (.bin _ _ _ _ _ _ _ _ rfl rfl (bop_shl_u32 (by omega) (by omega) (by omega))) rfl ?_
        refine VLog.go0 (n' := 24) rfl rfl (.bin _ _ _ _ _ _ _ _ rfl rfl (bop_sub_u32 (by omega))) rfl ?_
        refine VLog.go0 (n' := 25) rfl rfl (.bin _ _ _ _ _ _ _ _ rfl rfl (bop_mask_u32 (q := 2 ^ (n % 32).toNat) (n % 32).toNat rfl (by omega) (by omega) hx)) rfl ?_
        refine VLog.go0 (n' := 26) rfl rfl (.bin _ _ _ _ _ _ _ _ rfl rfl rfl) rfl ?_
        refine VLog.go0 (n' := 27) rfl rfl (.pick _ _ _ _ _ rfl rfl) rfl ?_
        refine VLog.go0 (n' := 28) rfl rfl (.assign _ _ rfl) rfl ?_
        exact VLog.nil ⟨by kernel_rfl, Joins.go (((L).getD (n / 32).toNat 0 % 2 ^ (n % 32).toNat != 0)) (by rw [Bool.eq_iff_iff, decide_eq_true_iff, right_lost oL hr hm hq, bne_iff_ne]; exact ⟨fun h => .inr h, fun h => h.resolve_left hc2⟩) (Weak.of (show 0 ≤ 0 by decide) ⟨⟨rfl, rfl⟩, ⟨⟨rfl, rfl⟩, ⟨⟨rfl, rfl⟩, ⟨⟨rfl, rfl⟩, trivial⟩⟩⟩⟩ trivial)⟩
    · intro b hok
      show VCode Try.prog 0 _ 0 (sl [(0, vS (L)), (1, vI .i64 (n)), (6, vI .i64 ((n / 32))), (7, vB (b))]) (en []) _
      refine VCode.seq ?_
      refine VCode.region ?_
      refine VList.go0 (n' := 1) rfl rfl (.move _ _ rfl) rfl ?_
      refine VList.go0 (n' := 2) rfl rfl (Eff.lenS rfl Try.underlying22) rfl ?_
      refine VList.go0 (n' := 3) rfl rfl (.move _ _ rfl) rfl ?_
      refine VList.go0 (n' := 4) rfl rfl (.bin _ _ _ _ _ _ _ _ rfl rfl (bop_sub_i64 (by first | omega | (simp; done) | (simp; omega)))) rfl ?_
      refine VList.go1 (n' := 5) rfl rfl (Eff.makeRow rfl Try.underlying22 P_zero51 P_sz51 P_bytes51 (by first | omega | (simp; done) | (simp; omega)) (by first | omega | (simp; done) | (simp; omega))) rfl ?_
      refine VList.go0 (n' := 6) rfl rfl (.assign _ _ rfl) rfl ?_
      refine VList.nil (Then.go ?_)
      refine VCode.seq ?_
      refine VCode.seq ?_
      refine VCode.region ?_
      refine VList.go0 (n' := 7) rfl rfl (.move _ _ rfl) rfl ?_
      refine VList.go0 (n' := 8) rfl rfl (Eff.lenO rfl Try.underlying22) rfl ?_
      refine VList.go0 (n' := 9) rfl rfl (.move _ _ rfl) rfl ?_
      refine VList.nil (Then.go ?_)
      refine VCode.block ?_
      refine VCode.loop (α := (Nat) × (List Int)) (fun (x_ : (Nat) × (List Int)) => match x_ with | (k, O) => (5, sl [(0, vS (L)), (1, vI .i64 (n)), (6, vI .i64 ((n / 32))), (7, vB (b)), (8, .own 4 (((((L).length : Int) - (n / 32))).toNat)), (44, vI .i64 (((((((L).length : Int) - (n / 32))).toNat : Nat) : Int))), (45, vI .i64 ((k : Int)))], en [(4, row (O))])) (fun (x_ : (Nat) × (List Int)) => match x_ with | (k, O) => RightInv L O (n / 32).toNat (n % 32).toNat k) (fun (x_ : (Nat) × (List Int)) => match x_ with | (k, O) => L.length - k) (0, List.replicate (((L).length : Int) - (n / 32)).toNat 0) (RightInv.start (by omega) (by simp; omega)) (Weak.of (show 0 ≤ 5 by decide) ⟨⟨rfl, rfl⟩, ⟨⟨rfl, rfl⟩, ⟨⟨rfl, rfl⟩, ⟨⟨rfl, rfl⟩, ⟨⟨rfl, rfl⟩, ⟨⟨rfl, rfl⟩, ⟨⟨rfl, rfl⟩, trivial⟩⟩⟩⟩⟩⟩⟩ ⟨⟨rfl, (show 4 < 5 by decide), row_cells⟩, trivial⟩) ?_
      rintro ⟨k, O⟩ hok2
      show VCode Try.prog 0 _ 5 (sl [(0, vS (L)), (1, vI .i64 (n)), (6, vI .i64 ((n / 32))), (7, vB (b)), (8, .own 4 (((((L).length : Int) - (n / 32))).toNat)), (44, vI .i64 (((((((L).length : Int) - (n / 32))).toNat : Nat) : Int))), (45, vI .i64 ((k : Int)))]) (en [(4, row (O))]) _
      refine VCode.seq ?_
      refine VCode.region ?_
      refine VList.go0 (n' := 6) rfl rfl (.bin _ _ _ _ _ _ _ _ rfl rfl rfl) rfl ?_
      refine VList.nil (Then.go ?_)
      refine VCode.seq ?_
      refine VCode.cond _ rfl (fun hc3 => ?_) (fun hc3 => ?_)
      · replace hc3 := of_decide_eq_true hc3
        refine VCode.skip (Then.go ?_)
        refine VCode.seq ?_
        refine VCode.block ?_
        refine VCode.seq ?_
        refine VCode.region ?_
        refine VList.go0 (n' := 7) rfl rfl (.move _ _ rfl) rfl ?_
        refine VList.go0 (n' := 8) rfl rfl (.assign _ _ rfl) rfl ?_
        refine VList.nil (Then.go ?_)
        refine VCode.seq ?_
        have hO := hok2.len
        have hi : (((k : Int)) + (n / 32)).toNat = k + (n / 32).toNat := (by omega)
        have hi1 : ((((k : Int)) + (n / 32)) + 1).toNat = k + (n / 32).toNat + 1 := (by omega)
        have hx := ok32_getD oL (((k : Int)) + (n / 32)).toNat
        have hy := ok32_getD oL ((((k : Int)) + (n / 32)) + 1).toNat
        refine VCode.region ?_
        refine VList.go0 (n' := 9) rfl rfl (.move _ _ rfl) rfl ?_
        refine VList.go0 (n' := 10) rfl rfl (.move _ _ rfl) rfl ?_
        refine VList.go0 (n' := 11) rfl rfl (.move _ _ rfl) rfl ?_
        refine VList.go0 (n' := 12) rfl rfl (.bin _ _ _ _ _ _ _ _ rfl rfl (bop_add_i64 (by first | omega | (simp; done) | (simp; omega)))) rfl ?_
        refine VList.go0 (n' := 13) rfl rfl (Eff.indexRd rfl rfl Try.underlying22 P_sz51 (by first | omega | (simp; done) | (simp; omega)) (by first | omega | (simp; done) | (simp; omega))) rfl ?_
        refine VList.go0 (n' := 14) rfl rfl (.loadRd1 _ _ _ _ rfl P_agg51 rfl) rfl ?_
        refine VList.go0 (n' := 15) rfl rfl (Eff.convN_u64 rfl Try.underlying51 Try.underlying62 (by first | omega | (simp; done) | (simp; omega))) rfl ?_
        refine VList.go0 (n' := 16) rfl rfl (.assign _ _ rfl) rfl ?_
        refine VList.nil (Then.go ?_)
        refine VCode.seq ?_
        refine VCode.seq ?_
        refine VCode.region ?_
        refine VList.go0 (n' := 17) rfl rfl (.move _ _ rfl) rfl ?_
        refine VList.go0 (n' := 18) rfl rfl (.move _ _ rfl) rfl ?_
        refine VList.go0 (n' := 19) rfl rfl (.bin _ _ _ _ _ _ _ _ rfl rfl (bop_add_i64 (by first | omega | (simp; done) | (simp; omega)))) rfl ?_
        refine VList.go0 (n' := 20) rfl rfl (.bin _ _ _ _ _ _ _ _ rfl rfl (bop_add_i64 (by first | omega | (simp; done) | (simp; omega)))) rfl ?_
        refine VList.go0 (n' := 21) rfl rfl (.move _ _ rfl) rfl ?_
        refine VList.go0 (n' := 22) rfl rfl (Eff.lenS rfl Try.underlying22) rfl ?_
        refine VList.go0 (n' := 23) rfl rfl (.bin _ _ _ _ _ _ _ _ rfl rfl rfl) rfl ?_
        refine VList.nil (Then.go ?_)
        refine VCode.cond _ rfl (fun hc4 => ?_) (fun hc4 => ?_)
        · replace hc4 := of_decide_eq_true hc4
          refine VCode.region ?_
          refine VList.go0 (n' := 24) rfl rfl (.move _ _ rfl) rfl ?_
          refine VList.go0 (n' := 25) rfl rfl (.move _ _ rfl) rfl ?_
          refine VList.go0 (n' := 26) rfl rfl (.move _ _ rfl) rfl ?_
          refine VList.go0 (n' := 27) rfl rfl (.move _ _ rfl) rfl ?_
          refine VList.go0 (n' := 28) rfl rfl (.bin _ _ _ _ _ _ _ _ rfl rfl (bop_add_i64 (by first | omega | (simp; done) | (simp; omega)))) rfl ?_
          refine VList.go0 (n' := 29) rfl rfl (.bin _ _ _ _ _ _ _ _ rfl rfl (bop_add_i64 (by first | omega | (simp; done) | (simp; omega)))) rfl ?_
          refine VList.go0 (n' := 30) rfl rfl (Eff.indexRd rfl rfl Try.underlying22 P_sz51 (by first | omega | (simp; done) | (simp; omega)) (by first | omega | (simp; done) | (simp; omega))) rfl ?_
          refine VList.go0 (n' := 31) rfl rfl (.loadRd1 _ _ _ _ rfl P_agg51 rfl) rfl ?_
          refine VList.go0 (n' := 32) rfl rfl (Eff.convN_u64 rfl Try.underlying51 Try.underlying62 (by first | omega | (simp; done) | (simp; omega))) rfl ?_
          refine VList.go0 (n' := 33) rfl rfl (.bin _ _ _ _ _ _ _ _ rfl rfl (bop_shlL_u64 (q := 4294967296) (by decide) (by decide) (by decide) (by omega))) rfl ?_
          refine VList.go0 (n' := 34) rfl rfl (.bin _ _ _ _ _ _ _ _ rfl rfl (bop_orR_u64 (q := 4294967296) 32 (by decide) hx ⟨_, hy.1, rfl⟩ (by omega))) rfl ?_
          refine VList.go0 (n' := 35) rfl rfl (.assign _ _ rfl) rfl ?_
          refine VList.nil (Then.go ?_)
          refine VCode.region ?_
          refine VList.go0 (n' := 36) rfl rfl (.move _ _ rfl) rfl ?_
          refine VList.go0 (n' := 37) rfl rfl (.move _ _ rfl) rfl ?_
          refine VList.go0 (n' := 38) rfl rfl (.move _ _ rfl) rfl ?_
          refine VList.go0 (n' := 39) rfl rfl (.move _ _ rfl) rfl ?_
          refine VList.go0 (n' := 40) rfl rfl (.bin _ _ _ _ _ _ _ _ rfl rfl (bop_rem_i64 (by first | omega | (simp; done) | (simp; omega)) (by first | omega | (simp; done) | (simp; omega)))) rfl ?_
          refine VList.go0 (n' := 41) rfl rfl (.bin _ _ _ _ _ _ _ _ rfl rfl (bop_shr_u64 (by first | omega | (simp; done) | (simp; omega)) (by first | omega | (simp; done) | (simp; omega)))) rfl ?_
          refine VList.go0 (n' := 42) rfl rfl (Eff.convM_u32 rfl Try.underlying62 Try.underlying51) rfl ?_
          refine VList.go0 (n' := 43) rfl rfl (Eff.indexRowN rfl rfl Try.underlying22 P_sz51 (by first | omega | (simp; done) | (simp; omega))) rfl ?_
          refine VList.goS (n' := 44) rfl rfl (Eff.store32 rfl rfl rfl P_sz51 (by first | omega | (simp; done) | (simp; omega))) rfl ?_
          refine VList.nil (InBlock.go (Then.go ?_))
          refine VCode.region ?_
          refine VList.go0 (n' := 45) rfl rfl (.bin _ _ _ _ _ _ _ _ rfl rfl (bop_add_i64 (by first | omega | (simp; done) | (simp; omega)))) rfl ?_
          refine VList.go0 (n' := 46) rfl rfl (.move _ _ rfl) rfl ?_
          exact VList.nil (Round.go (k + 1, O.set k (((L).getD ((((k : Int)) + (n / 32)).toNat) 0 + (L).getD (((((k : Int)) + (n / 32)) + 1).toNat) 0 * 4294967296) / 2 ^ ((n % 32)).toNat % 4294967296)) (hok2.step oL hr (by omega) (by rw [hi]; first | (rw [hi1]; omega) | (rw [getD_out (i := k + (n / 32).toNat + 1) (by omega)]; omega))) (by first | (dsimp only; omega) | omega) (Weak.of (show 0 ≤ 5 by decide) ⟨⟨rfl, rfl⟩, ⟨⟨rfl, rfl⟩, ⟨⟨rfl, rfl⟩, ⟨⟨rfl, rfl⟩, ⟨⟨rfl, rfl⟩, ⟨⟨rfl, rfl⟩, ⟨⟨rfl, rfl⟩, trivial⟩⟩⟩⟩⟩⟩⟩ ⟨⟨rfl, (show 4 < 5 by decide), row_cells⟩, trivial⟩))
        · replace hc4 := of_decide_eq_false hc4
          refine VCode.skip (Then.go ?_)
          refine VCode.region ?_
          refine VList.go0 (n' := 24) rfl rfl (.move _ _ rfl) rfl ?_
          refine VList.go0 (n' := 25) rfl rfl (.move _ _ rfl) rfl ?_
          refine VList.go0 (n' := 26) rfl rfl (.move _ _ rfl) rfl ?_
          refine VList.go0 (n' := 27) rfl rfl (.move _ _ rfl) rfl ?_
          refine VList.go0 (n' := 28) rfl rfl (.bin _ _ _ _ _ _ _ _ rfl rfl (bop_rem_i64 (by first | omega | (simp; done) | (simp; omega)) (by first | omega | (simp; done) | (simp; omega)))) rfl ?_
          refine VList.go0 (n' := 29) rfl rfl (.bin _ _ _ _ _ _ _ _ rfl rfl (bop_shr_u64 (by first | omega | (simp; done) | (simp; omega)) (by first | omega | (simp; done) | (simp; omega)))) rfl ?_
          refine VList.go0 (n' := 30) rfl rfl (Eff.convM_u32 rfl Try.underlying62 Try.underlying51) rfl ?_
          refine VList.go0 (n' := 31) rfl rfl (Eff.indexRowN rfl rfl Try.underlying22 P_sz51 (by first | omega | (simp; done) | (simp; omega))) rfl ?_
          refine VList.goS (n' := 32) rfl rfl (Eff.store32 rfl rfl rfl P_sz51 (by first | omega | (simp; done) | (simp; omega))) rfl ?_
          refine VList.nil (InBlock.go (Then.go ?_))
          refine VCode.region ?_
          refine VList.go0 (n' := 33) rfl rfl (.bin _ _ _ _ _ _ _ _ rfl rfl (bop_add_i64 (by first | omega | (simp; done) | (simp; omega)))) rfl ?_
          refine VList.go0 (n' := 34) rfl rfl (.move _ _ rfl) rfl ?_
          exact VList.nil (Round.go (k + 1, O.set k ((L).getD ((((k : Int)) + (n / 32)).toNat) 0 / 2 ^ ((n % 32)).toNat % 4294967296)) (hok2.step oL hr (by omega) (by rw [hi]; first | (rw [hi1]; omega) | (rw [getD_out (i := k + (n / 32).toNat + 1) (by omega)]; omega))) (by first | (dsimp only; omega) | omega) (Weak.of (show 0 ≤ 5 by decide) ⟨⟨rfl, rfl⟩, ⟨⟨rfl, rfl⟩, ⟨⟨rfl, rfl⟩, ⟨⟨rfl, rfl⟩, ⟨⟨rfl, rfl⟩, ⟨⟨rfl, rfl⟩, ⟨⟨rfl, rfl⟩, trivial⟩⟩⟩⟩⟩⟩⟩ ⟨⟨rfl, (show 4 < 5 by decide), row_cells⟩, trivial⟩))
      · replace hc3 := of_decide_eq_false hc3
        refine VCode.exit (Then.exit (Round.exit (InBlock.here (Then.go ?_))))
        refine VCode.seq ?_
        have hO := hok2.len
        have hle := hok2.le
        obtain ⟨e1, e2⟩ := hok2.fin oL (by omega) hm
        refine VCode.region ?_
        refine VList.go0 (n' := 7) rfl rfl (.move _ _ rfl) rfl ?_
        refine VList.goN (n' := 8) rfl rfl (.callV _ _ _ _ _ _ rfl (ress_cons (res_row rfl (by first | omega | (simp; done) | (simp; omega) | (simp [*]; done) | (simp [*]; omega))) ress_nil) (f64 _ (by first | omega | (simp; done) | (simp; omega)) (e2))) rfl ?_
        refine VList.go0 (n' := 9) rfl rfl (.move _ _ rfl) rfl ?_
        refine VList.go0 (n' := 10) rfl rfl (.assign _ _ rfl) rfl ?_
        refine VList.go0 (n' := 11) rfl rfl (.assign _ _ rfl) rfl ?_
        refine VList.nil (Then.go ?_)
        exact VCode.ret (⟨trivial, [u32S (dg (val (O))), boolB (b)], (resVars_cons (resVar_tmp rfl rfl) (resVars_cons (resVar_tmp rfl rfl) resVars_nil)), (by rw [← hok, e1]; rfl)⟩)
end Go.VL

/- Walks over the Go functions, printed by a program of this session over the kit's print, and by hand. -/
set_option linter.unusedVariables false
set_option linter.unusedSimpArgs false
namespace Go.VL
open Go.Proofs
theorem f82 (U V : List Int) (j : Nat) (q : Int) (hU : U.length ≤ 900000000) (oU : ok32 U) (oV : ok32 V) (hq : 0 ≤ q ∧ q < 4294967296) (hj : j + V.length < U.length) (hz : ∀ k, j + V.length < k → U.getD k 0 = 0) (hl : (q - 1) * val V ≤ val (U.drop j)) (hr : val (U.drop j) < (q + 1) * val V) (hVp : 0 < val V) : VM Try.prog 82 ((U).map u32B) [numB .i64 ((j : Int)), u32S (V), numB .u64 (q)] (numB .u32 (val (U.drop j) / val V)) ((pad U.length (took U V j)).map u32B) := by
  refine VMr_of P_mixed Try.func82 rfl rfl (by kernel_rfl) (pad_len (took_range oU oV (by omega) hVp).1 (took_range oU oV (by omega) hVp).2).1 rfl ?_
  refine VCode.seq ?_
  refine VCode.region ?_
  refine VList.go0 (n' := 2) rfl rfl (.assign _ _ rfl) rfl ?_
  refine VList.nil (Then.go ?_)
  refine VCode.seq ?_
  refine VCode.region ?_
  refine VList.go0 (n' := 3) rfl rfl (.assign _ _ rfl) rfl ?_
  refine VList.go0 (n' := 4) rfl rfl (.assign _ _ rfl) rfl ?_
  refine VList.nil (Then.go ?_)
  refine VCode.seq ?_
  refine VCode.seq ?_
  refine VCode.region ?_
  refine VList.go0 (n' := 5) rfl rfl (.move _ _ rfl) rfl ?_
  refine VList.go0 (n' := 6) rfl rfl (Eff.lenS rfl Try.underlying22) rfl ?_
  refine VList.go0 (n' := 7) rfl rfl (.move _ _ rfl) rfl ?_
  refine VList.nil (Then.go ?_)
  refine VCode.block ?_
  refine VCode.loop (α := (Nat) × (Int) × (Int) × (List Int)) (fun (x_ : (Nat) × (Int) × (Int) × (List Int)) => match x_ with | (i, c, w, O) => (1, sl [(0, .own 0 ((U).length)), (1, vI .i64 ((j : Int))), (2, vS (V)), (3, vI .u64 (q)), (9, vI .u64 (c)), (10, vI .u64 (w)), (18, vI .i64 (((V).length : Int))), (19, vI .i64 ((i : Int)))], en [(0, row (O))])) (fun (x_ : (Nat) × (Int) × (Int) × (List Int)) => match x_ with | (i, c, w, O) => TakeInv U V O q j i c w) (fun (x_ : (Nat) × (Int) × (Int) × (List Int)) => match x_ with | (i, c, w, O) => V.length - i) (0, 0, 0, U) (TakeInv.start oU) (Weak.of (show 1 ≤ 1 by decide) ⟨⟨rfl, rfl⟩, ⟨⟨rfl, rfl⟩, ⟨⟨rfl, rfl⟩, ⟨⟨rfl, rfl⟩, ⟨⟨rfl, rfl⟩, ⟨⟨rfl, rfl⟩, ⟨⟨rfl, rfl⟩, ⟨⟨rfl, rfl⟩, trivial⟩⟩⟩⟩⟩⟩⟩⟩ ⟨⟨rfl, (show 0 < 1 by decide), row_cells⟩, trivial⟩) ?_
  rintro ⟨i, c, w, O⟩ hok
  show VCode Try.prog 1 _ 1 (sl [(0, .own 0 ((U).length)), (1, vI .i64 ((j : Int))), (2, vS (V)), (3, vI .u64 (q)), (9, vI .u64 (c)), (10, vI .u64 (w)), (18, vI .i64 (((V).length : Int))), (19, vI .i64 ((i : Int)))]) (en [(0, row (O))]) _
  refine VCode.seq ?_
  refine VCode.region ?_
  refine VList.go0 (n' := 2) rfl rfl (.bin _ _ _ _ _ _ _ _ rfl rfl rfl) rfl ?_
  refine VList.nil (Then.go ?_)
  refine VCode.seq ?_
  refine VCode.cond _ rfl (fun hc1 => ?_) (fun hc1 => ?_)
  · replace hc1 := of_decide_eq_true hc1
    refine VCode.skip (Then.go ?_)
    refine VCode.seq ?_
    refine VCode.block ?_
    refine VCode.seq ?_
    refine VCode.region ?_
    refine VList.go0 (n' := 3) rfl rfl (.move _ _ rfl) rfl ?_
    refine VList.go0 (n' := 4) rfl rfl (.assign _ _ rfl) rfl ?_
    refine VList.nil (Then.go ?_)
    refine VCode.seq ?_
    have hi : (((j : Int)) + ((i : Int))).toNat = j + i := (by omega)
    have hv := ok32_getD oV i
    have hp := take_prod hq hv ⟨hok.c0, hok.c1⟩
    have hqv := mul_small hq hv
    have h0 := hok.c0
    have h1 := hok.c1
    have hlen := hok.len
    have hO := ok32_getD hok.ok ((((j : Int)) + ((i : Int))).toNat)
    refine VCode.region ?_
    refine VList.go0 (n' := 5) rfl rfl (.move _ _ rfl) rfl ?_
    refine VList.go0 (n' := 6) rfl rfl (.move _ _ rfl) rfl ?_
    refine VList.go0 (n' := 7) rfl rfl (.move _ _ rfl) rfl ?_
    refine VList.go0 (n' := 8) rfl rfl (Eff.indexRdN rfl rfl Try.underlying22 P_sz51 (by first | omega | (simp; done) | (simp; omega))) rfl ?_
    refine VList.go0 (n' := 9) rfl rfl (.loadRd1 _ _ _ _ rfl P_agg51 rfl) rfl ?_
    refine VList.go0 (n' := 10) rfl rfl (Eff.convN_u64 rfl Try.underlying51 Try.underlying62 (by first | omega | (simp; done) | (simp; omega))) rfl ?_
    refine VList.go0 (n' := 11) rfl rfl (.bin _ _ _ _ _ _ _ _ rfl rfl (bop_mul_u64 (by first | omega | (simp; done) | (simp; omega)))) rfl ?_
    refine VList.go0 (n' := 12) rfl rfl (.move _ _ rfl) rfl ?_
    refine VList.go0 (n' := 13) rfl rfl (.bin _ _ _ _ _ _ _ _ rfl rfl (bop_add_u64 (by first | omega | (simp; done) | (simp; omega)))) rfl ?_
    refine VList.go0 (n' := 14) rfl rfl (.assign _ _ rfl) rfl ?_
    refine VList.nil (Then.go ?_)
    refine VCode.seq ?_
    refine VCode.region ?_
    refine VList.go0 (n' := 15) rfl rfl (.move _ _ rfl) rfl ?_
    refine VList.go0 (n' := 16) rfl rfl (.bin _ _ _ _ _ _ _ _ rfl rfl (bop_shrL_u64 (q := 4294967296) (by decide) (by decide) (by decide))) rfl ?_
    refine VList.go0 (n' := 17) rfl rfl (.assign _ _ rfl) rfl ?_
    refine VList.nil (Then.go ?_)
    refine VCode.seq ?_
    refine VCode.region ?_
    refine VList.go0 (n' := 18) rfl rfl (.move _ _ rfl) rfl ?_
    refine VList.go0 (n' := 19) rfl rfl (.move _ _ rfl) rfl ?_
    refine VList.go0 (n' := 20) rfl rfl (.move _ _ rfl) rfl ?_
    refine VList.go0 (n' := 21) rfl rfl (.bin _ _ _ _ _ _ _ _ rfl rfl (bop_add_i64 (by first | omega | (simp; done) | (simp; omega)))) rfl ?_
    refine VList.go0 (n' := 22) rfl rfl (Eff.indexRow rfl rfl Try.underlying22 P_sz51 (by first | omega | (simp; done) | (simp; omega)) (by first | omega | (simp; done) | (simp; omega))) rfl ?_
    refine VList.go0 (n' := 23) rfl rfl (Eff.load32 rfl rfl P_agg51 (by first | omega | (simp; done) | (simp; omega))) rfl ?_
    refine VList.go0 (n' := 24) rfl rfl (Eff.convN_u64 rfl Try.underlying51 Try.underlying62 (by first | omega | (simp; done) | (simp; omega))) rfl ?_
    refine VList.go0 (n' := 25) rfl rfl (.move _ _ rfl) rfl ?_
    refine VList.go0 (n' := 26) rfl rfl (.bin _ _ _ _ _ _ _ _ rfl rfl (bop_mask_u64 (q := 4294967296) 32 (by decide) (by decide) (by decide) (by omega))) rfl ?_
    refine VList.go0 (n' := 27) rfl rfl (.bin _ _ _ _ _ _ _ _ rfl rfl (bopM_sub_u64 _ _)) rfl ?_
    refine VList.go0 (n' := 28) rfl rfl (.move _ _ rfl) rfl ?_
    refine VList.go0 (n' := 29) rfl rfl (.bin _ _ _ _ _ _ _ _ rfl rfl (bopM_sub_u64 _ _)) rfl ?_
    refine VList.go0 (n' := 30) rfl rfl (.assign _ _ rfl) rfl ?_
    refine VList.nil (Then.go ?_)
    refine VCode.seq ?_
    refine VCode.region ?_
    refine VList.go0 (n' := 31) rfl rfl (.move _ _ rfl) rfl ?_
    refine VList.go0 (n' := 32) rfl rfl (.move _ _ rfl) rfl ?_
    refine VList.go0 (n' := 33) rfl rfl (.move _ _ rfl) rfl ?_
    refine VList.go0 (n' := 34) rfl rfl (.bin _ _ _ _ _ _ _ _ rfl rfl (bop_add_i64 (by first | omega | (simp; done) | (simp; omega)))) rfl ?_
    refine VList.go0 (n' := 35) rfl rfl (.move _ _ rfl) rfl ?_
    refine VList.go0 (n' := 36) rfl rfl (Eff.convM_u32 rfl Try.underlying62 Try.underlying51) rfl ?_
    refine VList.go0 (n' := 37) rfl rfl (Eff.indexRow rfl rfl Try.underlying22 P_sz51 (by first | omega | (simp; done) | (simp; omega)) (by first | omega | (simp; done) | (simp; omega))) rfl ?_
    refine VList.goS (n' := 38) rfl rfl (Eff.store32 rfl rfl rfl P_sz51 (by first | omega | (simp; done) | (simp; omega))) rfl ?_
    refine VList.nil (Then.go ?_)
    refine VCode.region ?_
    refine VList.go0 (n' := 39) rfl rfl (.move _ _ rfl) rfl ?_
    refine VList.go0 (n' := 40) rfl rfl (.bin _ _ _ _ _ _ _ _ rfl rfl (bop_shrL_u64 (q := 9223372036854775808) (by decide) (by decide) (by decide))) rfl ?_
    refine VList.go0 (n' := 41) rfl rfl (.assign _ _ rfl) rfl ?_
    refine VList.nil (InBlock.go (Then.go ?_))
    refine VCode.region ?_
    refine VList.go0 (n' := 42) rfl rfl (.bin _ _ _ _ _ _ _ _ rfl rfl (bop_add_i64 (by first | omega | (simp; done) | (simp; omega)))) rfl ?_
    refine VList.go0 (n' := 43) rfl rfl (.move _ _ rfl) rfl ?_
    exact VList.nil (Round.go (i + 1, (q * (V).getD (i) 0 + c) / 4294967296, (((((O).getD ((((j : Int)) + ((i : Int))).toNat) 0 - ((q * (V).getD (i) 0 + c) % 4294967296)) % 18446744073709551616) - w) % 18446744073709551616) / 9223372036854775808, (O).set ((((j : Int)) + ((i : Int))).toNat) ((((((O).getD ((((j : Int)) + ((i : Int))).toNat) 0 - ((q * (V).getD (i) 0 + c) % 4294967296)) % 18446744073709551616) - w) % 18446744073709551616) % 4294967296)) (by show TakeInv U V ((O).set ((((j : Int)) + ((i : Int))).toNat) ((((((O).getD ((((j : Int)) + ((i : Int))).toNat) 0 - ((q * (V).getD (i) 0 + c) % 4294967296)) % 18446744073709551616) - w) % 18446744073709551616) % 4294967296)) q j (i + 1) _ _; rw [hi]; exact hok.step oV hq (by omega) hj rfl rfl) (by first | (dsimp only; omega) | omega) (Weak.of (show 1 ≤ 1 by decide) ⟨⟨rfl, rfl⟩, ⟨⟨rfl, rfl⟩, ⟨⟨rfl, rfl⟩, ⟨⟨rfl, rfl⟩, ⟨⟨rfl, rfl⟩, ⟨⟨rfl, rfl⟩, ⟨⟨rfl, rfl⟩, ⟨⟨rfl, rfl⟩, trivial⟩⟩⟩⟩⟩⟩⟩⟩ ⟨⟨rfl, (show 0 < 1 by decide), row_cells⟩, trivial⟩))
  · replace hc1 := of_decide_eq_false hc1
    refine VCode.exit (Then.exit (Round.exit (InBlock.here (Then.go ?_))))
    refine VCode.seq ?_
    have hn : (((j : Int)) + (((V).length : Int))).toNat = j + V.length := (by omega)
    have hlen := hok.len
    have hle := hok.le
    have h0 := hok.c0
    have h1 := hok.c1
    have hi : i = V.length := (by omega)
    subst hi
    have hO := ok32_getD hok.ok ((((j : Int)) + (((V).length : Int))).toNat)
    refine VCode.region ?_
    refine VList.go0 (n' := 3) rfl rfl (.move _ _ rfl) rfl ?_
    refine VList.go0 (n' := 4) rfl rfl (.move _ _ rfl) rfl ?_
    refine VList.go0 (n' := 5) rfl rfl (.move _ _ rfl) rfl ?_
    refine VList.go0 (n' := 6) rfl rfl (Eff.lenS rfl Try.underlying22) rfl ?_
    refine VList.go0 (n' := 7) rfl rfl (.bin _ _ _ _ _ _ _ _ rfl rfl (bop_add_i64 (by first | omega | (simp; done) | (simp; omega)))) rfl ?_
    refine VList.go0 (n' := 8) rfl rfl (Eff.indexRow rfl rfl Try.underlying22 P_sz51 (by first | omega | (simp; done) | (simp; omega)) (by first | omega | (simp; done) | (simp; omega))) rfl ?_
    refine VList.go0 (n' := 9) rfl rfl (Eff.load32 rfl rfl P_agg51 (by first | omega | (simp; done) | (simp; omega))) rfl ?_
    refine VList.go0 (n' := 10) rfl rfl (Eff.convN_u64 rfl Try.underlying51 Try.underlying62 (by first | omega | (simp; done) | (simp; omega))) rfl ?_
    refine VList.go0 (n' := 11) rfl rfl (.move _ _ rfl) rfl ?_
    refine VList.go0 (n' := 12) rfl rfl (.bin _ _ _ _ _ _ _ _ rfl rfl (bopM_sub_u64 _ _)) rfl ?_
    refine VList.go0 (n' := 13) rfl rfl (.move _ _ rfl) rfl ?_
    refine VList.go0 (n' := 14) rfl rfl (.bin _ _ _ _ _ _ _ _ rfl rfl (bopM_sub_u64 _ _)) rfl ?_
    refine VList.go0 (n' := 15) rfl rfl (.assign _ _ rfl) rfl ?_
    refine VList.nil (Then.go ?_)
    refine VCode.seq ?_
    refine VCode.region ?_
    refine VList.go0 (n' := 16) rfl rfl (.move _ _ rfl) rfl ?_
    refine VList.go0 (n' := 17) rfl rfl (.move _ _ rfl) rfl ?_
    refine VList.go0 (n' := 18) rfl rfl (.move _ _ rfl) rfl ?_
    refine VList.go0 (n' := 19) rfl rfl (Eff.lenS rfl Try.underlying22) rfl ?_
    refine VList.go0 (n' := 20) rfl rfl (.bin _ _ _ _ _ _ _ _ rfl rfl (bop_add_i64 (by first | omega | (simp; done) | (simp; omega)))) rfl ?_
    refine VList.go0 (n' := 21) rfl rfl (.move _ _ rfl) rfl ?_
    refine VList.go0 (n' := 22) rfl rfl (Eff.convM_u32 rfl Try.underlying62 Try.underlying51) rfl ?_
    refine VList.go0 (n' := 23) rfl rfl (Eff.indexRow rfl rfl Try.underlying22 P_sz51 (by first | omega | (simp; done) | (simp; omega)) (by first | omega | (simp; done) | (simp; omega))) rfl ?_
    refine VList.goS (n' := 24) rfl rfl (Eff.store32 rfl rfl rfl P_sz51 (by first | omega | (simp; done) | (simp; omega))) rfl ?_
    refine VList.nil (Then.go ?_)
    refine VCode.seq ?_
    refine VCode.seq ?_
    refine VCode.region ?_
    refine VList.go0 (n' := 25) rfl rfl (.move _ _ rfl) rfl ?_
    refine VList.go0 (n' := 26) rfl rfl (.bin _ _ _ _ _ _ _ _ rfl rfl (bop_shrL_u64 (q := 9223372036854775808) (by decide) (by decide) (by decide))) rfl ?_
    refine VList.go0 (n' := 27) rfl rfl (.bin _ _ _ _ _ _ _ _ rfl rfl rfl) rfl ?_
    refine VList.nil (Then.go ?_)
    refine VCode.cond _ rfl (fun hc2 => ?_) (fun hc2 => ?_)
    · replace hc2 := eq_of_beq hc2
      refine VCode.seq ?_
      rw [hn] at hc2
      obtain ⟨g1, g2⟩ := hok.good rfl hj rfl hc2
      obtain ⟨d1, d2⟩ := take_good oU oV g2 (by simp [hlen]) (by omega) hVp hr g1
      refine VCode.region ?_
      refine VList.go0 (n' := 28) rfl rfl (.move _ _ rfl) rfl ?_
      refine VList.go0 (n' := 29) rfl rfl (Eff.convM_u32 rfl Try.underlying62 Try.underlying51) rfl ?_
      refine VList.go0 (n' := 30) rfl rfl (.assign _ _ rfl) rfl ?_
      refine VList.nil (Then.go ?_)
      exact VCode.ret (Then.ret (⟨trivial, ⟨[numB .u32 (((q) % 4294967296))], (resVars_cons (resVar_tmp rfl rfl) resVars_nil), (by rw [d1, show q % 4294967296 = q by omega]; rfl)⟩, (show some (row ((O).set ((((j : Int) + ((V).length : Int))).toNat) ((((((((O).getD ((((j : Int) + ((V).length : Int))).toNat) 0 - c) % 18446744073709551616) - w) % 18446744073709551616)) % 4294967296)))) = some (row (pad U.length (took U V j))) from (by rw [hn, d2]))⟩))
    · replace hc2 := ne_of_beq_false hc2
      refine VCode.skip (Then.go ?_)
      refine VCode.seq ?_
      rw [hn] at hc2
      obtain ⟨hb1, hb2⟩ := hok.bad rfl hj rfl hc2
      have hWz : ∀ k, j + V.length < k → ((O).set (j + V.length) ((((((O).getD (j + V.length) 0 - c) % 18446744073709551616) - w) % 18446744073709551616) % 4294967296)).getD k 0 = 0 := fun k hk => (by rw [getD_set_ne (by omega), hok.same k (by omega)]; exact hz k hk)
      refine VCode.region ?_
      refine VList.go0 (n' := 28) rfl rfl (.assign _ _ rfl) rfl ?_
      refine VList.nil (Then.go ?_)
      refine VCode.seq ?_
      refine VCode.seq ?_
      refine VCode.region ?_
      refine VList.go0 (n' := 29) rfl rfl (.move _ _ rfl) rfl ?_
      refine VList.go0 (n' := 30) rfl rfl (Eff.lenS rfl Try.underlying22) rfl ?_
      refine VList.go0 (n' := 31) rfl rfl (.move _ _ rfl) rfl ?_
      refine VList.nil (Then.go ?_)
      refine VCode.block ?_
      refine VCode.loop (α := (Nat) × (Int) × (List Int)) (fun (x_ : (Nat) × (Int) × (List Int)) => match x_ with | (i, c2, O2) => (1, sl [(0, .own 0 ((U).length)), (1, vI .i64 ((j : Int))), (2, vS (V)), (3, vI .u64 (q)), (9, vI .u64 (c2)), (81, vI .i64 (((V).length : Int))), (82, vI .i64 ((i : Int)))], en [(0, row (O2))])) (fun (x_ : (Nat) × (Int) × (List Int)) => match x_ with | (i, c2, O2) => BackInv ((O).set (j + V.length) ((((((O).getD ((((j : Int)) + (((V).length : Int))).toNat) 0 - c) % 18446744073709551616) - w) % 18446744073709551616) % 4294967296)) V O2 j i c2) (fun (x_ : (Nat) × (Int) × (List Int)) => match x_ with | (i, c2, O2) => V.length - i) (0, 0, (O).set ((((j : Int)) + (((V).length : Int))).toNat) ((((((O).getD ((((j : Int)) + (((V).length : Int))).toNat) 0 - c) % 18446744073709551616) - w) % 18446744073709551616) % 4294967296)) (by rw [hn]; exact BackInv.start hb2) (Weak.of (show 1 ≤ 1 by decide) ⟨⟨rfl, rfl⟩, ⟨⟨rfl, rfl⟩, ⟨⟨rfl, rfl⟩, ⟨⟨rfl, rfl⟩, ⟨⟨rfl, rfl⟩, ⟨⟨rfl, rfl⟩, ⟨⟨rfl, rfl⟩, trivial⟩⟩⟩⟩⟩⟩⟩ ⟨⟨rfl, (show 0 < 1 by decide), row_cells⟩, trivial⟩) ?_
      rintro ⟨i, c2, O2⟩ hok2
      show VCode Try.prog 1 _ 1 (sl [(0, .own 0 ((U).length)), (1, vI .i64 ((j : Int))), (2, vS (V)), (3, vI .u64 (q)), (9, vI .u64 (c2)), (81, vI .i64 (((V).length : Int))), (82, vI .i64 ((i : Int)))]) (en [(0, row (O2))]) _
      refine VCode.seq ?_
      refine VCode.region ?_
      refine VList.go0 (n' := 2) rfl rfl (.bin _ _ _ _ _ _ _ _ rfl rfl rfl) rfl ?_
      refine VList.nil (Then.go ?_)
      refine VCode.seq ?_
      refine VCode.cond _ rfl (fun hc3 => ?_) (fun hc3 => ?_)
      · replace hc3 := of_decide_eq_true hc3
        refine VCode.skip (Then.go ?_)
        refine VCode.seq ?_
        refine VCode.block ?_
        refine VCode.seq ?_
        refine VCode.region ?_
        refine VList.go0 (n' := 3) rfl rfl (.move _ _ rfl) rfl ?_
        refine VList.go0 (n' := 4) rfl rfl (.assign _ _ rfl) rfl ?_
        refine VList.nil (Then.go ?_)
        refine VCode.seq ?_
        have hi : (((j : Int)) + ((i : Int))).toNat = j + i := (by omega)
        have hv := ok32_getD oV i
        have hlen2 := hok2.len
        have hO2 := ok32_getD hok2.ok ((((j : Int)) + ((i : Int))).toNat)
        have h3 := hok2.c0
        have h4 := hok2.c1
        simp only [List.length_set] at hlen2
        refine VCode.draw (by kernel_rfl) ?_
        refine VLog.go0 (n' := 5) rfl rfl (.move _ _ rfl) rfl ?_
        refine VLog.go0 (n' := 6) rfl rfl (.move _ _ rfl) rfl ?_
        refine VLog.go0 (n' := 7) rfl rfl (.move _ _ rfl) rfl ?_
        refine VLog.go0 (n' := 8) rfl rfl (.bin _ _ _ _ _ _ _ _ rfl rfl (bop_add_i64 (by first | omega | (simp; done) | (simp; omega)))) rfl ?_
        refine VLog.go0 (n' := 9) rfl rfl (Eff.indexRow rfl rfl Try.underlying22 P_sz51 (by first | omega | (simp; done) | (simp; omega)) (by first | omega | (simp; done) | (simp; omega))) rfl ?_
        refine VLog.go0 (n' := 10) rfl rfl (Eff.load32 rfl rfl P_agg51 (by first | omega | (simp; done) | (simp; omega))) rfl ?_
        refine VLog.go0 (n' := 11) rfl rfl (Eff.convN_u64 rfl Try.underlying51 Try.underlying62 (by first | omega | (simp; done) | (simp; omega))) rfl ?_
        refine VLog.go0 (n' := 12) rfl rfl (.move _ _ rfl) rfl ?_
        refine VLog.go0 (n' := 13) rfl rfl (.move _ _ rfl) rfl ?_
        refine VLog.go0 (n' := 14) rfl rfl (Eff.indexRdN rfl rfl Try.underlying22 P_sz51 (by first | omega | (simp; done) | (simp; omega))) rfl ?_
        refine VLog.go0 (n' := 15) rfl rfl (.loadRd1 _ _ _ _ rfl P_agg51 rfl) rfl ?_
        refine VLog.go0 (n' := 16) rfl rfl (Eff.convN_u64 rfl Try.underlying51 Try.underlying62 (by first | omega | (simp; done) | (simp; omega))) rfl ?_
        refine VLog.go0 (n' := 17) rfl rfl (.bin _ _ _ _ _ _ _ _ rfl rfl (bop_add_u64 (by first | omega | (simp; done) | (simp; omega)))) rfl ?_
        refine VLog.go0 (n' := 18) rfl rfl (.move _ _ rfl) rfl ?_
        refine VLog.go0 (n' := 19) rfl rfl (.bin _ _ _ _ _ _ _ _ rfl rfl (bop_add_u64 (by first | omega | (simp; done) | (simp; omega)))) rfl ?_
        refine VLog.go0 (n' := 20) rfl rfl (.assign _ _ rfl) rfl ?_
        refine VLog.nil ⟨by kernel_rfl, Then.go ?_⟩
        refine VCode.seq ?_
        refine VCode.region ?_
        refine VList.go0 (n' := 21) rfl rfl (.move _ _ rfl) rfl ?_
        refine VList.go0 (n' := 22) rfl rfl (.move _ _ rfl) rfl ?_
        refine VList.go0 (n' := 23) rfl rfl (.move _ _ rfl) rfl ?_
        refine VList.go0 (n' := 24) rfl rfl (.bin _ _ _ _ _ _ _ _ rfl rfl (bop_add_i64 (by first | omega | (simp; done) | (simp; omega)))) rfl ?_
        refine VList.go0 (n' := 25) rfl rfl (.move _ _ rfl) rfl ?_
        refine VList.go0 (n' := 26) rfl rfl (Eff.convM_u32 rfl Try.underlying62 Try.underlying51) rfl ?_
        refine VList.go0 (n' := 27) rfl rfl (Eff.indexRow rfl rfl Try.underlying22 P_sz51 (by first | omega | (simp; done) | (simp; omega)) (by first | omega | (simp; done) | (simp; omega))) rfl ?_
        refine VList.goS (n' := 28) rfl rfl (Eff.store32 rfl rfl rfl P_sz51 (by first | omega | (simp; done) | (simp; omega))) rfl ?_
        refine VList.nil (Then.go ?_)
        refine VCode.region ?_
        refine VList.go0 (n' := 29) rfl rfl (.move _ _ rfl) rfl ?_
        refine VList.go0 (n' := 30) rfl rfl (.bin _ _ _ _ _ _ _ _ rfl rfl (bop_shrL_u64 (q := 4294967296) (by decide) (by decide) (by decide))) rfl ?_
        refine VList.go0 (n' := 31) rfl rfl (.assign _ _ rfl) rfl ?_
        refine VList.nil (InBlock.go (Then.go ?_))
        refine VCode.region ?_
        refine VList.go0 (n' := 32) rfl rfl (.bin _ _ _ _ _ _ _ _ rfl rfl (bop_add_i64 (by first | omega | (simp; done) | (simp; omega)))) rfl ?_
        refine VList.go0 (n' := 33) rfl rfl (.move _ _ rfl) rfl ?_
        exact VList.nil (Round.go (i + 1, (((O2).getD ((((j : Int)) + ((i : Int))).toNat) 0 + (V).getD (i) 0) + c2) / 4294967296, (O2).set ((((j : Int)) + ((i : Int))).toNat) ((((O2).getD ((((j : Int)) + ((i : Int))).toNat) 0 + (V).getD (i) 0) + c2) % 4294967296)) (by rw [hi]; exact hok2.step oV (by omega) (by simp [hlen]; omega) rfl) (by first | (dsimp only; omega) | omega) (Weak.of (show 1 ≤ 1 by decide) ⟨⟨rfl, rfl⟩, ⟨⟨rfl, rfl⟩, ⟨⟨rfl, rfl⟩, ⟨⟨rfl, rfl⟩, ⟨⟨rfl, rfl⟩, ⟨⟨rfl, rfl⟩, ⟨⟨rfl, rfl⟩, trivial⟩⟩⟩⟩⟩⟩⟩ ⟨⟨rfl, (show 0 < 1 by decide), row_cells⟩, trivial⟩))
      · replace hc3 := of_decide_eq_false hc3
        refine VCode.exit (Then.exit (Round.exit (InBlock.here (Then.go ?_))))
        refine VCode.seq ?_
        have hlen2 := hok2.len
        simp only [List.length_set] at hlen2
        have hle2 := hok2.le
        have h3 := hok2.c0
        have h4 := hok2.c1
        have hi2 : i = V.length := (by omega)
        subst hi2
        have hov := take_over oU oV hj hl hz (by simp [hlen]) hb1 hWz hok2
        obtain ⟨f1, f2⟩ := hok2.fin rfl (by simp [hlen]; omega) hov
        obtain ⟨d1, d2, d3⟩ := take_bad oU oV hb2 f2 hj hVp hl (by simp [hlen]) (by simp [hlen2, hlen]) hb1 hWz f1
        refine VCode.region ?_
        refine VList.go0 (n' := 3) rfl rfl (.move _ _ rfl) rfl ?_
        refine VList.go0 (n' := 4) rfl rfl (.move _ _ rfl) rfl ?_
        refine VList.go0 (n' := 5) rfl rfl (.move _ _ rfl) rfl ?_
        refine VList.go0 (n' := 6) rfl rfl (Eff.lenS rfl Try.underlying22) rfl ?_
        refine VList.go0 (n' := 7) rfl rfl (.bin _ _ _ _ _ _ _ _ rfl rfl (bop_add_i64 (by first | omega | (simp; done) | (simp; omega)))) rfl ?_
        refine VList.go0 (n' := 8) rfl rfl (Eff.indexRow rfl rfl Try.underlying22 P_sz51 (by first | omega | (simp; done) | (simp; omega)) (by first | omega | (simp; done) | (simp; omega))) rfl ?_
        refine VList.go0 (n' := 9) rfl rfl (Eff.load32 rfl rfl P_agg51 (by first | omega | (simp; done) | (simp; omega))) rfl ?_
        refine VList.go0 (n' := 10) rfl rfl (.move _ _ rfl) rfl ?_
        refine VList.go0 (n' := 11) rfl rfl (Eff.convM_u32 rfl Try.underlying62 Try.underlying51) rfl ?_
        refine VList.go0 (n' := 12) rfl rfl (.bin _ _ _ _ _ _ _ _ rfl rfl (bopM_add_u32 _ _)) rfl ?_
        refine VList.go0 (n' := 13) rfl rfl (Eff.indexRow rfl rfl Try.underlying22 P_sz51 (by first | omega | (simp; done) | (simp; omega)) (by first | omega | (simp; done) | (simp; omega))) rfl ?_
        refine VList.goS (n' := 14) rfl rfl (Eff.store32 rfl rfl rfl P_sz51 (by first | omega | (simp; done) | (simp; omega))) rfl ?_
        refine VList.nil (Then.go ?_)
        refine VCode.seq ?_
        refine VCode.region ?_
        refine VList.go0 (n' := 15) rfl rfl (.move _ _ rfl) rfl ?_
        refine VList.go0 (n' := 16) rfl rfl (.bin _ _ _ _ _ _ _ _ rfl rfl (bopM_sub_u64 _ _)) rfl ?_
        refine VList.go0 (n' := 17) rfl rfl (Eff.convM_u32 rfl Try.underlying62 Try.underlying51) rfl ?_
        refine VList.go0 (n' := 18) rfl rfl (.assign _ _ rfl) rfl ?_
        refine VList.nil (Then.go ?_)
        exact VCode.ret (⟨trivial, ⟨[numB .u32 (((((q - 1) % 18446744073709551616)) % 4294967296))], (resVars_cons (resVar_tmp rfl rfl) resVars_nil), (by rw [d1, show (q - 1) % 18446744073709551616 % 4294967296 = q - 1 by omega]; rfl)⟩, (show some (row ((O2).set ((((j : Int) + ((V).length : Int))).toNat) ((((O2).getD ((((j : Int) + ((V).length : Int))).toNat) 0 + ((c2) % 4294967296)) % 4294967296)))) = some (row (pad U.length (took U V j))) from (by rw [hn, show c2 % 4294967296 = c2 by omega, d2]))⟩)
theorem f83 (U V : List Int) (j : Nat) (p : Int) (hU : U.length ≤ 900000000) (hV : V.length ≤ 900000000) (oU : ok32 U) (oV : ok32 V) (h2 : 2 ≤ V.length) (hj : j + V.length < U.length) (hF : DigFix (val (U.drop j)) (val V) ((V).getD ((((V).length : Int) - 1)).toNat 0) ((V).getD ((((V).length : Int) - 2)).toNat 0) ((U).getD ((((j : Int) + ((V).length : Int)) - 1)).toNat 0) ((U).getD ((((j : Int) + ((V).length : Int)) - 2)).toNat 0) ((((U).getD (((j : Int) + ((V).length : Int))).toNat 0 * 4294967296) + (U).getD ((((j : Int) + ((V).length : Int)) - 1)).toNat 0)) p) : VF Try.prog 83 [u32S (U), numB .i64 ((j : Int)), u32S (V)] (numB .u64 (digF ((V).getD ((((V).length : Int) - 1)).toNat 0) ((V).getD ((((V).length : Int) - 2)).toNat 0) ((U).getD ((((j : Int) + ((V).length : Int)) - 2)).toNat 0) ((((U).getD (((j : Int) + ((V).length : Int))).toNat 0 * 4294967296) + (U).getD ((((j : Int) + ((V).length : Int)) - 1)).toNat 0)))) := by
  refine VF_of P_mixed Try.func83 rfl rfl (by kernel_rfl) ?_
  refine VCode.seq ?_
  refine VCode.region ?_
  refine VList.go0 (n' := 1) rfl rfl (.assign _ _ rfl) rfl ?_
  refine VList.nil (Then.go ?_)
  refine VCode.seq ?_
  refine VCode.region ?_
  refine VList.go0 (n' := 2) rfl rfl (.move _ _ rfl) rfl ?_
  refine VList.go0 (n' := 3) rfl rfl (Eff.lenS rfl Try.underlying22) rfl ?_
  refine VList.go0 (n' := 4) rfl rfl (.assign _ _ rfl) rfl ?_
  refine VList.nil (Then.go ?_)
  refine VCode.seq ?_
  have a1 := ok32_getD oU (((j : Int) + ((V).length : Int))).toNat
  have a2 := ok32_getD oU ((((j : Int) + ((V).length : Int)) - 1)).toNat
  have a3 := ok32_getD oU ((((j : Int) + ((V).length : Int)) - 2)).toNat
  have b1 := ok32_getD oV ((((V).length : Int) - 1)).toNat
  have b2 := ok32_getD oV ((((V).length : Int) - 2)).toNat
  have hv1 := hF.v1l
  refine VCode.draw (by kernel_rfl) ?_
  refine VLog.go0 (n' := 5) rfl rfl (.move _ _ rfl) rfl ?_
  refine VLog.go0 (n' := 6) rfl rfl (.move _ _ rfl) rfl ?_
  refine VLog.go0 (n' := 7) rfl rfl (.move _ _ rfl) rfl ?_
  refine VLog.go0 (n' := 8) rfl rfl (.bin _ _ _ _ _ _ _ _ rfl rfl (bop_add_i64 (by first | omega | (simp; done) | (simp; omega)))) rfl ?_
  refine VLog.go0 (n' := 9) rfl rfl (Eff.indexRd rfl rfl Try.underlying22 P_sz51 (by first | omega | (simp; done) | (simp; omega)) (by first | omega | (simp; done) | (simp; omega))) rfl ?_
  refine VLog.go0 (n' := 10) rfl rfl (.loadRd1 _ _ _ _ rfl P_agg51 rfl) rfl ?_
  refine VLog.go0 (n' := 11) rfl rfl (Eff.convN_u64 rfl Try.underlying51 Try.underlying62 (by first | omega | (simp; done) | (simp; omega))) rfl ?_
  refine VLog.go0 (n' := 12) rfl rfl (.bin _ _ _ _ _ _ _ _ rfl rfl (bop_shlL_u64 (q := 4294967296) (by decide) (by decide) (by decide) (by omega))) rfl ?_
  refine VLog.go0 (n' := 13) rfl rfl (.move _ _ rfl) rfl ?_
  refine VLog.go0 (n' := 14) rfl rfl (.move _ _ rfl) rfl ?_
  refine VLog.go0 (n' := 15) rfl rfl (.move _ _ rfl) rfl ?_
  refine VLog.go0 (n' := 16) rfl rfl (.bin _ _ _ _ _ _ _ _ rfl rfl (bop_add_i64 (by first | omega | (simp; done) | (simp; omega)))) rfl ?_
  refine VLog.go0 (n' := 17) rfl rfl (.bin _ _ _ _ _ _ _ _ rfl rfl (bop_sub_i64 (by first | omega | (simp; done) | (simp; omega)))) rfl ?_
  refine VLog.go0 (n' := 18) rfl rfl (Eff.indexRd rfl rfl Try.underlying22 P_sz51 (by first | omega | (simp; done) | (simp; omega)) (by first | omega | (simp; done) | (simp; omega))) rfl ?_
  refine VLog.go0 (n' := 19) rfl rfl (.loadRd1 _ _ _ _ rfl P_agg51 rfl) rfl ?_
  refine VLog.go0 (n' := 20) rfl rfl (Eff.convN_u64 rfl Try.underlying51 Try.underlying62 (by first | omega | (simp; done) | (simp; omega))) rfl ?_
  refine VLog.go0 (n' := 21) rfl rfl (.bin _ _ _ _ _ _ _ _ rfl rfl (bop_or_u64 (q := 4294967296) 32 (by decide) ⟨_, a1.1, rfl⟩ a2 (by omega))) rfl ?_
  refine VLog.go0 (n' := 22) rfl rfl (.assign _ _ rfl) rfl ?_
  refine VLog.nil ⟨by kernel_rfl, Then.go ?_⟩
  refine VCode.seq ?_
  refine VCode.region ?_
  refine VList.go0 (n' := 23) rfl rfl (.move _ _ rfl) rfl ?_
  refine VList.go0 (n' := 24) rfl rfl (.move _ _ rfl) rfl ?_
  refine VList.go0 (n' := 25) rfl rfl (.move _ _ rfl) rfl ?_
  refine VList.go0 (n' := 26) rfl rfl (.bin _ _ _ _ _ _ _ _ rfl rfl (bop_sub_i64 (by first | omega | (simp; done) | (simp; omega)))) rfl ?_
  refine VList.go0 (n' := 27) rfl rfl (Eff.indexRd rfl rfl Try.underlying22 P_sz51 (by first | omega | (simp; done) | (simp; omega)) (by first | omega | (simp; done) | (simp; omega))) rfl ?_
  refine VList.go0 (n' := 28) rfl rfl (.loadRd1 _ _ _ _ rfl P_agg51 rfl) rfl ?_
  refine VList.go0 (n' := 29) rfl rfl (Eff.convN_u64 rfl Try.underlying51 Try.underlying62 (by first | omega | (simp; done) | (simp; omega))) rfl ?_
  refine VList.go0 (n' := 30) rfl rfl (.bin _ _ _ _ _ _ _ _ rfl rfl (bop_quo_u64 (by first | omega | (simp; done) | (simp; omega)) (by first | omega | (simp; done) | (simp; omega)) (by first | omega | (simp; done) | (simp; omega)))) rfl ?_
  refine VList.go0 (n' := 31) rfl rfl (.assign _ _ rfl) rfl ?_
  refine VList.nil (Then.go ?_)
  refine VCode.seq ?_
  refine VCode.region ?_
  refine VList.go0 (n' := 32) rfl rfl (.move _ _ rfl) rfl ?_
  refine VList.go0 (n' := 33) rfl rfl (.move _ _ rfl) rfl ?_
  refine VList.go0 (n' := 34) rfl rfl (.move _ _ rfl) rfl ?_
  refine VList.go0 (n' := 35) rfl rfl (.bin _ _ _ _ _ _ _ _ rfl rfl (bop_sub_i64 (by first | omega | (simp; done) | (simp; omega)))) rfl ?_
  refine VList.go0 (n' := 36) rfl rfl (Eff.indexRd rfl rfl Try.underlying22 P_sz51 (by first | omega | (simp; done) | (simp; omega)) (by first | omega | (simp; done) | (simp; omega))) rfl ?_
  refine VList.go0 (n' := 37) rfl rfl (.loadRd1 _ _ _ _ rfl P_agg51 rfl) rfl ?_
  refine VList.go0 (n' := 38) rfl rfl (Eff.convN_u64 rfl Try.underlying51 Try.underlying62 (by first | omega | (simp; done) | (simp; omega))) rfl ?_
  refine VList.go0 (n' := 39) rfl rfl (.bin _ _ _ _ _ _ _ _ rfl rfl (bop_rem_u64 (by first | omega | (simp; done) | (simp; omega)) (by first | omega | (simp; done) | (simp; omega)))) rfl ?_
  refine VList.go0 (n' := 40) rfl rfl (.assign _ _ rfl) rfl ?_
  refine VList.nil (Then.go ?_)
  refine VCode.seq ?_
  refine VCode.block ?_
  refine VCode.loop (α := (Nat) × (Int) × (Int)) (fun (x_ : (Nat) × (Int) × (Int)) => match x_ with | (f, q, r) => (0, sl [(0, vS (U)), (1, vI .i64 ((j : Int))), (2, vS (V)), (7, vI .i64 (((V).length : Int))), (9, vI .u64 (q)), (10, vI .u64 (r))], en [])) (fun (x_ : (Nat) × (Int) × (Int)) => match x_ with | (f, q, r) => DigInv (val (U.drop j)) (val V) ((V).getD ((((V).length : Int) - 1)).toNat 0) ((V).getD ((((V).length : Int) - 2)).toNat 0) ((U).getD ((((j : Int) + ((V).length : Int)) - 2)).toNat 0) ((((U).getD (((j : Int) + ((V).length : Int))).toNat 0 * 4294967296) + (U).getD ((((j : Int) + ((V).length : Int)) - 1)).toNat 0)) p q r ∧ digL f ((V).getD ((((V).length : Int) - 1)).toNat 0) ((V).getD ((((V).length : Int) - 2)).toNat 0) ((U).getD ((((j : Int) + ((V).length : Int)) - 2)).toNat 0) q r = digF ((V).getD ((((V).length : Int) - 1)).toNat 0) ((V).getD ((((V).length : Int) - 2)).toNat 0) ((U).getD ((((j : Int) + ((V).length : Int)) - 2)).toNat 0) ((((U).getD (((j : Int) + ((V).length : Int))).toNat 0 * 4294967296) + (U).getD ((((j : Int) + ((V).length : Int)) - 1)).toNat 0)) ∧ q < f) (fun (x_ : (Nat) × (Int) × (Int)) => match x_ with | (f, q, r) => f) (((((U).getD (((j : Int) + ((V).length : Int))).toNat 0 * 4294967296) + (U).getD ((((j : Int) + ((V).length : Int)) - 1)).toNat 0) / ((V).getD ((((V).length : Int) - 1)).toNat 0)).toNat + 1, (((U).getD (((j : Int) + ((V).length : Int))).toNat 0 * 4294967296) + (U).getD ((((j : Int) + ((V).length : Int)) - 1)).toNat 0) / ((V).getD ((((V).length : Int) - 1)).toNat 0), (((U).getD (((j : Int) + ((V).length : Int))).toNat 0 * 4294967296) + (U).getD ((((j : Int) + ((V).length : Int)) - 1)).toNat 0) % ((V).getD ((((V).length : Int) - 1)).toNat 0)) ⟨DigInv.start hF rfl rfl, rfl, by have := (DigInv.start hF rfl rfl).q0; omega⟩ (Weak.of (show 0 ≤ 0 by decide) ⟨⟨rfl, rfl⟩, ⟨⟨rfl, rfl⟩, ⟨⟨rfl, rfl⟩, ⟨⟨rfl, rfl⟩, ⟨⟨rfl, rfl⟩, ⟨⟨rfl, rfl⟩, trivial⟩⟩⟩⟩⟩⟩ trivial) ?_
  rintro ⟨f, q, r⟩ hok
  show VCode Try.prog 0 _ 0 (sl [(0, vS (U)), (1, vI .i64 ((j : Int))), (2, vS (V)), (7, vI .i64 (((V).length : Int))), (9, vI .u64 (q)), (10, vI .u64 (r))]) (en []) _
  refine VCode.seq ?_
  refine VCode.seq ?_
  obtain ⟨hD, hQ, hf⟩ := hok
  have r0 := hD.r0
  have r1 := hD.r1
  have q0 := hD.q0
  have qle := hD.qle hF
  refine VCode.draw (by kernel_rfl) ?_
  refine VLog.go0 (n' := 1) rfl rfl (.move _ _ rfl) rfl ?_
  refine VLog.go0 (n' := 2) rfl rfl (.bin _ _ _ _ _ _ _ _ rfl rfl rfl) rfl ?_
  refine VLog.go0 (n' := 3) rfl rfl (.move _ _ rfl) rfl ?_
  refine VLog.split (d := 48) _ rfl (fun hc1 => ?_) (fun hc1 => ?_)
  · replace hc1 := of_decide_eq_true hc1
    refine VLog.skip (n' := 4) rfl rfl rfl ?_
    refine VLog.skip (n' := 5) rfl rfl rfl ?_
    refine VLog.skip (n' := 6) rfl rfl rfl ?_
    refine VLog.skip (n' := 7) rfl rfl rfl ?_
    refine VLog.skip (n' := 8) rfl rfl rfl ?_
    refine VLog.skip (n' := 9) rfl rfl rfl ?_
    refine VLog.skip (n' := 10) rfl rfl rfl ?_
    refine VLog.skip (n' := 11) rfl rfl rfl ?_
    refine VLog.skip (n' := 12) rfl rfl rfl ?_
    refine VLog.skip (n' := 13) rfl rfl rfl ?_
    refine VLog.skip (n' := 14) rfl rfl rfl ?_
    refine VLog.skip (n' := 15) rfl rfl rfl ?_
    refine VLog.skip (n' := 16) rfl rfl rfl ?_
    refine VLog.skip (n' := 17) rfl rfl rfl ?_
    refine VLog.skip (n' := 18) rfl rfl rfl ?_
    refine VLog.skip (n' := 19) rfl rfl rfl ?_
    refine VLog.skip (n' := 20) rfl rfl rfl ?_
    refine VLog.skip (n' := 21) rfl rfl rfl ?_
    refine VLog.skip (n' := 22) rfl rfl rfl ?_
    refine VLog.skip (n' := 23) rfl rfl rfl ?_
    refine VLog.go0 (n' := 24) rfl rfl (.pick _ _ _ _ _ rfl rfl) rfl ?_
    refine VLog.nil ⟨by kernel_rfl, Then.go ?_⟩
    refine VCode.cond _ rfl (fun _ => ?_) (fun h_ => Bool.noConfusion h_)
    refine VCode.skip (Then.go ?_)
    refine VCode.block ?_
    refine VCode.seq ?_
    have ht : 4294967296 ≤ q ∨ r * 4294967296 + (U).getD ((((j : Int) + ((V).length : Int)) - 2)).toNat 0 < q * (V).getD ((((V).length : Int) - 2)).toNat 0 := (by omega)
    have hp0 := hD.pos hF ht
    refine VCode.region ?_
    refine VList.go0 (n' := 25) rfl rfl (.move _ _ rfl) rfl ?_
    refine VList.go0 (n' := 26) rfl rfl (.bin _ _ _ _ _ _ _ _ rfl rfl (bop_sub_u64 (by first | omega | (simp; done) | (simp; omega)))) rfl ?_
    refine VList.go0 (n' := 27) rfl rfl (.assign _ _ rfl) rfl ?_
    refine VList.nil (Then.go ?_)
    refine VCode.seq ?_
    refine VCode.region ?_
    refine VList.go0 (n' := 28) rfl rfl (.move _ _ rfl) rfl ?_
    refine VList.go0 (n' := 29) rfl rfl (.move _ _ rfl) rfl ?_
    refine VList.go0 (n' := 30) rfl rfl (.move _ _ rfl) rfl ?_
    refine VList.go0 (n' := 31) rfl rfl (.bin _ _ _ _ _ _ _ _ rfl rfl (bop_sub_i64 (by first | omega | (simp; done) | (simp; omega)))) rfl ?_
    refine VList.go0 (n' := 32) rfl rfl (Eff.indexRd rfl rfl Try.underlying22 P_sz51 (by first | omega | (simp; done) | (simp; omega)) (by first | omega | (simp; done) | (simp; omega))) rfl ?_
    refine VList.go0 (n' := 33) rfl rfl (.loadRd1 _ _ _ _ rfl P_agg51 rfl) rfl ?_
    refine VList.go0 (n' := 34) rfl rfl (Eff.convN_u64 rfl Try.underlying51 Try.underlying62 (by first | omega | (simp; done) | (simp; omega))) rfl ?_
    refine VList.go0 (n' := 35) rfl rfl (.bin _ _ _ _ _ _ _ _ rfl rfl (bop_add_u64 (by first | omega | (simp; done) | (simp; omega)))) rfl ?_
    refine VList.go0 (n' := 36) rfl rfl (.assign _ _ rfl) rfl ?_
    refine VList.nil (Then.go ?_)
    refine VCode.seq ?_
    refine VCode.region ?_
    refine VList.go0 (n' := 37) rfl rfl (.move _ _ rfl) rfl ?_
    refine VList.go0 (n' := 38) rfl rfl (.bin _ _ _ _ _ _ _ _ rfl rfl rfl) rfl ?_
    refine VList.nil (Then.go ?_)
    refine VCode.cond _ rfl (fun hc2 => ?_) (fun hc2 => ?_)
    · replace hc2 := of_decide_eq_true hc2
      refine VCode.exit (InBlock.out (by decide) (Round.exit (InBlock.here (Then.go ?_))))
      refine VCode.seq ?_
      refine VCode.region ?_
      refine VList.go0 (n' := 39) rfl rfl (.move _ _ rfl) rfl ?_
      refine VList.go0 (n' := 40) rfl rfl (.assign _ _ rfl) rfl ?_
      refine VList.nil (Then.go ?_)
      exact VCode.ret (⟨trivial, [numB .u64 ((q - 1))], (resVars_cons (resVar_tmp rfl rfl) resVars_nil), (by rw [← hQ, digL_break (by omega) ht (by omega)]; rfl)⟩)
    · replace hc2 := of_decide_eq_false hc2
      exact VCode.skip (InBlock.go (Round.go (f - 1, q - 1, r + (V).getD ((((V).length : Int) - 1)).toNat 0) ⟨(hD.step hF ht (by omega)).1, by rw [← hQ, digL_go (by omega) ht (by omega)], by omega⟩ (by first | (dsimp only; omega) | omega) (Weak.of (show 0 ≤ 0 by decide) ⟨⟨rfl, rfl⟩, ⟨⟨rfl, rfl⟩, ⟨⟨rfl, rfl⟩, ⟨⟨rfl, rfl⟩, ⟨⟨rfl, rfl⟩, ⟨⟨rfl, rfl⟩, trivial⟩⟩⟩⟩⟩⟩ trivial)))
  · replace hc1 := of_decide_eq_false hc1
    refine VLog.go0 (n' := 4) rfl rfl (.move _ _ rfl) rfl ?_
    refine VLog.go0 (n' := 5) rfl rfl (.move _ _ rfl) rfl ?_
    refine VLog.go0 (n' := 6) rfl rfl (.move _ _ rfl) rfl ?_
    refine VLog.go0 (n' := 7) rfl rfl (.bin _ _ _ _ _ _ _ _ rfl rfl (bop_sub_i64 (by first | omega | (simp; done) | (simp; omega)))) rfl ?_
    refine VLog.go0 (n' := 8) rfl rfl (Eff.indexRd rfl rfl Try.underlying22 P_sz51 (by first | omega | (simp; done) | (simp; omega)) (by first | omega | (simp; done) | (simp; omega))) rfl ?_
    refine VLog.go0 (n' := 9) rfl rfl (.loadRd1 _ _ _ _ rfl P_agg51 rfl) rfl ?_
    refine VLog.go0 (n' := 10) rfl rfl (Eff.convN_u64 rfl Try.underlying51 Try.underlying62 (by first | omega | (simp; done) | (simp; omega))) rfl ?_
    have hm := mul_small (x := q) (y := (V).getD ((((V).length : Int) - 2)).toNat 0) (by omega) b2
    refine VLog.go0 (n' := 11) rfl rfl (.bin _ _ _ _ _ _ _ _ rfl rfl (bop_mul_u64 (by first | omega | (simp; done) | (simp; omega)))) rfl ?_
    refine VLog.go0 (n' := 12) rfl rfl (.move _ _ rfl) rfl ?_
    refine VLog.go0 (n' := 13) rfl rfl (.bin _ _ _ _ _ _ _ _ rfl rfl (bop_shlL_u64 (q := 4294967296) (by decide) (by decide) (by decide) (by omega))) rfl ?_
    refine VLog.go0 (n' := 14) rfl rfl (.move _ _ rfl) rfl ?_
    refine VLog.go0 (n' := 15) rfl rfl (.move _ _ rfl) rfl ?_
    refine VLog.go0 (n' := 16) rfl rfl (.move _ _ rfl) rfl ?_
    refine VLog.go0 (n' := 17) rfl rfl (.bin _ _ _ _ _ _ _ _ rfl rfl (bop_add_i64 (by first | omega | (simp; done) | (simp; omega)))) rfl ?_
    refine VLog.go0 (n' := 18) rfl rfl (.bin _ _ _ _ _ _ _ _ rfl rfl (bop_sub_i64 (by first | omega | (simp; done) | (simp; omega)))) rfl ?_
    refine VLog.go0 (n' := 19) rfl rfl (Eff.indexRd rfl rfl Try.underlying22 P_sz51 (by first | omega | (simp; done) | (simp; omega)) (by first | omega | (simp; done) | (simp; omega))) rfl ?_
    refine VLog.go0 (n' := 20) rfl rfl (.loadRd1 _ _ _ _ rfl P_agg51 rfl) rfl ?_
    refine VLog.go0 (n' := 21) rfl rfl (Eff.convN_u64 rfl Try.underlying51 Try.underlying62 (by first | omega | (simp; done) | (simp; omega))) rfl ?_
    refine VLog.go0 (n' := 22) rfl rfl (.bin _ _ _ _ _ _ _ _ rfl rfl (bop_or_u64 (q := 4294967296) 32 (by decide) ⟨_, r0, rfl⟩ a3 (by omega))) rfl ?_
    refine VLog.go0 (n' := 23) rfl rfl (.bin _ _ _ _ _ _ _ _ rfl rfl rfl) rfl ?_
    refine VLog.go0 (n' := 24) rfl rfl (.pick _ _ _ _ _ rfl rfl) rfl ?_
    refine VLog.nil ⟨by kernel_rfl, Then.go ?_⟩
    refine VCode.cond _ rfl (fun hc3 => ?_) (fun hc3 => ?_)
    · replace hc3 := of_decide_eq_true hc3
      refine VCode.skip (Then.go ?_)
      refine VCode.block ?_
      refine VCode.seq ?_
      have ht : 4294967296 ≤ q ∨ r * 4294967296 + (U).getD ((((j : Int) + ((V).length : Int)) - 2)).toNat 0 < q * (V).getD ((((V).length : Int) - 2)).toNat 0 := (by omega)
      have hp0 := hD.pos hF ht
      refine VCode.region ?_
      refine VList.go0 (n' := 25) rfl rfl (.move _ _ rfl) rfl ?_
      refine VList.go0 (n' := 26) rfl rfl (.bin _ _ _ _ _ _ _ _ rfl rfl (bop_sub_u64 (by first | omega | (simp; done) | (simp; omega)))) rfl ?_
      refine VList.go0 (n' := 27) rfl rfl (.assign _ _ rfl) rfl ?_
      refine VList.nil (Then.go ?_)
      refine VCode.seq ?_
      refine VCode.region ?_
      refine VList.go0 (n' := 28) rfl rfl (.move _ _ rfl) rfl ?_
      refine VList.go0 (n' := 29) rfl rfl (.move _ _ rfl) rfl ?_
      refine VList.go0 (n' := 30) rfl rfl (.move _ _ rfl) rfl ?_
      refine VList.go0 (n' := 31) rfl rfl (.bin _ _ _ _ _ _ _ _ rfl rfl (bop_sub_i64 (by first | omega | (simp; done) | (simp; omega)))) rfl ?_
      refine VList.go0 (n' := 32) rfl rfl (Eff.indexRd rfl rfl Try.underlying22 P_sz51 (by first | omega | (simp; done) | (simp; omega)) (by first | omega | (simp; done) | (simp; omega))) rfl ?_
      refine VList.go0 (n' := 33) rfl rfl (.loadRd1 _ _ _ _ rfl P_agg51 rfl) rfl ?_
      refine VList.go0 (n' := 34) rfl rfl (Eff.convN_u64 rfl Try.underlying51 Try.underlying62 (by first | omega | (simp; done) | (simp; omega))) rfl ?_
      refine VList.go0 (n' := 35) rfl rfl (.bin _ _ _ _ _ _ _ _ rfl rfl (bop_add_u64 (by first | omega | (simp; done) | (simp; omega)))) rfl ?_
      refine VList.go0 (n' := 36) rfl rfl (.assign _ _ rfl) rfl ?_
      refine VList.nil (Then.go ?_)
      refine VCode.seq ?_
      refine VCode.region ?_
      refine VList.go0 (n' := 37) rfl rfl (.move _ _ rfl) rfl ?_
      refine VList.go0 (n' := 38) rfl rfl (.bin _ _ _ _ _ _ _ _ rfl rfl rfl) rfl ?_
      refine VList.nil (Then.go ?_)
      refine VCode.cond _ rfl (fun hc4 => ?_) (fun hc4 => ?_)
      · replace hc4 := of_decide_eq_true hc4
        refine VCode.exit (InBlock.out (by decide) (Round.exit (InBlock.here (Then.go ?_))))
        refine VCode.seq ?_
        refine VCode.region ?_
        refine VList.go0 (n' := 39) rfl rfl (.move _ _ rfl) rfl ?_
        refine VList.go0 (n' := 40) rfl rfl (.assign _ _ rfl) rfl ?_
        refine VList.nil (Then.go ?_)
        exact VCode.ret (⟨trivial, [numB .u64 ((q - 1))], (resVars_cons (resVar_tmp rfl rfl) resVars_nil), (by rw [← hQ, digL_break (by omega) ht (by omega)]; rfl)⟩)
      · replace hc4 := of_decide_eq_false hc4
        exact VCode.skip (InBlock.go (Round.go (f - 1, q - 1, r + (V).getD ((((V).length : Int) - 1)).toNat 0) ⟨(hD.step hF ht (by omega)).1, by rw [← hQ, digL_go (by omega) ht (by omega)], by omega⟩ (by first | (dsimp only; omega) | omega) (Weak.of (show 0 ≤ 0 by decide) ⟨⟨rfl, rfl⟩, ⟨⟨rfl, rfl⟩, ⟨⟨rfl, rfl⟩, ⟨⟨rfl, rfl⟩, ⟨⟨rfl, rfl⟩, ⟨⟨rfl, rfl⟩, trivial⟩⟩⟩⟩⟩⟩ trivial)))
    · replace hc3 := of_decide_eq_false hc3
      refine VCode.exit (Then.exit (Round.exit (InBlock.here (Then.go ?_))))
      refine VCode.seq ?_
      refine VCode.region ?_
      refine VList.go0 (n' := 25) rfl rfl (.move _ _ rfl) rfl ?_
      refine VList.go0 (n' := 26) rfl rfl (.assign _ _ rfl) rfl ?_
      refine VList.nil (Then.go ?_)
      exact VCode.ret (⟨trivial, [numB .u64 (q)], (resVars_cons (resVar_tmp rfl rfl) resVars_nil), (by rw [← hQ, digL_stop (by omega) (by omega)]; rfl)⟩)
end Go.VL

/- Walks over the Go functions, printed by a program of this session over the kit's print, and by hand. -/
set_option linter.unusedVariables false
set_option linter.unusedSimpArgs false
namespace Go.VL
open Go.Proofs
theorem f51 (A B : List Int) (hA : A.length ≤ 300000000) (hB : B.length ≤ 300000000) (nA : norm A) (nB : norm B) (h0 : 0 < val B) : VF Try.prog 51 [u32S (A), u32S (B)] (.tup [u32S (dg (val A / val B)), u32S (dg (val A % val B))]) := by
  refine VF_of P_mixed Try.func51 rfl rfl (by kernel_rfl) ?_
  refine VCode.seq ?_
  refine VCode.region ?_
  refine VList.go0 (n' := 1) rfl rfl (.assign _ _ rfl) rfl ?_
  refine VList.go0 (n' := 2) rfl rfl (.assign _ _ rfl) rfl ?_
  refine VList.nil (Then.go ?_)
  refine VCode.seq ?_
  refine VCode.seq ?_
  refine VCode.region ?_
  refine VList.go0 (n' := 3) rfl rfl (.move _ _ rfl) rfl ?_
  refine VList.go0 (n' := 4) rfl rfl (.move _ _ rfl) rfl ?_
  refine VList.go0 (n' := 5) rfl rfl (.callF _ _ _ _ _ _ rfl (ress_cons rfl (ress_cons rfl ress_nil)) (f74 _ _ (by first | omega | (simp; done) | (simp; omega)) (by first | omega | (simp; done) | (simp; omega)) (nA.1) (nB.1) (fun h => cmp_len nA nB h)) rfl) rfl ?_
  refine VList.go0 (n' := 6) rfl rfl (.bin _ _ _ _ _ _ _ _ rfl rfl rfl) rfl ?_
  refine VList.nil (Then.go ?_)
  refine VCode.cond _ rfl (fun hc1 => ?_) (fun hc1 => ?_)
  · replace hc1 := of_decide_eq_true hc1
    refine VCode.seq ?_
    have vA := val_nonneg nA.1
    have lt := cmp3_lt.1 hc1
    refine VCode.region ?_
    refine VList.go0 (n' := 7) rfl rfl (.move _ _ rfl) rfl ?_
    refine VList.go0 (n' := 8) rfl rfl (.assign _ _ rfl) rfl ?_
    refine VList.go0 (n' := 9) rfl rfl (.assign _ _ rfl) rfl ?_
    refine VList.nil (Then.go ?_)
    exact VCode.ret (Then.ret (⟨trivial, [u32S ([]), u32S (A)], (resVars_cons (resVar_tmp rfl rfl) (resVars_cons (resVar_tmp rfl rfl) resVars_nil)), (by rw [Int.ediv_eq_zero_of_lt vA lt, Int.emod_eq_of_lt vA lt, dg_zero, dg_val nA]; rfl)⟩))
  · replace hc1 := of_decide_eq_false hc1
    refine VCode.skip (Then.go ?_)
    refine VCode.seq ?_
    refine VCode.seq ?_
    have vA := val_nonneg nA.1
    have hge := mt cmp3_lt.2 hc1
    have hBA := norm_le_len nB nA (by omega)
    refine VCode.region ?_
    refine VList.go0 (n' := 7) rfl rfl (.move _ _ rfl) rfl ?_
    refine VList.go0 (n' := 8) rfl rfl (Eff.lenS rfl Try.underlying22) rfl ?_
    refine VList.go0 (n' := 9) rfl rfl (.bin _ _ _ _ _ _ _ _ rfl rfl rfl) rfl ?_
    refine VList.nil (Then.go ?_)
    refine VCode.cond _ rfl (fun hc2 => ?_) (fun hc2 => ?_)
    · replace hc2 := eq_of_beq hc2
      refine VCode.seq ?_
      have h1w := one_word (B := B) (by omega)
      have hb0 := ok32_getD nB.1 0
      have hm0 := Int.emod_nonneg (val A) (show B.getD 0 0 ≠ 0 by omega)
      have hm1 := Int.emod_lt_of_pos (val A) (show 0 < B.getD 0 0 by omega)
      refine VCode.region ?_
      refine VList.go0 (n' := 10) rfl rfl (.move _ _ rfl) rfl ?_
      refine VList.go0 (n' := 11) rfl rfl (.move _ _ rfl) rfl ?_
      refine VList.go0 (n' := 12) rfl rfl (Eff.indexRdN (q := 0) rfl rfl Try.underlying22 P_sz51 (by first | omega | (simp; done) | (simp; omega))) rfl ?_
      refine VList.go0 (n' := 13) rfl rfl (.loadRd1 _ _ _ _ rfl P_agg51 rfl) rfl ?_
      refine VList.go0 (n' := 14) rfl rfl (Eff.callV0 rfl (ress_cons rfl (ress_cons rfl ress_nil)) (f60 _ _ (by first | omega | (simp; done) | (simp; omega)) (nA.1) (by omega) (by omega)) rfl) rfl ?_
      refine VList.go0 (n' := 15) rfl rfl (.move _ _ rfl) rfl ?_
      refine VList.go0 (n' := 16) rfl rfl (.extract _ _ _ _ rfl rfl) rfl ?_
      refine VList.go0 (n' := 17) rfl rfl (.extract _ _ _ _ rfl rfl) rfl ?_
      refine VList.go0 (n' := 18) rfl rfl (.assign _ _ rfl) rfl ?_
      refine VList.go0 (n' := 19) rfl rfl (.assign _ _ rfl) rfl ?_
      refine VList.nil (Then.go ?_)
      refine VCode.seq ?_
      refine VCode.region ?_
      refine VList.go0 (n' := 20) rfl rfl (.move _ _ rfl) rfl ?_
      refine VList.go0 (n' := 21) rfl rfl (.move _ _ rfl) rfl ?_
      refine VList.go1 (n' := 22) rfl rfl (Eff.lits1 rfl Try.underlying22 P_zero51 P_sz51) rfl ?_
      refine VList.goN (n' := 23) rfl rfl (.callV _ _ _ _ _ _ rfl (ress_cons (res_row rfl (by first | omega | (simp; done) | (simp; omega) | (simp [*]; done) | (simp [*]; omega))) ress_nil) (f64 _ (by first | omega | (simp; done) | (simp; omega)) (ok32_cons.2 ⟨by omega, ok32_nil⟩))) rfl ?_
      refine VList.go0 (n' := 24) rfl rfl (.assign _ _ rfl) rfl ?_
      refine VList.go0 (n' := 25) rfl rfl (.assign _ _ rfl) rfl ?_
      refine VList.nil (Then.go ?_)
      exact VCode.ret (Then.ret (⟨trivial, [u32S (dg (val (A) / ((B).getD 0 0))), u32S (dg (val ([(val (A) % ((B).getD 0 0))])))], (resVars_cons (resVar_tmp rfl rfl) (resVars_cons (resVar_tmp rfl rfl) resVars_nil)), (by rw [h1w, show val [val A % B.getD 0 0] = val A % B.getD 0 0 by simp [val]]; rfl)⟩))
    · replace hc2 := ne_of_beq_false hc2
      refine VCode.skip (Then.go ?_)
      refine VCode.seq ?_
      have hx := ok32_getD nB.1 (((B).length : Int) - 1).toNat
      have hne : B.length ≠ 0 := fun e => (by rw [norm_zero nB e] at h0; omega)
      refine VCode.region ?_
      refine VList.go0 (n' := 10) rfl rfl (.move _ _ rfl) rfl ?_
      refine VList.go0 (n' := 11) rfl rfl (.move _ _ rfl) rfl ?_
      refine VList.go0 (n' := 12) rfl rfl (Eff.lenS rfl Try.underlying22) rfl ?_
      refine VList.go0 (n' := 13) rfl rfl (.bin _ _ _ _ _ _ _ _ rfl rfl (bop_sub_i64 (by first | omega | (simp; done) | (simp; omega)))) rfl ?_
      refine VList.go0 (n' := 14) rfl rfl (Eff.indexRd rfl rfl Try.underlying22 P_sz51 (by first | omega | (simp; done) | (simp; omega)) (by first | omega | (simp; done) | (simp; omega))) rfl ?_
      refine VList.go0 (n' := 15) rfl rfl (.loadRd1 _ _ _ _ rfl P_agg51 rfl) rfl ?_
      refine VList.go0 (n' := 16) rfl rfl (.callF _ _ _ _ _ _ rfl (ress_cons rfl ress_nil) (f81 _ (hx.1) (hx.2)) rfl) rfl ?_
      refine VList.go0 (n' := 17) rfl rfl (.assign _ _ rfl) rfl ?_
      refine VList.nil (Then.go ?_)
      refine VCode.join (α := (Nat)) (fun (s : (Nat)) => (0, sl [(0, vS (A)), (1, vS (B)), (8, vI .i64 ((s : Int))), (9, vS (dg (val B * 2 ^ s)))], en [])) (fun (s : (Nat)) => s + blen (B.getD (B.length - 1) 0).toNat = 32) ?_ ?_
      · skip
        refine VCode.region ?_
        refine VList.go0 (n' := 18) rfl rfl (.move _ _ rfl) rfl ?_
        refine VList.go0 (n' := 19) rfl rfl (.move _ _ rfl) rfl ?_
        refine VList.go0 (n' := 20) rfl rfl (Eff.callV0 rfl (ress_cons rfl (ress_cons rfl ress_nil)) (f67 _ _ (by first | omega | (simp; done) | (simp; omega)) (nB.1) (by first | omega | (simp; done) | (simp; omega)) (by first | omega | (simp; done) | (simp; omega))) rfl) rfl ?_
        refine VList.go0 (n' := 21) rfl rfl (.assign _ _ rfl) rfl ?_
        exact VList.nil (Joins.go (32 - blen ((B).getD (((B).length : Int) - 1).toNat 0).toNat) (by have := (blen_lt 32 (B.getD (B.length - 1) 0).toNat).2 (by have := ok32_getD nB.1 (B.length - 1); omega); rw [show (((B).length : Int) - 1).toNat = B.length - 1 by omega]; omega) (Weak.of (show 0 ≤ 0 by decide) ⟨⟨rfl, rfl⟩, ⟨⟨rfl, rfl⟩, ⟨⟨rfl, rfl⟩, ⟨⟨rfl, rfl⟩, trivial⟩⟩⟩⟩ trivial))
      · intro s hok
        obtain ⟨w1, w2, w3, w4⟩ := shifted (q := B.length - 1) nB (by omega) hok
        have hp2 := two_pow_pos s
        have oV := ok32_dg (val B * 2 ^ s)
        have hV : 0 < val (dg (val B * 2 ^ s)) := (by rw [w3]; exact Int.mul_pos h0 hp2)
        show VCode Try.prog 0 _ 0 (sl [(0, vS (A)), (1, vS (B)), (8, vI .i64 ((s : Int))), (9, vS (dg (val B * 2 ^ s)))]) (en []) _
        refine VCode.seq ?_
        refine VCode.region ?_
        refine VList.go0 (n' := 1) rfl rfl (.move _ _ rfl) rfl ?_
        refine VList.go0 (n' := 2) rfl rfl (Eff.lenS rfl Try.underlying22) rfl ?_
        refine VList.go0 (n' := 3) rfl rfl (.bin _ _ _ _ _ _ _ _ rfl rfl (bop_add_i64 (by first | omega | (simp; done) | (simp; omega)))) rfl ?_
        refine VList.go1 (n' := 4) rfl rfl (Eff.makeRow rfl Try.underlying22 P_zero51 P_sz51 P_bytes51 (by first | omega | (simp; done) | (simp; omega)) (by first | omega | (simp; done) | (simp; omega))) rfl ?_
        refine VList.go0 (n' := 5) rfl rfl (.assign _ _ rfl) rfl ?_
        refine VList.nil (Then.go ?_)
        refine VCode.seq ?_
        refine VCode.region ?_
        refine VList.go0 (n' := 6) rfl rfl (.move _ _ rfl) rfl ?_
        refine VList.go0 (n' := 7) rfl rfl (.move _ _ rfl) rfl ?_
        refine VList.go0 (n' := 8) rfl rfl (.move _ _ rfl) rfl ?_
        refine VList.go0 (n' := 9) rfl rfl (Eff.callV0 rfl (ress_cons rfl (ress_cons rfl ress_nil)) (f67 _ _ (by first | omega | (simp; done) | (simp; omega)) (nA.1) (by first | omega | (simp; done) | (simp; omega)) (by first | omega | (simp; done) | (simp; omega))) rfl) rfl ?_
        refine VList.go1 (n' := 10) rfl rfl (Eff.copyRow rfl rfl (by first | omega | (simp; done) | (simp; omega)) rfl rfl Try.underlying22 P_sz51) rfl ?_
        refine VList.nil (Then.go ?_)
        refine VCode.seq ?_
        refine VCode.region ?_
        refine VList.go0 (n' := 11) rfl rfl (.move _ _ rfl) rfl ?_
        refine VList.go0 (n' := 12) rfl rfl (Eff.lenS rfl Try.underlying22) rfl ?_
        refine VList.go0 (n' := 13) rfl rfl (.move _ _ rfl) rfl ?_
        refine VList.go0 (n' := 14) rfl rfl (Eff.lenS rfl Try.underlying22) rfl ?_
        refine VList.go0 (n' := 15) rfl rfl (.bin _ _ _ _ _ _ _ _ rfl rfl (bop_sub_i64 (by first | omega | (simp; done) | (simp; omega)))) rfl ?_
        refine VList.go0 (n' := 16) rfl rfl (.bin _ _ _ _ _ _ _ _ rfl rfl (bop_add_i64 (by first | omega | (simp; done) | (simp; omega)))) rfl ?_
        refine VList.go1 (n' := 17) rfl rfl (Eff.makeRow rfl Try.underlying22 P_zero51 P_sz51 P_bytes51 (by first | omega | (simp; done) | (simp; omega)) (by first | omega | (simp; done) | (simp; omega))) rfl ?_
        refine VList.go0 (n' := 18) rfl rfl (.assign _ _ rfl) rfl ?_
        refine VList.nil (Then.go ?_)
        refine VCode.seq ?_
        refine VCode.seq ?_
        refine VCode.region ?_
        refine VList.go0 (n' := 19) rfl rfl (.move _ _ rfl) rfl ?_
        refine VList.go0 (n' := 20) rfl rfl (Eff.lenO rfl Try.underlying22) rfl ?_
        refine VList.go0 (n' := 21) rfl rfl (.move _ _ rfl) rfl ?_
        refine VList.nil (Then.go ?_)
        refine VCode.block ?_
        refine VCode.loop (α := (Nat) × (List Int) × (List Int)) (fun (x_ : (Nat) × (List Int) × (List Int)) => match x_ with | (k, O, Q) => (17, sl [(8, vI .i64 ((s : Int))), (9, vS (dg (val B * 2 ^ s))), (10, .own 3 (((((A).length : Int) + 1)).toNat)), (11, .own 16 ((((((A).length : Int) - ((B).length : Int)) + 1)).toNat)), (63, vI .i64 ((((((((A).length : Int) - ((B).length : Int)) + 1)).toNat : Nat) : Int))), (64, vI .i64 ((k : Int)))], en [(3, row (O)), (16, row (Q))])) (fun (x_ : (Nat) × (List Int) × (List Int)) => match x_ with | (k, O, Q) => k ≤ (A.length - B.length + 1) ∧ DivInv (val A * 2 ^ s) (dg (val B * 2 ^ s)) O Q (A.length - B.length + 1) ((A.length - B.length + 1) - k)) (fun (x_ : (Nat) × (List Int) × (List Int)) => match x_ with | (k, O, Q) => (A.length - B.length + 1) - k) (0, (dg (val A * 2 ^ s)).take (Nat.min (dg (val A * 2 ^ s)).length (((A).length : Int) + 1).toNat) ++ (List.replicate (((A).length : Int) + 1).toNat 0).drop (Nat.min (dg (val A * 2 ^ s)).length (((A).length : Int) + 1).toNat), List.replicate ((((A).length : Int) - ((B).length : Int)) + 1).toNat 0) ⟨by omega, by rw [Nat.sub_zero]; exact div_start nA nB hne hBA w4 w3 w1 (by omega) rfl (by omega)⟩ (Weak.of (show 0 ≤ 17 by decide) ⟨⟨rfl, rfl⟩, ⟨⟨rfl, rfl⟩, ⟨⟨rfl, rfl⟩, ⟨⟨rfl, rfl⟩, ⟨⟨rfl, rfl⟩, ⟨⟨rfl, rfl⟩, trivial⟩⟩⟩⟩⟩⟩ ⟨⟨rfl, (show 3 < 17 by decide), row_cells⟩, ⟨⟨rfl, (show 16 < 17 by decide), row_cells⟩, trivial⟩⟩) ?_
        rintro ⟨k, O, Q⟩ hok3
        show VCode Try.prog 0 _ 17 (sl [(8, vI .i64 ((s : Int))), (9, vS (dg (val B * 2 ^ s))), (10, .own 3 (((((A).length : Int) + 1)).toNat)), (11, .own 16 ((((((A).length : Int) - ((B).length : Int)) + 1)).toNat)), (63, vI .i64 ((((((((A).length : Int) - ((B).length : Int)) + 1)).toNat : Nat) : Int))), (64, vI .i64 ((k : Int)))]) (en [(3, row (O)), (16, row (Q))]) _
        refine VCode.seq ?_
        refine VCode.region ?_
        refine VList.go0 (n' := 18) rfl rfl (.bin _ _ _ _ _ _ _ _ rfl rfl rfl) rfl ?_
        refine VList.nil (Then.go ?_)
        refine VCode.seq ?_
        refine VCode.cond _ rfl (fun hc3 => ?_) (fun hc3 => ?_)
        · replace hc3 := of_decide_eq_true hc3
          refine VCode.skip (Then.go ?_)
          refine VCode.seq ?_
          refine VCode.block ?_
          refine VCode.seq ?_
          refine VCode.region ?_
          refine VList.go0 (n' := 19) rfl rfl (.move _ _ rfl) rfl ?_
          refine VList.go0 (n' := 20) rfl rfl (.assign _ _ rfl) rfl ?_
          refine VList.nil (Then.go ?_)
          refine VCode.seq ?_
          obtain ⟨j, hj⟩ : ∃ j : Nat, j + 1 + k = (A.length - B.length + 1) := ⟨A.length - B.length - k, by omega⟩
          have hD : DivInv (val A * 2 ^ s) (dg (val B * 2 ^ s)) O Q (A.length - B.length + 1) (j + 1) := (by have h := hok3.2; rwa [show (A.length - B.length + 1) - k = j + 1 by omega] at h)
          have hol := hD.olen
          have hql := hD.qlen
          have hv2 : 2 ≤ ((dg (val B * 2 ^ s))).length := (by rw [w1]; omega)
          have hF : DigFix (val (O.drop j)) (val (dg (val B * 2 ^ s))) (((dg (val B * 2 ^ s))).getD (((((dg (val B * 2 ^ s))).length : Int) - 1)).toNat 0) (((dg (val B * 2 ^ s))).getD (((((dg (val B * 2 ^ s))).length : Int) - 2)).toNat 0) ((O).getD (((((j : Nat) : Int) + (((dg (val B * 2 ^ s))).length : Int)) - 1)).toNat 0) ((O).getD (((((j : Nat) : Int) + (((dg (val B * 2 ^ s))).length : Int)) - 2)).toNat 0) ((((O).getD ((((j : Nat) : Int) + (((dg (val B * 2 ^ s))).length : Int))).toNat 0 * 4294967296) + (O).getD (((((j : Nat) : Int) + (((dg (val B * 2 ^ s))).length : Int)) - 1)).toNat 0)) (4294967296 ^ (((dg (val B * 2 ^ s))).length - 2)) := digFix' hD.ok oV hv2 (by omega) hD.lt (by rw [w1]; exact w2) (by omega) (by omega) (by omega) (by omega) (by omega)
          have hs := digF_spec hF
          refine VCode.region ?_
          refine VList.go0 (n' := 21) rfl rfl (.move _ _ rfl) rfl ?_
          refine VList.go0 (n' := 22) rfl rfl (Eff.lenO rfl Try.underlying22) rfl ?_
          refine VList.go0 (n' := 23) rfl rfl (.bin _ _ _ _ _ _ _ _ rfl rfl (bop_sub_i64 (by first | omega | (simp; done) | (simp; omega)))) rfl ?_
          refine VList.go0 (n' := 24) rfl rfl (.move _ _ rfl) rfl ?_
          refine VList.go0 (n' := 25) rfl rfl (.bin _ _ _ _ _ _ _ (.int .i64 ((j : Int))) rfl rfl (by rw [bop_sub_i64 (by omega)]; exact congrArg (fun z => some (Value.int .i64 z)) (by omega))) rfl ?_
          refine VList.go0 (n' := 26) rfl rfl (.assign _ _ rfl) rfl ?_
          refine VList.nil (Then.go ?_)
          refine VCode.region ?_
          refine VList.go0 (n' := 27) rfl rfl (.move _ _ rfl) rfl ?_
          refine VList.go0 (n' := 28) rfl rfl (.move _ _ rfl) rfl ?_
          refine VList.go0 (n' := 29) rfl rfl (.move _ _ rfl) rfl ?_
          refine VList.go0 (n' := 30) rfl rfl (.move _ _ rfl) rfl ?_
          refine VList.go0 (n' := 31) rfl rfl (.move _ _ rfl) rfl ?_
          refine VList.go0 (n' := 32) rfl rfl (.move _ _ rfl) rfl ?_
          refine VList.go0 (n' := 33) rfl rfl (.move _ _ rfl) rfl ?_
          refine VList.go0 (n' := 34) rfl rfl (.move _ _ rfl) rfl ?_
          refine VList.go0 (n' := 35) rfl rfl (.callF _ _ _ _ _ _ rfl (ress_cons (res_row rfl (by first | omega | (simp; done) | (simp; omega) | (simp [*]; done) | (simp [*]; omega))) (ress_cons rfl (ress_cons rfl ress_nil))) (f83 _ _ _ _ (by omega) (by omega) (hD.ok) (oV) (hv2) (by omega) (hF)) rfl) rfl ?_
          refine VList.go1 (n' := 36) rfl rfl (Eff.callMr rfl rfl rfl (by first | omega | (simp; done) | (simp; omega) | (simp [*]; done) | (simp [*]; omega)) rfl (ress_cons rfl (ress_cons rfl (ress_cons rfl ress_nil))) (by first | decide | exact (show _ ∉ ([] : List Nat) from List.not_mem_nil)) (f82 _ _ _ _ (by omega) (hD.ok) (oV) (⟨hs.1, hs.2.1⟩) (by omega) (fun k hk => hD.high oV hk) (hs.2.2.1) (hs.2.2.2) (hV))) rfl ?_
          refine VList.go0 (n' := 37) rfl rfl (Eff.indexRowN rfl rfl Try.underlying22 P_sz51 (by first | omega | (simp; done) | (simp; omega))) rfl ?_
          refine VList.goS (n' := 38) rfl rfl (Eff.store32 rfl rfl rfl P_sz51 (by first | omega | (simp; done) | (simp; omega))) rfl ?_
          refine VList.nil (InBlock.go (Then.go ?_))
          refine VCode.region ?_
          refine VList.go0 (n' := 39) rfl rfl (.bin _ _ _ _ _ _ _ _ rfl rfl (bop_add_i64 (by first | omega | (simp; done) | (simp; omega)))) rfl ?_
          refine VList.go0 (n' := 40) rfl rfl (.move _ _ rfl) rfl ?_
          exact VList.nil (Round.go (k + 1, pad (O).length (took (O) (dg (val B * 2 ^ s)) (j)), (Q).set (j) (val ((O).drop (j)) / val (dg (val B * 2 ^ s)))) ⟨by omega, by rw [show A.length - B.length + 1 - (k + 1) = j by omega]; exact hD.step oV hV⟩ (by first | (dsimp only; omega) | omega) (Weak.of (show 0 ≤ 17 by decide) ⟨⟨rfl, rfl⟩, ⟨⟨rfl, rfl⟩, ⟨⟨rfl, rfl⟩, ⟨⟨rfl, rfl⟩, ⟨⟨rfl, rfl⟩, ⟨⟨rfl, rfl⟩, trivial⟩⟩⟩⟩⟩⟩ ⟨⟨rfl, (show 3 < 17 by decide), row_cells⟩, ⟨⟨rfl, (show 16 < 17 by decide), row_cells⟩, trivial⟩⟩))
        · replace hc3 := of_decide_eq_false hc3
          refine VCode.exit (Then.exit (Round.exit (InBlock.here (Then.go ?_))))
          refine VCode.seq ?_
          have hle := hok3.1
          have hD : DivInv (val A * 2 ^ s) (dg (val B * 2 ^ s)) O Q (A.length - B.length + 1) 0 := (by have h := hok3.2; rwa [show (A.length - B.length + 1) - k = 0 by omega] at h)
          obtain ⟨f1, f2, f3⟩ := hD.fin h0 w3 vA
          have vO := val_nonneg hD.ok
          have hol := hD.olen
          have hql := hD.qlen
          refine VCode.region ?_
          refine VList.go0 (n' := 19) rfl rfl (.move _ _ rfl) rfl ?_
          refine VList.goN (n' := 20) rfl rfl (.callV _ _ _ _ _ _ rfl (ress_cons (res_row rfl (by first | omega | (simp; done) | (simp; omega) | (simp [*]; done) | (simp [*]; omega))) ress_nil) (f64 _ (by omega) (hD.ok))) rfl ?_
          refine VList.go0 (n' := 21) rfl rfl (.move _ _ rfl) rfl ?_
          refine VList.go0 (n' := 22) rfl rfl (Eff.callV0 rfl (ress_cons rfl (ress_cons rfl ress_nil)) (f68 _ _ (Nat.le_trans ((len_dg vO O.length).2 (val_lt hD.ok)) (by omega)) (norm_dg _) (by first | omega | (simp; done) | (simp; omega)) (by first | omega | (simp; done) | (simp; omega))) rfl) rfl ?_
          refine VList.go0 (n' := 23) rfl rfl (.move _ _ rfl) rfl ?_
          refine VList.go0 (n' := 24) rfl rfl (.extract _ _ _ _ rfl rfl) rfl ?_
          refine VList.go0 (n' := 25) rfl rfl (.extract _ _ _ _ rfl rfl) rfl ?_
          refine VList.go0 (n' := 26) rfl rfl (.assign _ _ rfl) rfl ?_
          refine VList.go0 (n' := 27) rfl rfl (.assign _ _ rfl) rfl ?_
          refine VList.nil (Then.go ?_)
          refine VCode.seq ?_
          refine VCode.region ?_
          refine VList.go0 (n' := 28) rfl rfl (.move _ _ rfl) rfl ?_
          refine VList.goN (n' := 29) rfl rfl (.callV _ _ _ _ _ _ rfl (ress_cons (res_row rfl (by first | omega | (simp; done) | (simp; omega) | (simp [*]; done) | (simp [*]; omega))) ress_nil) (f64 _ (by first | omega | (simp; done) | (simp; omega)) (f1))) rfl ?_
          refine VList.go0 (n' := 30) rfl rfl (.move _ _ rfl) rfl ?_
          refine VList.go0 (n' := 31) rfl rfl (.assign _ _ rfl) rfl ?_
          refine VList.go0 (n' := 32) rfl rfl (.assign _ _ rfl) rfl ?_
          refine VList.nil (Then.go ?_)
          exact VCode.ret (⟨trivial, [u32S (dg (val (Q))), u32S (dg (val (dg (val (O))) / 2 ^ ((s : Int)).toNat))], (resVars_cons (resVar_tmp rfl rfl) (resVars_cons (resVar_tmp rfl rfl) resVars_nil)), (by rw [val_dg vO, Int.toNat_natCast, f3, f2]; rfl)⟩)
end Go.VL

/- Walks over the Go functions, printed by a program of this session over the kit's print, and by hand. -/
set_option linter.unusedVariables false
set_option linter.unusedSimpArgs false
namespace Go.VL
open Go.Proofs
theorem f18 (n : Bool) (A : List Int) (m : Bool) (B : List Int) (hA : A.length ≤ 9223372036854775807) (hB : B.length ≤ 9223372036854775807) (oA : ok32 A) (oB : ok32 B) : VF Try.prog 18 [.agg [boolB (n), u32S (A)], .agg [boolB (m), u32S (B)]] (dmR (validB n A && validB m B) (zOf n A) (zOf m B)) := by
  refine VF_of P_mixed Try.func18 rfl rfl (by kernel_rfl) ?_
  refine VCode.seq ?_
  refine VCode.region ?_
  refine VList.go1 (n' := 1) rfl rfl (.box _ _ _ rfl (List.cons_ne_nil _ _) rfl) rfl ?_
  refine VList.go1 (n' := 2) rfl rfl (.box _ _ _ rfl (List.cons_ne_nil _ _) rfl) rfl ?_
  refine VList.go1 (n' := 3) rfl rfl (.alloc _ _ P_zero24 (List.cons_ne_nil _ _)) rfl ?_
  refine VList.go1 (n' := 4) rfl rfl (.alloc _ _ P_zero24 (List.cons_ne_nil _ _)) rfl ?_
  refine VList.go0 (n' := 5) rfl rfl (.assign _ _ rfl) rfl ?_
  refine VList.nil (Then.go ?_)
  refine VCode.seq ?_
  refine VCode.seq ?_
  refine VCode.region ?_
  refine VList.go0 (n' := 6) rfl rfl (.loadS _ _ _ _ _ _ rfl rfl P_agg24 P_sz24 (Nat.le_of_ble_eq_true rfl)) rfl ?_
  refine VList.go0 (n' := 7) rfl rfl (.loadS _ _ _ _ _ _ rfl rfl P_agg24 P_sz24 (Nat.le_of_ble_eq_true rfl)) rfl ?_
  refine VList.go0 (n' := 8) rfl rfl (.callF _ _ _ _ _ _ rfl (ress_cons rfl (ress_cons rfl ress_nil)) (f50 _ _ _ _ (by first | omega | (simp; done) | (simp; omega)) (by first | omega | (simp; done) | (simp; omega))) rfl) rfl ?_
  refine VList.go0 (n' := 9) rfl rfl (.un _ _ _ _ _ rfl rfl) rfl ?_
  refine VList.nil (Then.go ?_)
  refine VCode.cond _ rfl (fun hc1 => ?_) (fun hc1 => ?_)
  · replace hc1 := (bnot_t hc1)
    refine VCode.seq ?_
    refine VCode.region ?_
    refine VList.go0 (n' := 10) rfl rfl Eff.int0 rfl ?_
    refine VList.go0 (n' := 11) rfl rfl Eff.int0 rfl ?_
    refine VList.goS (n' := 12) rfl rfl (.store _ _ _ _ _ _ _ rfl rfl rfl rfl P_sz24 (Nat.le_of_ble_eq_true rfl) rfl) rfl ?_
    refine VList.goS (n' := 13) rfl rfl (.store _ _ _ _ _ _ _ rfl rfl rfl rfl P_sz24 (Nat.le_of_ble_eq_true rfl) rfl) rfl ?_
    refine VList.go0 (n' := 14) rfl rfl (.assign _ _ rfl) rfl ?_
    refine VList.nil (Then.go ?_)
    exact VCode.ret (Then.ret (⟨trivial, [.agg [boolB (false), u32S ([])], .agg [boolB (false), u32S ([])], numB .i64 (1)], (resVars_cons (resVar_cell rfl rfl P_agg24 P_sz24 (Nat.le_of_ble_eq_true rfl) rfl) (resVars_cons (resVar_cell rfl rfl P_agg24 P_sz24 (Nat.le_of_ble_eq_true rfl) rfl) (resVars_cons (resVar_tmp rfl rfl) resVars_nil))), (by rw [dmR_bad hc1]; rfl)⟩))
  · replace hc1 := (bnot_f hc1)
    refine VCode.skip (Then.go ?_)
    refine VCode.seq ?_
    refine VCode.seq ?_
    obtain ⟨v1, v2⟩ := Bool.and_eq_true_iff.1 hc1
    obtain ⟨nA, lA, sA⟩ := valid_norm oA v1
    obtain ⟨nB, lB, sB⟩ := valid_norm oB v2
    refine VCode.region ?_
    refine VList.go0 (n' := 10) rfl rfl (.fieldAddr _ _ _ _ _ _ _ _ rfl P_fld24_1) rfl ?_
    refine VList.go0 (n' := 11) rfl rfl (.load1 _ _ _ _ _ _ rfl rfl P_agg22 rfl) rfl ?_
    refine VList.go0 (n' := 12) rfl rfl (Eff.lenS rfl Try.underlying22) rfl ?_
    refine VList.go0 (n' := 13) rfl rfl (.bin _ _ _ _ _ _ _ _ rfl rfl rfl) rfl ?_
    refine VList.nil (Then.go ?_)
    refine VCode.cond _ rfl (fun hc2 => ?_) (fun hc2 => ?_)
    · replace hc2 := eq_of_beq hc2
      refine VCode.seq ?_
      refine VCode.region ?_
      refine VList.go0 (n' := 14) rfl rfl Eff.int0 rfl ?_
      refine VList.go0 (n' := 15) rfl rfl Eff.int0 rfl ?_
      refine VList.goS (n' := 16) rfl rfl (.store _ _ _ _ _ _ _ rfl rfl rfl rfl P_sz24 (Nat.le_of_ble_eq_true rfl) rfl) rfl ?_
      refine VList.goS (n' := 17) rfl rfl (.store _ _ _ _ _ _ _ rfl rfl rfl rfl P_sz24 (Nat.le_of_ble_eq_true rfl) rfl) rfl ?_
      refine VList.go0 (n' := 18) rfl rfl (.assign _ _ rfl) rfl ?_
      refine VList.nil (Then.go ?_)
      exact VCode.ret (Then.ret (⟨trivial, [.agg [boolB (false), u32S ([])], .agg [boolB (false), u32S ([])], numB .i64 (4)], (resVars_cons (resVar_cell rfl rfl P_agg24 P_sz24 (Nat.le_of_ble_eq_true rfl) rfl) (resVars_cons (resVar_cell rfl rfl P_agg24 P_sz24 (Nat.le_of_ble_eq_true rfl) rfl) (resVars_cons (resVar_tmp rfl rfl) resVars_nil))), (by rw [dmR_zero hc1 (by rw [zOf, norm_zero nB (by omega), sg_zero])]; rfl)⟩))
    · replace hc2 := ne_of_beq_false hc2
      refine VCode.skip (Then.go ?_)
      refine VCode.seq ?_
      have vA := val_nonneg oA
      have bP := norm_pos nB (fun e => hc2 (by rw [e]; rfl))
      have q0 := Int.ediv_nonneg vA (Int.le_of_lt bP)
      have m0 := Int.emod_nonneg (val A) (show val B ≠ 0 by omega)
      have m1 := Int.emod_lt_of_pos (val A) bP
      have hq1 : (dg (val A / val B)).length ≤ 128 := Nat.le_trans (len_le oA q0 (Int.ediv_le_self _ vA)) lA
      have hr1 : (dg (val A % val B)).length ≤ B.length := len_le oB m0 (Int.le_of_lt m1)
      have hy : zOf m B ≠ 0 := fun e => (by have := sg_zero.1 e; omega)
      refine VCode.region ?_
      refine VList.go0 (n' := 14) rfl rfl (.fieldAddr _ _ _ _ _ _ _ _ rfl P_fld24_1) rfl ?_
      refine VList.go0 (n' := 15) rfl rfl (.load1 _ _ _ _ _ _ rfl rfl P_agg22 rfl) rfl ?_
      refine VList.go0 (n' := 16) rfl rfl (.fieldAddr _ _ _ _ _ _ _ _ rfl P_fld24_1) rfl ?_
      refine VList.go0 (n' := 17) rfl rfl (.load1 _ _ _ _ _ _ rfl rfl P_agg22 rfl) rfl ?_
      refine VList.go0 (n' := 18) rfl rfl (Eff.callV0 rfl (ress_cons rfl (ress_cons rfl ress_nil)) (f51 _ _ (by first | omega | (simp; done) | (simp; omega)) (by first | omega | (simp; done) | (simp; omega)) (nA) (nB) (by first | omega | (simp; done) | (simp; omega))) rfl) rfl ?_
      refine VList.go0 (n' := 19) rfl rfl (.move _ _ rfl) rfl ?_
      refine VList.go0 (n' := 20) rfl rfl (.extract _ _ _ _ rfl rfl) rfl ?_
      refine VList.go0 (n' := 21) rfl rfl (.extract _ _ _ _ rfl rfl) rfl ?_
      refine VList.go0 (n' := 22) rfl rfl (.assign _ _ rfl) rfl ?_
      refine VList.go0 (n' := 23) rfl rfl (.assign _ _ rfl) rfl ?_
      refine VList.nil (Then.go ?_)
      refine VCode.join (α := (List Int) × (List Int)) (fun (x_ : (List Int) × (List Int)) => match x_ with | (Q, R) => (4, sl [(2, .ptr 0 (0)), (3, .ptr 1 (0)), (4, .ptr 2 (0)), (5, .ptr 3 (0)), (7, vS (Q)), (8, vS (R))], en [(0, ⟨2, [vB (n), vS (A)], true⟩), (1, ⟨2, [vB (m), vS (B)], true⟩), (2, ⟨2, [vB (false), vS ([])], true⟩), (3, ⟨2, [vB (false), vS ([])], true⟩)])) (fun (x_ : (List Int) × (List Int)) => match x_ with | (Q, R) => (norm Q ∧ norm R) ∧ (sg (!(n == m)) (val Q) = (zOf n A).fdiv (zOf m B) ∧ sg m (val R) = (zOf n A).fmod (zOf m B)) ∧ Q.length ≤ 1000000000 ∧ R.length ≤ 1000000000) ?_ ?_
      · skip
        refine VCode.seq ?_
        refine VCode.region ?_
        refine VList.go0 (n' := 24) rfl rfl (.fieldAddr _ _ _ _ _ _ _ _ rfl P_fld24_0) rfl ?_
        refine VList.go0 (n' := 25) rfl rfl (.load1 _ _ _ _ _ _ rfl rfl P_agg4 rfl) rfl ?_
        refine VList.go0 (n' := 26) rfl rfl (.fieldAddr _ _ _ _ _ _ _ _ rfl P_fld24_0) rfl ?_
        refine VList.go0 (n' := 27) rfl rfl (.load1 _ _ _ _ _ _ rfl rfl P_agg4 rfl) rfl ?_
        refine VList.go0 (n' := 28) rfl rfl (.binB _ _ _ _ _ _ _ _ rfl rfl Try.underlying4 rfl) rfl ?_
        refine VList.go0 (n' := 29) rfl rfl (.move _ _ rfl) rfl ?_
        refine VList.split (d := 38) _ rfl (fun hc3 => ?_) (fun hc3 => ?_)
        · replace hc3 := ne_of_beq_false (bnot_t hc3)
          refine VList.go0 (n' := 30) rfl rfl (.move _ _ rfl) rfl ?_
          refine VList.go0 (n' := 31) rfl rfl (Eff.lenS rfl Try.underlying22) rfl ?_
          refine VList.go0 (n' := 32) rfl rfl (.bin _ _ _ _ _ _ _ _ rfl rfl rfl) rfl ?_
          refine VList.go0 (n' := 33) rfl rfl (.pick _ _ _ _ _ rfl rfl) rfl ?_
          refine VList.nil (Then.go ?_)
          refine VCode.cond _ rfl (fun hc4 => ?_) (fun hc4 => ?_)
          · replace hc4 := of_decide_eq_true hc4
            refine VCode.seq ?_
            refine VCode.region ?_
            refine VList.go0 (n' := 34) rfl rfl (.move _ _ rfl) rfl ?_
            refine VList.go1 (n' := 35) rfl rfl (Eff.lits1 rfl Try.underlying22 P_zero51 P_sz51) rfl ?_
            refine VList.goN (n' := 36) rfl rfl (.callV _ _ _ _ _ _ rfl (ress_cons rfl (ress_cons (res_row rfl (by first | omega | (simp; done) | (simp; omega) | (simp [*]; done) | (simp [*]; omega))) ress_nil)) (f52 _ _ (by first | omega | (simp; done) | (simp; omega)) (by first | omega | (simp; done) | (simp; omega)) (ok32_dg _) (ok32_cons.2 ⟨by omega, ok32_nil⟩))) rfl ?_
            refine VList.go0 (n' := 37) rfl rfl (.assign _ _ rfl) rfl ?_
            refine VList.nil (Then.go ?_)
            refine VCode.region ?_
            refine VList.go0 (n' := 38) rfl rfl (.fieldAddr _ _ _ _ _ _ _ _ rfl P_fld24_1) rfl ?_
            refine VList.go0 (n' := 39) rfl rfl (.load1 _ _ _ _ _ _ rfl rfl P_agg22 rfl) rfl ?_
            refine VList.go0 (n' := 40) rfl rfl (.move _ _ rfl) rfl ?_
            refine VList.go0 (n' := 41) rfl rfl (Eff.callV0 rfl (ress_cons rfl (ress_cons rfl ress_nil)) (f53 _ _ (by first | omega | (simp; done) | (simp; omega)) (by first | omega | (simp; done) | (simp; omega)) (oB) (ok32_dg _) (by first | omega | (simp; done) | (simp; omega)) ((by rw [val_dg m0]; omega))) rfl) rfl ?_
            refine VList.go0 (n' := 42) rfl rfl (.assign _ _ rfl) rfl ?_
            exact VList.nil (Joins.go (dg (val (dg (val A / val B)) + val ([1])), dg (val B - val (dg (val A % val B)))) (by obtain ⟨e1, e2⟩ := fdiv_odd (a := val A) hc3 vA bP (by have := dg_nil m0; omega); refine ⟨⟨norm_dg _, norm_dg _⟩, ⟨?_, ?_⟩, add_len (ok32_dg _) (B := [1]) (ok32_cons.2 ⟨by omega, ok32_nil⟩) hq1 (by simp), sub_len oB (ok32_dg _) lB⟩; rw [zOf, zOf, e1, val_dg q0, val_dg (by simp [val]; omega)]; simp [sg, hc3, val]; rw [zOf, zOf, e2, val_dg m0, val_dg (by omega)]) (Weak.of (show 0 ≤ 4 by decide) ⟨⟨rfl, rfl⟩, ⟨⟨rfl, rfl⟩, ⟨⟨rfl, rfl⟩, ⟨⟨rfl, rfl⟩, ⟨⟨rfl, rfl⟩, ⟨⟨rfl, rfl⟩, trivial⟩⟩⟩⟩⟩⟩ ⟨⟨rfl, (show 0 < 4 by decide), (by intro v_ hv_; simp at hv_; rcases hv_ with rfl | rfl <;> rfl)⟩, ⟨⟨rfl, (show 1 < 4 by decide), (by intro v_ hv_; simp at hv_; rcases hv_ with rfl | rfl <;> rfl)⟩, ⟨⟨rfl, (show 2 < 4 by decide), (by intro v_ hv_; simp at hv_; rcases hv_ with rfl | rfl <;> rfl)⟩, ⟨⟨rfl, (show 3 < 4 by decide), (by intro v_ hv_; simp at hv_; rcases hv_ with rfl | rfl <;> rfl)⟩, trivial⟩⟩⟩⟩))
          · replace hc4 := of_decide_eq_false hc4
            exact VCode.skip (Joins.go (dg (val A / val B), dg (val A % val B)) (by obtain ⟨e1, e2⟩ := fdiv_even (a := val A) hc3 vA bP (by have := dg_nil m0; omega); refine ⟨⟨norm_dg _, norm_dg _⟩, ⟨?_, ?_⟩, by omega, by omega⟩; rw [zOf, zOf, e1, val_dg q0]; simp [sg, hc3]; rw [zOf, zOf, e2, val_dg m0]) (Weak.of (show 0 ≤ 4 by decide) ⟨⟨rfl, rfl⟩, ⟨⟨rfl, rfl⟩, ⟨⟨rfl, rfl⟩, ⟨⟨rfl, rfl⟩, ⟨⟨rfl, rfl⟩, ⟨⟨rfl, rfl⟩, trivial⟩⟩⟩⟩⟩⟩ ⟨⟨rfl, (show 0 < 4 by decide), (by intro v_ hv_; simp at hv_; rcases hv_ with rfl | rfl <;> rfl)⟩, ⟨⟨rfl, (show 1 < 4 by decide), (by intro v_ hv_; simp at hv_; rcases hv_ with rfl | rfl <;> rfl)⟩, ⟨⟨rfl, (show 2 < 4 by decide), (by intro v_ hv_; simp at hv_; rcases hv_ with rfl | rfl <;> rfl)⟩, ⟨⟨rfl, (show 3 < 4 by decide), (by intro v_ hv_; simp at hv_; rcases hv_ with rfl | rfl <;> rfl)⟩, trivial⟩⟩⟩⟩))
        · replace hc3 := eq_of_beq (bnot_f hc3)
          refine VList.skip (n' := 30) rfl rfl rfl ?_
          refine VList.skip (n' := 31) rfl rfl rfl ?_
          refine VList.skip (n' := 32) rfl rfl rfl ?_
          refine VList.go0 (n' := 33) rfl rfl (.pick _ _ _ _ _ rfl rfl) rfl ?_
          refine VList.nil (Then.go ?_)
          refine VCode.cond _ rfl (fun h_ => Bool.noConfusion h_) (fun _ => ?_)
          exact VCode.skip (Joins.go (dg (val A / val B), dg (val A % val B)) (by subst hc3; obtain ⟨e1, e2⟩ := fdiv_same (n := n) vA bP; refine ⟨⟨norm_dg _, norm_dg _⟩, ⟨?_, ?_⟩, by omega, by omega⟩; rw [zOf, zOf, e1, val_dg q0]; simp [sg]; rw [zOf, zOf, e2, val_dg m0]) (Weak.of (show 0 ≤ 4 by decide) ⟨⟨rfl, rfl⟩, ⟨⟨rfl, rfl⟩, ⟨⟨rfl, rfl⟩, ⟨⟨rfl, rfl⟩, ⟨⟨rfl, rfl⟩, ⟨⟨rfl, rfl⟩, trivial⟩⟩⟩⟩⟩⟩ ⟨⟨rfl, (show 0 < 4 by decide), (by intro v_ hv_; simp at hv_; rcases hv_ with rfl | rfl <;> rfl)⟩, ⟨⟨rfl, (show 1 < 4 by decide), (by intro v_ hv_; simp at hv_; rcases hv_ with rfl | rfl <;> rfl)⟩, ⟨⟨rfl, (show 2 < 4 by decide), (by intro v_ hv_; simp at hv_; rcases hv_ with rfl | rfl <;> rfl)⟩, ⟨⟨rfl, (show 3 < 4 by decide), (by intro v_ hv_; simp at hv_; rcases hv_ with rfl | rfl <;> rfl)⟩, trivial⟩⟩⟩⟩))
      · rintro ⟨Q, R⟩ hok
        obtain ⟨⟨nQ, nR⟩, ⟨j3, j4⟩, j5, j6⟩ := hok
        show VCode Try.prog 0 _ 4 (sl [(2, .ptr 0 (0)), (3, .ptr 1 (0)), (4, .ptr 2 (0)), (5, .ptr 3 (0)), (7, vS (Q)), (8, vS (R))]) (en [(0, ⟨2, [vB (n), vS (A)], true⟩), (1, ⟨2, [vB (m), vS (B)], true⟩), (2, ⟨2, [vB (false), vS ([])], true⟩), (3, ⟨2, [vB (false), vS ([])], true⟩)]) _
        refine VCode.seq ?_
        refine VCode.region ?_
        refine VList.go0 (n' := 5) rfl rfl (.fieldAddr _ _ _ _ _ _ _ _ rfl P_fld24_0) rfl ?_
        refine VList.go0 (n' := 6) rfl rfl (.load1 _ _ _ _ _ _ rfl rfl P_agg4 rfl) rfl ?_
        refine VList.go0 (n' := 7) rfl rfl (.fieldAddr _ _ _ _ _ _ _ _ rfl P_fld24_0) rfl ?_
        refine VList.go0 (n' := 8) rfl rfl (.load1 _ _ _ _ _ _ rfl rfl P_agg4 rfl) rfl ?_
        refine VList.go0 (n' := 9) rfl rfl (.binB _ _ _ _ _ _ _ _ rfl rfl Try.underlying4 rfl) rfl ?_
        refine VList.go0 (n' := 10) rfl rfl (.move _ _ rfl) rfl ?_
        refine VList.go0 (n' := 11) rfl rfl (Eff.callV0 rfl (ress_cons rfl (ress_cons rfl ress_nil)) (f54 _ _ (by first | omega | (simp; done) | (simp; omega)) (nQ.1)) rfl) rfl ?_
        refine VList.go0 (n' := 12) rfl rfl (.move _ _ rfl) rfl ?_
        refine VList.go0 (n' := 13) rfl rfl (.extract _ _ _ _ rfl rfl) rfl ?_
        refine VList.go0 (n' := 14) rfl rfl (.extract _ _ _ _ rfl rfl) rfl ?_
        refine VList.go1 (n' := 15) rfl rfl (.alloc _ _ P_zero24 (List.cons_ne_nil _ _)) rfl ?_
        refine VList.goS (n' := 16) rfl rfl (.store _ _ _ _ _ _ _ rfl rfl rfl rfl P_sz24 (Nat.le_of_ble_eq_true rfl) rfl) rfl ?_
        refine VList.go0 (n' := 17) rfl rfl (.assign _ _ rfl) rfl ?_
        refine VList.nil (Then.go ?_)
        refine VCode.seq ?_
        refine VCode.seq ?_
        refine VCode.region ?_
        refine VList.go0 (n' := 18) rfl rfl (.move _ _ rfl) rfl ?_
        refine VList.go0 (n' := 19) rfl rfl (.bin _ _ _ _ _ _ _ _ rfl rfl rfl) rfl ?_
        refine VList.nil (Then.go ?_)
        refine VCode.cond _ rfl (fun hc5 => ?_) (fun hc5 => ?_)
        · replace hc5 := bne_iff_ne.1 hc5
          refine VCode.seq ?_
          refine VCode.region ?_
          refine VList.go0 (n' := 20) rfl rfl Eff.int0 rfl ?_
          refine VList.go0 (n' := 21) rfl rfl Eff.int0 rfl ?_
          refine VList.go0 (n' := 22) rfl rfl (.move _ _ rfl) rfl ?_
          refine VList.goS (n' := 23) rfl rfl (.store _ _ _ _ _ _ _ rfl rfl rfl rfl P_sz24 (Nat.le_of_ble_eq_true rfl) rfl) rfl ?_
          refine VList.goS (n' := 24) rfl rfl (.store _ _ _ _ _ _ _ rfl rfl rfl rfl P_sz24 (Nat.le_of_ble_eq_true rfl) rfl) rfl ?_
          refine VList.go0 (n' := 25) rfl rfl (.assign _ _ rfl) rfl ?_
          refine VList.nil (Then.go ?_)
          exact VCode.ret (Then.ret (⟨trivial, [.agg [boolB (false), u32S ([])], .agg [boolB (false), u32S ([])], numB .i64 (zE (sg ((!(n == m))) (val (Q))))], (resVars_cons (resVar_cell rfl rfl P_agg24 P_sz24 (Nat.le_of_ble_eq_true rfl) rfl) (resVars_cons (resVar_cell rfl rfl P_agg24 P_sz24 (Nat.le_of_ble_eq_true rfl) rfl) (resVars_cons (resVar_tmp rfl rfl) resVars_nil))), (by rw [dmR_big hc1 hy (by rw [← j3]; exact hc5), ← j3]; rfl)⟩))
        · replace hc5 := bne_eq_false_iff_eq.1 hc5
          refine VCode.skip (Then.go ?_)
          refine VCode.seq ?_
          refine VCode.region ?_
          refine VList.go0 (n' := 20) rfl rfl (.fieldAddr _ _ _ _ _ _ _ _ rfl P_fld24_0) rfl ?_
          refine VList.go0 (n' := 21) rfl rfl (.load1 _ _ _ _ _ _ rfl rfl P_agg4 rfl) rfl ?_
          refine VList.go0 (n' := 22) rfl rfl (.move _ _ rfl) rfl ?_
          refine VList.go0 (n' := 23) rfl rfl (Eff.callV0 rfl (ress_cons rfl (ress_cons rfl ress_nil)) (f54 _ _ (by first | omega | (simp; done) | (simp; omega)) (nR.1)) rfl) rfl ?_
          refine VList.go0 (n' := 24) rfl rfl (.move _ _ rfl) rfl ?_
          refine VList.go0 (n' := 25) rfl rfl (.extract _ _ _ _ rfl rfl) rfl ?_
          refine VList.go0 (n' := 26) rfl rfl (.extract _ _ _ _ rfl rfl) rfl ?_
          refine VList.go1 (n' := 27) rfl rfl (.alloc _ _ P_zero24 (List.cons_ne_nil _ _)) rfl ?_
          refine VList.goS (n' := 28) rfl rfl (.store _ _ _ _ _ _ _ rfl rfl rfl rfl P_sz24 (Nat.le_of_ble_eq_true rfl) rfl) rfl ?_
          refine VList.go0 (n' := 29) rfl rfl (.assign _ _ rfl) rfl ?_
          refine VList.nil (Then.go ?_)
          refine VCode.seq ?_
          refine VCode.draw (by kernel_rfl) ?_
          refine VLog.go0 (n' := 30) rfl rfl (.loadS _ _ _ _ _ _ rfl rfl P_agg24 P_sz24 (Nat.le_of_ble_eq_true rfl)) rfl ?_
          refine VLog.go0 (n' := 31) rfl rfl (.loadS _ _ _ _ _ _ rfl rfl P_agg24 P_sz24 (Nat.le_of_ble_eq_true rfl)) rfl ?_
          refine VLog.goS (n' := 32) rfl rfl (.store _ _ _ _ _ _ _ rfl rfl rfl rfl P_sz24 (Nat.le_of_ble_eq_true rfl) rfl) rfl ?_
          refine VLog.goS (n' := 33) rfl rfl (.store _ _ _ _ _ _ _ rfl rfl rfl rfl P_sz24 (Nat.le_of_ble_eq_true rfl) rfl) rfl ?_
          refine VLog.go0 (n' := 34) rfl rfl (.assign _ _ rfl) rfl ?_
          refine VLog.nil ⟨by kernel_rfl, Then.go ?_⟩
          exact VCode.ret (⟨trivial, [.agg [boolB (zN (sg ((!(n == m))) (val (Q)))), u32S (zL (sg ((!(n == m))) (val (Q))))], .agg [boolB (zN (sg (m) (val (R)))), u32S (zL (sg (m) (val (R))))], numB .i64 (0)], (resVars_cons (resVar_cell rfl rfl P_agg24 P_sz24 (Nat.le_of_ble_eq_true rfl) rfl) (resVars_cons (resVar_cell rfl rfl P_agg24 P_sz24 (Nat.le_of_ble_eq_true rfl) rfl) (resVars_cons (resVar_tmp rfl rfl) resVars_nil))), (by rw [dmR_ok hc1 hy (by rw [← j3]; exact hc5), ← j3, ← j4]; rfl)⟩)
end Go.VL

/- Walks over the Go functions, printed by a program of this session over the kit's print, and by hand. -/
set_option linter.unusedVariables false
set_option linter.unusedSimpArgs false
namespace Go.VL
open Go.Proofs
theorem f27 (n : Bool) (A : List Int) (k : Int) (hA : A.length ≤ 9223372036854775807) (oA : ok32 A) (k0 : -9223372036854775808 ≤ k) (k1 : k ≤ 9223372036854775807) : VF Try.prog 27 [.agg [boolB (n), u32S (A)], numB .i64 (k)] (gR (validB n A) (shZ (zOf n A) k)) := by
  refine VF_of P_mixed Try.func27 rfl rfl (by kernel_rfl) ?_
  refine VCode.seq ?_
  refine VCode.region ?_
  refine VList.go1 (n' := 1) rfl rfl (.box _ _ _ rfl (List.cons_ne_nil _ _) rfl) rfl ?_
  refine VList.go1 (n' := 2) rfl rfl (.alloc _ _ P_zero24 (List.cons_ne_nil _ _)) rfl ?_
  refine VList.go0 (n' := 3) rfl rfl (.assign _ _ rfl) rfl ?_
  refine VList.nil (Then.go ?_)
  refine VCode.seq ?_
  refine VCode.seq ?_
  refine VCode.region ?_
  refine VList.go0 (n' := 4) rfl rfl (.loadS _ _ _ _ _ _ rfl rfl P_agg24 P_sz24 (Nat.le_of_ble_eq_true rfl)) rfl ?_
  refine VList.go0 (n' := 5) rfl rfl (.callF _ _ _ _ _ _ rfl (ress_cons rfl ress_nil) (f36 _ _ (by first | omega | (simp; done) | (simp; omega))) rfl) rfl ?_
  refine VList.go0 (n' := 6) rfl rfl (.un _ _ _ _ _ rfl rfl) rfl ?_
  refine VList.nil (Then.go ?_)
  refine VCode.cond _ rfl (fun hc1 => ?_) (fun hc1 => ?_)
  · replace hc1 := (bnot_t hc1)
    refine VCode.seq ?_
    refine VCode.region ?_
    refine VList.go0 (n' := 7) rfl rfl Eff.int0 rfl ?_
    refine VList.goS (n' := 8) rfl rfl (.store _ _ _ _ _ _ _ rfl rfl rfl rfl P_sz24 (Nat.le_of_ble_eq_true rfl) rfl) rfl ?_
    refine VList.go0 (n' := 9) rfl rfl (.assign _ _ rfl) rfl ?_
    refine VList.nil (Then.go ?_)
    exact VCode.ret (Then.ret (⟨trivial, [.agg [boolB (false), u32S ([])], numB .i64 (1)], (resVars_cons (resVar_cell rfl rfl P_agg24 P_sz24 (Nat.le_of_ble_eq_true rfl) rfl) (resVars_cons (resVar_tmp rfl rfl) resVars_nil)), (by rw [gR_false hc1]; rfl)⟩))
  · replace hc1 := (bnot_f hc1)
    refine VCode.skip (Then.go ?_)
    refine VCode.seq ?_
    refine VCode.seq ?_
    obtain ⟨nA, lA, sA⟩ := valid_norm oA hc1
    refine VCode.region ?_
    refine VList.go0 (n' := 7) rfl rfl (.fieldAddr _ _ _ _ _ _ _ _ rfl P_fld24_1) rfl ?_
    refine VList.go0 (n' := 8) rfl rfl (.load1 _ _ _ _ _ _ rfl rfl P_agg22 rfl) rfl ?_
    refine VList.go0 (n' := 9) rfl rfl (Eff.lenS rfl Try.underlying22) rfl ?_
    refine VList.go0 (n' := 10) rfl rfl (.bin _ _ _ _ _ _ _ _ rfl rfl rfl) rfl ?_
    refine VList.nil (Then.go ?_)
    refine VCode.cond _ rfl (fun hc2 => ?_) (fun hc2 => ?_)
    · replace hc2 := eq_of_beq hc2
      refine VCode.seq ?_
      refine VCode.region ?_
      refine VList.go0 (n' := 11) rfl rfl Eff.int0 rfl ?_
      refine VList.goS (n' := 12) rfl rfl (.store _ _ _ _ _ _ _ rfl rfl rfl rfl P_sz24 (Nat.le_of_ble_eq_true rfl) rfl) rfl ?_
      refine VList.go0 (n' := 13) rfl rfl (.assign _ _ rfl) rfl ?_
      refine VList.nil (Then.go ?_)
      exact VCode.ret (Then.ret (⟨trivial, [.agg [boolB (false), u32S ([])], numB .i64 (0)], (resVars_cons (resVar_cell rfl rfl P_agg24 P_sz24 (Nat.le_of_ble_eq_true rfl) rfl) (resVars_cons (resVar_tmp rfl rfl) resVars_nil)), (by rw [gR_true hc1, zOf, norm_zero nA (by omega), show sg n 0 = 0 by cases n <;> rfl, shZ_zero, zR_zero]; rfl)⟩))
    · replace hc2 := ne_of_beq_false hc2
      refine VCode.skip (Then.go ?_)
      refine VCode.seq ?_
      refine VCode.seq ?_
      have vA := val_nonneg oA
      have bP := norm_pos nA (fun e => hc2 (by rw [e]; rfl))
      have vl := val_limit oA lA
      refine VCode.region ?_
      refine VList.go0 (n' := 11) rfl rfl (.move _ _ rfl) rfl ?_
      refine VList.go0 (n' := 12) rfl rfl (.bin _ _ _ _ _ _ _ _ rfl rfl rfl) rfl ?_
      refine VList.nil (Then.go ?_)
      refine VCode.cond _ rfl (fun hc3 => ?_) (fun hc3 => ?_)
      · replace hc3 := of_decide_eq_true hc3
        refine VCode.seq ?_
        refine VCode.seq ?_
        refine VCode.region ?_
        refine VList.go0 (n' := 13) rfl rfl (.move _ _ rfl) rfl ?_
        refine VList.go0 (n' := 14) rfl rfl (.bin _ _ _ _ _ _ _ _ rfl rfl rfl) rfl ?_
        refine VList.nil (Then.go ?_)
        refine VCode.cond _ rfl (fun hc4 => ?_) (fun hc4 => ?_)
        · replace hc4 := of_decide_eq_true hc4
          refine VCode.seq ?_
          refine VCode.region ?_
          refine VList.go0 (n' := 15) rfl rfl Eff.int0 rfl ?_
          refine VList.goS (n' := 16) rfl rfl (.store _ _ _ _ _ _ _ rfl rfl rfl rfl P_sz24 (Nat.le_of_ble_eq_true rfl) rfl) rfl ?_
          refine VList.go0 (n' := 17) rfl rfl (.assign _ _ rfl) rfl ?_
          refine VList.nil (Then.go ?_)
          exact VCode.ret (Then.ret (Then.ret (⟨trivial, [.agg [boolB (false), u32S ([])], numB .i64 (2)], (resVars_cons (resVar_cell rfl rfl P_agg24 P_sz24 (Nat.le_of_ble_eq_true rfl) rfl) (resVars_cons (resVar_tmp rfl rfl) resVars_nil)), (by rw [gR_true hc1, zR_big (shl_big bP hc4)]; rfl)⟩)))
        · replace hc4 := of_decide_eq_false hc4
          refine VCode.skip (Then.go ?_)
          refine VCode.seq ?_
          have hk2 : (dg (val A * 2 ^ k.toNat)).length ≤ 1000000000 := shl_len oA lA (by omega)
          refine VCode.draw (by kernel_rfl) ?_
          refine VLog.go0 (n' := 15) rfl rfl (.fieldAddr _ _ _ _ _ _ _ _ rfl P_fld24_0) rfl ?_
          refine VLog.go0 (n' := 16) rfl rfl (.load1 _ _ _ _ _ _ rfl rfl P_agg4 rfl) rfl ?_
          refine VLog.go0 (n' := 17) rfl rfl (.fieldAddr _ _ _ _ _ _ _ _ rfl P_fld24_1) rfl ?_
          refine VLog.go0 (n' := 18) rfl rfl (.load1 _ _ _ _ _ _ rfl rfl P_agg22 rfl) rfl ?_
          refine VLog.go0 (n' := 19) rfl rfl (.move _ _ rfl) rfl ?_
          refine VLog.go0 (n' := 20) rfl rfl (Eff.callV0 rfl (ress_cons rfl (ress_cons rfl ress_nil)) (f67 _ _ (by omega) (oA) (by omega) (by omega)) rfl) rfl ?_
          refine VLog.go0 (n' := 21) rfl rfl (Eff.callV0 rfl (ress_cons rfl (ress_cons rfl ress_nil)) (f54 _ _ (hk2) (ok32_dg _)) rfl) rfl ?_
          refine VLog.go0 (n' := 22) rfl rfl (.extract _ _ _ _ rfl rfl) rfl ?_
          refine VLog.go0 (n' := 23) rfl rfl (.extract _ _ _ _ rfl rfl) rfl ?_
          refine VLog.goS (n' := 24) rfl rfl (.store _ _ _ _ _ _ _ rfl rfl rfl rfl P_sz24 (Nat.le_of_ble_eq_true rfl) rfl) rfl ?_
          refine VLog.go0 (n' := 25) rfl rfl (.assign _ _ rfl) rfl ?_
          refine VLog.nil ⟨by kernel_rfl, Then.go ?_⟩
          exact VCode.ret (Then.ret (⟨trivial, [.agg [boolB (zN (sg (n) (val (dg (val (A) * 2 ^ (k).toNat))))), u32S (zL (sg (n) (val (dg (val (A) * 2 ^ (k).toNat)))))], numB .i64 (zE (sg (n) (val (dg (val (A) * 2 ^ (k).toNat)))))], (resVars_cons (resVar_cell rfl rfl P_agg24 P_sz24 (Nat.le_of_ble_eq_true rfl) rfl) (resVars_cons (resVar_tmp rfl rfl) resVars_nil)), (by rw [gR_true hc1, zOf, sg_shl hc3, val_dg (Int.mul_nonneg vA (Int.le_of_lt (two_pow_pos _)))]; rfl)⟩))
      · replace hc3 := of_decide_eq_false hc3
        refine VCode.skip (Then.go ?_)
        refine VCode.seq ?_
        have hm0 : 0 ≤ (-(if (-4096 : Int) > k then (-4096) else k)) ∧ (-(if (-4096 : Int) > k then (-4096) else k)) ≤ 4096 := by split <;> omega
        have q0 : 0 ≤ val A / 2 ^ (-(if (-4096) > k then (-4096) else k)).toNat := Int.ediv_nonneg vA (Int.le_of_lt (two_pow_pos _))
        have hq1 : (dg (val A / 2 ^ (-(if (-4096) > k then (-4096) else k)).toNat)).length ≤ 128 := Nat.le_trans (len_le oA q0 (Int.ediv_le_self _ vA)) lA
        refine VCode.region ?_
        refine VList.go0 (n' := 13) rfl rfl (.fieldAddr _ _ _ _ _ _ _ _ rfl P_fld24_1) rfl ?_
        refine VList.go0 (n' := 14) rfl rfl (.load1 _ _ _ _ _ _ rfl rfl P_agg22 rfl) rfl ?_
        refine VList.go0 (n' := 15) rfl rfl (.move _ _ rfl) rfl ?_
        refine VList.go0 (n' := 16) rfl rfl (.max _ _ _ _ _ _ rfl rfl) rfl ?_
        refine VList.go0 (n' := 17) rfl rfl (.un _ _ _ _ _ rfl (uop_neg_i64 (by omega))) rfl ?_
        refine VList.go0 (n' := 18) rfl rfl (Eff.callV0 rfl (ress_cons rfl (ress_cons rfl ress_nil)) (f68 _ _ (by omega) (nA) (by omega) (by omega)) rfl) rfl ?_
        refine VList.go0 (n' := 19) rfl rfl (.move _ _ rfl) rfl ?_
        refine VList.go0 (n' := 20) rfl rfl (.extract _ _ _ _ rfl rfl) rfl ?_
        refine VList.go0 (n' := 21) rfl rfl (.extract _ _ _ _ rfl rfl) rfl ?_
        refine VList.go0 (n' := 22) rfl rfl (.assign _ _ rfl) rfl ?_
        refine VList.go0 (n' := 23) rfl rfl (.assign _ _ rfl) rfl ?_
        refine VList.nil (Then.go ?_)
        refine VCode.join (α := (List Int)) (fun (Q : (List Int)) => (2, sl [(2, .ptr 0 (0)), (4, .ptr 1 (0)), (6, vS (Q))], en [(0, ⟨2, [vB (n), vS (A)], true⟩), (1, ⟨2, [vB (false), vS ([])], true⟩)])) (fun (Q : (List Int)) => (norm Q ∧ Q.length ≤ 1000000000) ∧ sg n (val Q) = shZ (zOf n A) k) ?_ ?_
        · skip
          refine VCode.seq ?_
          refine VCode.region ?_
          refine VList.go0 (n' := 24) rfl rfl (.fieldAddr _ _ _ _ _ _ _ _ rfl P_fld24_0) rfl ?_
          refine VList.go0 (n' := 25) rfl rfl (.load1 _ _ _ _ _ _ rfl rfl P_agg4 rfl) rfl ?_
          refine VList.go0 (n' := 26) rfl rfl (.move _ _ rfl) rfl ?_
          refine VList.split (d := 42) _ rfl (fun hc5 => ?_) (fun hc5 => ?_)
          · (try simp at hc5)
            refine VList.go0 (n' := 27) rfl rfl (.move _ _ rfl) rfl ?_
            refine VList.go0 (n' := 28) rfl rfl (.pick _ _ _ _ _ rfl rfl) rfl ?_
            refine VList.nil (Then.go ?_)
            refine VCode.cond _ rfl (fun hc6 => ?_) (fun hc6 => ?_)
            · replace hc6 := of_decide_eq_true hc6
              refine VCode.region ?_
              refine VList.go0 (n' := 29) rfl rfl (.move _ _ rfl) rfl ?_
              refine VList.go1 (n' := 30) rfl rfl (Eff.lits1 rfl Try.underlying22 P_zero51 P_sz51) rfl ?_
              refine VList.goN (n' := 31) rfl rfl (.callV _ _ _ _ _ _ rfl (ress_cons rfl (ress_cons (res_row rfl (by first | omega | (simp; done) | (simp; omega) | (simp [*]; done) | (simp [*]; omega))) ress_nil)) (f52 _ _ (by first | omega | (simp; done) | (simp; omega)) (by first | omega | (simp; done) | (simp; omega)) (ok32_dg _) (ok32_cons.2 ⟨by omega, ok32_nil⟩))) rfl ?_
              refine VList.go0 (n' := 32) rfl rfl (.assign _ _ rfl) rfl ?_
              exact VList.nil (Joins.go (dg (val (dg (val A / 2 ^ (-(if (-4096) > k then (-4096) else k)).toNat)) + val ([1]))) ⟨⟨norm_dg _, add_len (ok32_dg _) (B := [1]) (ok32_cons.2 ⟨by omega, ok32_nil⟩) hq1 (by simp)⟩, shr_plus vA vl (by omega) rfl hc5 hc6⟩ (Weak.of (show 0 ≤ 2 by decide) ⟨⟨rfl, rfl⟩, ⟨⟨rfl, rfl⟩, ⟨⟨rfl, rfl⟩, trivial⟩⟩⟩ ⟨⟨rfl, (show 0 < 2 by decide), (by intro v_ hv_; simp at hv_; rcases hv_ with rfl | rfl <;> rfl)⟩, ⟨⟨rfl, (show 1 < 2 by decide), (by intro v_ hv_; simp at hv_; rcases hv_ with rfl | rfl <;> rfl)⟩, trivial⟩⟩))
            · replace hc6 := of_decide_eq_false hc6
              exact VCode.skip (Joins.go (dg (val A / 2 ^ (-(if (-4096) > k then (-4096) else k)).toNat)) ⟨⟨norm_dg _, (by omega)⟩, shr_same vA vl (by omega) rfl (fun h => hc6 h.2)⟩ (Weak.of (show 0 ≤ 2 by decide) ⟨⟨rfl, rfl⟩, ⟨⟨rfl, rfl⟩, ⟨⟨rfl, rfl⟩, trivial⟩⟩⟩ ⟨⟨rfl, (show 0 < 2 by decide), (by intro v_ hv_; simp at hv_; rcases hv_ with rfl | rfl <;> rfl)⟩, ⟨⟨rfl, (show 1 < 2 by decide), (by intro v_ hv_; simp at hv_; rcases hv_ with rfl | rfl <;> rfl)⟩, trivial⟩⟩))
          · (try simp at hc5)
            refine VList.skip (n' := 27) rfl rfl rfl ?_
            refine VList.go0 (n' := 28) rfl rfl (.pick _ _ _ _ _ rfl rfl) rfl ?_
            refine VList.nil (Then.go ?_)
            refine VCode.cond _ rfl (fun h_ => Bool.noConfusion h_) (fun _ => ?_)
            exact VCode.skip (Joins.go (dg (val A / 2 ^ (-(if (-4096) > k then (-4096) else k)).toNat)) ⟨⟨norm_dg _, (by omega)⟩, shr_same vA vl (by omega) rfl (fun h => Bool.noConfusion (h.1.symm.trans hc5))⟩ (Weak.of (show 0 ≤ 2 by decide) ⟨⟨rfl, rfl⟩, ⟨⟨rfl, rfl⟩, ⟨⟨rfl, rfl⟩, trivial⟩⟩⟩ ⟨⟨rfl, (show 0 < 2 by decide), (by intro v_ hv_; simp at hv_; rcases hv_ with rfl | rfl <;> rfl)⟩, ⟨⟨rfl, (show 1 < 2 by decide), (by intro v_ hv_; simp at hv_; rcases hv_ with rfl | rfl <;> rfl)⟩, trivial⟩⟩))
        · intro Q hok
          obtain ⟨⟨nQ, lQ⟩, j3⟩ := hok
          show VCode Try.prog 0 _ 2 (sl [(2, .ptr 0 (0)), (4, .ptr 1 (0)), (6, vS (Q))]) (en [(0, ⟨2, [vB (n), vS (A)], true⟩), (1, ⟨2, [vB (false), vS ([])], true⟩)]) _
          refine VCode.seq ?_
          refine VCode.region ?_
          refine VList.go0 (n' := 3) rfl rfl (.fieldAddr _ _ _ _ _ _ _ _ rfl P_fld24_0) rfl ?_
          refine VList.go0 (n' := 4) rfl rfl (.load1 _ _ _ _ _ _ rfl rfl P_agg4 rfl) rfl ?_
          refine VList.go0 (n' := 5) rfl rfl (.move _ _ rfl) rfl ?_
          refine VList.go0 (n' := 6) rfl rfl (Eff.callV0 rfl (ress_cons rfl (ress_cons rfl ress_nil)) (f54 _ _ (lQ) (nQ.1)) rfl) rfl ?_
          refine VList.go0 (n' := 7) rfl rfl (.extract _ _ _ _ rfl rfl) rfl ?_
          refine VList.go0 (n' := 8) rfl rfl (.extract _ _ _ _ rfl rfl) rfl ?_
          refine VList.goS (n' := 9) rfl rfl (.store _ _ _ _ _ _ _ rfl rfl rfl rfl P_sz24 (Nat.le_of_ble_eq_true rfl) rfl) rfl ?_
          refine VList.go0 (n' := 10) rfl rfl (.assign _ _ rfl) rfl ?_
          refine VList.nil (Then.go ?_)
          exact VCode.ret (⟨trivial, [.agg [boolB (zN (sg (n) (val (Q)))), u32S (zL (sg (n) (val (Q))))], numB .i64 (zE (sg (n) (val (Q))))], (resVars_cons (resVar_cell rfl rfl P_agg24 P_sz24 (Nat.le_of_ble_eq_true rfl) rfl) (resVars_cons (resVar_tmp rfl rfl) resVars_nil)), (by rw [gR_true hc1, ← j3]; rfl)⟩)
end Go.VL
