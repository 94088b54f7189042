/- IntegerReads returns true for every input and leaves the input as it was. No condition. -/
import Derived.Test.YtipajnobkladeaaK3
/- Walks over the Go functions, printed by a program of this session over the kit's print, and by hand. -/
set_option linter.unusedVariables false
set_option linter.unusedSimpArgs false
namespace Go.VL
open Go.Proofs
theorem f6 (n : Bool) (A : List Int) (s : ByteArray) (hA : A.length ≤ 9223372036854775807) (oA : ok32 A) (hs : s.size ≤ 9223372036854775807) : VF Try.prog 6 [.agg [boolB (n), u32S (A)], .lit (.string (s))] (boolB true) := by
  refine VF_of P_mixed Try.func6 rfl rfl (by kernel_rfl) ?_
  refine VCode.seq ?_
  refine VCode.region ?_
  refine VList.go1 (n' := 1) rfl rfl (.box _ _ _ rfl (List.cons_ne_nil _ _) rfl) rfl ?_
  refine VList.go0 (n' := 2) rfl rfl (.assign _ _ rfl) rfl ?_
  refine VList.nil (Then.go ?_)
  refine VCode.seq ?_
  refine VCode.region ?_
  refine VList.go0 (n' := 3) rfl rfl (.loadS _ _ _ _ _ _ rfl rfl P_agg24 P_sz24 (Nat.le_of_ble_eq_true rfl)) rfl ?_
  refine VList.go0 (n' := 4) rfl rfl (.callF _ _ _ _ _ _ rfl (ress_cons rfl ress_nil) (f22 _ _ (by first | omega | (simp; done) | (simp; omega)) (by first | omega | (simp; done) | (simp; omega))) rfl) rfl ?_
  refine VList.go0 (n' := 5) rfl rfl (.move _ _ rfl) rfl ?_
  refine VList.go0 (n' := 6) rfl rfl (.extract _ _ _ _ rfl rfl) rfl ?_
  refine VList.go0 (n' := 7) rfl rfl (.extract _ _ _ _ rfl rfl) rfl ?_
  refine VList.go0 (n' := 8) rfl rfl (.assign _ _ rfl) rfl ?_
  refine VList.go0 (n' := 9) rfl rfl (.assign _ _ rfl) rfl ?_
  refine VList.nil (Then.go ?_)
  refine VCode.seq ?_
  refine VCode.region ?_
  refine VList.go0 (n' := 10) rfl rfl (.move _ _ rfl) rfl ?_
  refine VList.go0 (n' := 11) rfl rfl (Eff.callV0 rfl (ress_cons rfl ress_nil) (f24 _ (tS_small (fun h => in_of_valid oA h))) rfl) rfl ?_
  refine VList.go0 (n' := 12) rfl rfl (.move _ _ rfl) rfl ?_
  refine VList.go0 (n' := 13) rfl rfl (.extract _ _ _ _ rfl rfl) rfl ?_
  refine VList.go0 (n' := 14) rfl rfl (.extract _ _ _ _ rfl rfl) rfl ?_
  refine VList.go1 (n' := 15) rfl rfl (.alloc _ _ P_zero24 (List.cons_ne_nil _ _)) rfl ?_
  refine VList.goS (n' := 16) rfl rfl (.store _ _ _ _ _ _ _ rfl rfl rfl rfl P_sz24 (Nat.le_of_ble_eq_true rfl) rfl) rfl ?_
  refine VList.go0 (n' := 17) rfl rfl (.assign _ _ rfl) rfl ?_
  refine VList.nil (Then.go ?_)
  refine VCode.seq ?_
  refine VCode.region ?_
  refine VList.go0 (n' := 18) rfl rfl (.callF _ _ _ _ _ _ rfl ress_nil (f20) rfl) rfl ?_
  refine VList.go0 (n' := 19) rfl rfl (.move _ _ rfl) rfl ?_
  refine VList.go0 (n' := 20) rfl rfl (.loadS _ _ _ _ _ _ rfl rfl P_agg24 P_sz24 (Nat.le_of_ble_eq_true rfl)) rfl ?_
  refine VList.go0 (n' := 21) rfl rfl (.callF _ _ _ _ _ _ rfl (ress_cons rfl ress_nil) (f26 _ _ (by first | omega | (simp; done) | (simp; omega))) rfl) rfl ?_
  refine VList.go0 (n' := 22) rfl rfl (.un _ _ _ _ _ rfl rfl) rfl ?_
  refine VList.go0 (n' := 23) rfl rfl (.move _ _ rfl) rfl ?_
  refine VList.split (d := 29) _ rfl (fun hc1 => ?_) (fun hc1 => ?_)
  · replace hc1 := (bnot_t hc1)
    refine VList.skip (n' := 24) rfl rfl rfl ?_
    refine VList.skip (n' := 25) rfl rfl rfl ?_
    refine VList.skip (n' := 26) rfl rfl rfl ?_
    refine VList.skip (n' := 27) rfl rfl rfl ?_
    refine VList.skip (n' := 28) rfl rfl rfl ?_
    refine VList.skip (n' := 29) rfl rfl rfl ?_
    refine VList.skip (n' := 30) rfl rfl rfl ?_
    refine VList.skip (n' := 31) rfl rfl rfl ?_
    refine VList.skip (n' := 32) rfl rfl rfl ?_
    refine VList.skip (n' := 33) rfl rfl rfl ?_
    refine VList.skip (n' := 34) rfl rfl rfl ?_
    refine VList.go0 (n' := 35) rfl rfl (.pick _ _ _ _ _ rfl rfl) rfl ?_
    refine VList.go0 (n' := 36) rfl rfl (.pick _ _ _ _ _ rfl rfl) rfl ?_
    refine VList.go0 (n' := 37) rfl rfl (.assign _ _ rfl) rfl ?_
    refine VList.nil (Then.go ?_)
    refine VCode.seq ?_
    refine VCode.region ?_
    refine VList.go0 (n' := 38) rfl rfl (.move _ _ rfl) rfl ?_
    refine VList.go0 (n' := 39) rfl rfl (Eff.callV0 rfl (ress_cons rfl ress_nil) (f24 _ (by first | omega | (simp; done) | (simp; omega))) rfl) rfl ?_
    refine VList.go0 (n' := 40) rfl rfl (.move _ _ rfl) rfl ?_
    refine VList.go0 (n' := 41) rfl rfl (.extract _ _ _ _ rfl rfl) rfl ?_
    refine VList.go0 (n' := 42) rfl rfl (.extract _ _ _ _ rfl rfl) rfl ?_
    refine VList.go1 (n' := 43) rfl rfl (.alloc _ _ P_zero24 (List.cons_ne_nil _ _)) rfl ?_
    refine VList.goS (n' := 44) rfl rfl (.store _ _ _ _ _ _ _ rfl rfl rfl rfl P_sz24 (Nat.le_of_ble_eq_true rfl) rfl) rfl ?_
    refine VList.go0 (n' := 45) rfl rfl (.assign _ _ rfl) rfl ?_
    refine VList.nil (Then.go ?_)
    refine VCode.seq ?_
    refine VCode.seq ?_
    refine VCode.region ?_
    refine VList.go0 (n' := 46) rfl rfl (.move _ _ rfl) rfl ?_
    refine VList.go0 (n' := 47) rfl rfl (.bin _ _ _ _ _ _ _ _ rfl rfl rfl) rfl ?_
    refine VList.nil (Then.go ?_)
    refine VCode.cond _ rfl (fun hc2 => ?_) (fun hc2 => ?_)
    · replace hc2 := bne_iff_ne.1 hc2
      refine VCode.seq ?_
      refine VCode.region ?_
      refine VList.go0 (n' := 48) rfl rfl (.move _ _ rfl) rfl ?_
      refine VList.go0 (n' := 49) rfl rfl (.assign _ _ rfl) rfl ?_
      refine VList.nil (Then.go ?_)
      exact VCode.ret (Then.ret (⟨trivial, [boolB (true)], (resVars_cons (resVar_tmp rfl rfl) resVars_nil), rfl⟩))
    · replace hc2 := bne_eq_false_iff_eq.1 hc2
      refine VCode.skip (Then.go ?_)
      refine VCode.seq ?_
      refine VCode.region ?_
      refine VList.go0 (n' := 48) rfl rfl (.loadS _ _ _ _ _ _ rfl rfl P_agg24 P_sz24 (Nat.le_of_ble_eq_true rfl)) rfl ?_
      refine VList.go0 (n' := 49) rfl rfl (.callF _ _ _ _ _ _ rfl (ress_cons rfl ress_nil) (f22 _ _ (len_gL' _ _) (ok32_gL _ _)) rfl) rfl ?_
      refine VList.go0 (n' := 50) rfl rfl (.move _ _ rfl) rfl ?_
      refine VList.go0 (n' := 51) rfl rfl (.extract _ _ _ _ rfl rfl) rfl ?_
      refine VList.go0 (n' := 52) rfl rfl (.extract _ _ _ _ rfl rfl) rfl ?_
      refine VList.go0 (n' := 53) rfl rfl (.assign _ _ rfl) rfl ?_
      refine VList.go0 (n' := 54) rfl rfl (.assign _ _ rfl) rfl ?_
      refine VList.nil (Then.go ?_)
      refine VCode.seq ?_
      refine VCode.region ?_
      refine VList.go0 (n' := 55) rfl rfl (.move _ _ rfl) rfl ?_
      refine VList.go0 (n' := 56) rfl rfl (.move _ _ rfl) rfl ?_
      refine VList.go0 (n' := 57) rfl rfl (.move _ _ rfl) rfl ?_
      refine VList.go0 (n' := 58) rfl rfl (Eff.castB (show (tE (validB (gN (okS (s)) (pZ (s))) (gL (okS (s)) (pZ (s)))) == 0) = true from beq_yes (tE_true (valid_gg _ _))) (.bin _ _ _ _ _ _ _ _ rfl rfl rfl)) rfl ?_
      refine VList.go0 (n' := 59) rfl rfl (.pick _ _ _ _ _ rfl rfl) rfl ?_
      refine VList.go0 (n' := 60) rfl rfl (.move _ _ rfl) rfl ?_
      refine VList.go0 (n' := 61) rfl rfl (.move _ _ rfl) rfl ?_
      refine VList.go0 (n' := 62) rfl rfl (.move _ _ rfl) rfl ?_
      refine VList.go0 (n' := 63) rfl rfl (Eff.castB (show ((tS (validB (gN (okS (s)) (pZ (s))) (gL (okS (s)) (pZ (s)))) (zOf (gN (okS (s)) (pZ (s))) (gL (okS (s)) (pZ (s))))).toList == (s).toList) = true from str_refl (rd3 (by assumption))) (.bin _ _ _ _ _ _ _ _ rfl rfl rfl)) rfl ?_
      refine VList.go0 (n' := 64) rfl rfl (.pick _ _ _ _ _ rfl rfl) rfl ?_
      refine VList.go0 (n' := 65) rfl rfl (.assign _ _ rfl) rfl ?_
      refine VList.nil (Then.go ?_)
      exact VCode.ret (⟨trivial, [boolB (true)], (resVars_cons (resVar_tmp rfl rfl) resVars_nil), rfl⟩)
  · replace hc1 := (bnot_f hc1)
    refine VList.go0 (n' := 24) rfl rfl (.move _ _ rfl) rfl ?_
    refine VList.go0 (n' := 25) rfl rfl (Eff.castB (show (tE (validB (n) (A)) == 0) = true from beq_yes (tE_true hc1)) (.bin _ _ _ _ _ _ _ _ rfl rfl rfl)) rfl ?_
    refine VList.go0 (n' := 26) rfl rfl (.move _ _ rfl) rfl ?_
    refine VList.go0 (n' := 27) rfl rfl (.move _ _ rfl) rfl ?_
    refine VList.go0 (n' := 28) rfl rfl (Eff.castB (show (prE (okS (tS (validB (n) (A)) (zOf (n) (A)))) (pZ (tS (validB (n) (A)) (zOf (n) (A)))) == 0) = true from beq_yes (rd1 oA hc1)) (.bin _ _ _ _ _ _ _ _ rfl rfl rfl)) rfl ?_
    refine VList.go0 (n' := 29) rfl rfl (.pick _ _ _ _ _ rfl rfl) rfl ?_
    refine VList.go0 (n' := 30) rfl rfl (.move _ _ rfl) rfl ?_
    refine VList.go0 (n' := 31) rfl rfl (.loadS _ _ _ _ _ _ rfl rfl P_agg24 P_sz24 (Nat.le_of_ble_eq_true rfl)) rfl ?_
    refine VList.go0 (n' := 32) rfl rfl (.loadS _ _ _ _ _ _ rfl rfl P_agg24 P_sz24 (Nat.le_of_ble_eq_true rfl)) rfl ?_
    refine VList.go0 (n' := 33) rfl rfl (Eff.castB (show (sameB (gN (okS (tS (validB (n) (A)) (zOf (n) (A)))) (pZ (tS (validB (n) (A)) (zOf (n) (A))))) (gL (okS (tS (validB (n) (A)) (zOf (n) (A)))) (pZ (tS (validB (n) (A)) (zOf (n) (A))))) (n) (A)) = true from rd2 oA hc1) (.callF _ _ _ _ _ _ rfl (ress_cons rfl (ress_cons rfl ress_nil)) (f21 _ _ _ _ (len_gL' _ _) (by first | omega | (simp; done) | (simp; omega))) rfl)) rfl ?_
    refine VList.go0 (n' := 34) rfl rfl (.pick _ _ _ _ _ rfl rfl) rfl ?_
    refine VList.go0 (n' := 35) rfl rfl (.pick _ _ _ _ _ rfl rfl) rfl ?_
    refine VList.go0 (n' := 36) rfl rfl (.pick _ _ _ _ _ rfl rfl) rfl ?_
    refine VList.go0 (n' := 37) rfl rfl (.assign _ _ rfl) rfl ?_
    refine VList.nil (Then.go ?_)
    refine VCode.seq ?_
    refine VCode.region ?_
    refine VList.go0 (n' := 38) rfl rfl (.move _ _ rfl) rfl ?_
    refine VList.go0 (n' := 39) rfl rfl (Eff.callV0 rfl (ress_cons rfl ress_nil) (f24 _ (by first | omega | (simp; done) | (simp; omega))) rfl) rfl ?_
    refine VList.go0 (n' := 40) rfl rfl (.move _ _ rfl) rfl ?_
    refine VList.go0 (n' := 41) rfl rfl (.extract _ _ _ _ rfl rfl) rfl ?_
    refine VList.go0 (n' := 42) rfl rfl (.extract _ _ _ _ rfl rfl) rfl ?_
    refine VList.go1 (n' := 43) rfl rfl (.alloc _ _ P_zero24 (List.cons_ne_nil _ _)) rfl ?_
    refine VList.goS (n' := 44) rfl rfl (.store _ _ _ _ _ _ _ rfl rfl rfl rfl P_sz24 (Nat.le_of_ble_eq_true rfl) rfl) rfl ?_
    refine VList.go0 (n' := 45) rfl rfl (.assign _ _ rfl) rfl ?_
    refine VList.nil (Then.go ?_)
    refine VCode.seq ?_
    refine VCode.seq ?_
    refine VCode.region ?_
    refine VList.go0 (n' := 46) rfl rfl (.move _ _ rfl) rfl ?_
    refine VList.go0 (n' := 47) rfl rfl (.bin _ _ _ _ _ _ _ _ rfl rfl rfl) rfl ?_
    refine VList.nil (Then.go ?_)
    refine VCode.cond _ rfl (fun hc3 => ?_) (fun hc3 => ?_)
    · replace hc3 := bne_iff_ne.1 hc3
      refine VCode.seq ?_
      refine VCode.region ?_
      refine VList.go0 (n' := 48) rfl rfl (.move _ _ rfl) rfl ?_
      refine VList.go0 (n' := 49) rfl rfl (.assign _ _ rfl) rfl ?_
      refine VList.nil (Then.go ?_)
      exact VCode.ret (Then.ret (⟨trivial, [boolB (true)], (resVars_cons (resVar_tmp rfl rfl) resVars_nil), rfl⟩))
    · replace hc3 := bne_eq_false_iff_eq.1 hc3
      refine VCode.skip (Then.go ?_)
      refine VCode.seq ?_
      refine VCode.region ?_
      refine VList.go0 (n' := 48) rfl rfl (.loadS _ _ _ _ _ _ rfl rfl P_agg24 P_sz24 (Nat.le_of_ble_eq_true rfl)) rfl ?_
      refine VList.go0 (n' := 49) rfl rfl (.callF _ _ _ _ _ _ rfl (ress_cons rfl ress_nil) (f22 _ _ (len_gL' _ _) (ok32_gL _ _)) rfl) rfl ?_
      refine VList.go0 (n' := 50) rfl rfl (.move _ _ rfl) rfl ?_
      refine VList.go0 (n' := 51) rfl rfl (.extract _ _ _ _ rfl rfl) rfl ?_
      refine VList.go0 (n' := 52) rfl rfl (.extract _ _ _ _ rfl rfl) rfl ?_
      refine VList.go0 (n' := 53) rfl rfl (.assign _ _ rfl) rfl ?_
      refine VList.go0 (n' := 54) rfl rfl (.assign _ _ rfl) rfl ?_
      refine VList.nil (Then.go ?_)
      refine VCode.seq ?_
      refine VCode.region ?_
      refine VList.go0 (n' := 55) rfl rfl (.move _ _ rfl) rfl ?_
      refine VList.go0 (n' := 56) rfl rfl (.move _ _ rfl) rfl ?_
      refine VList.go0 (n' := 57) rfl rfl (.move _ _ rfl) rfl ?_
      refine VList.go0 (n' := 58) rfl rfl (Eff.castB (show (tE (validB (gN (okS (s)) (pZ (s))) (gL (okS (s)) (pZ (s)))) == 0) = true from beq_yes (tE_true (valid_gg _ _))) (.bin _ _ _ _ _ _ _ _ rfl rfl rfl)) rfl ?_
      refine VList.go0 (n' := 59) rfl rfl (.pick _ _ _ _ _ rfl rfl) rfl ?_
      refine VList.go0 (n' := 60) rfl rfl (.move _ _ rfl) rfl ?_
      refine VList.go0 (n' := 61) rfl rfl (.move _ _ rfl) rfl ?_
      refine VList.go0 (n' := 62) rfl rfl (.move _ _ rfl) rfl ?_
      refine VList.go0 (n' := 63) rfl rfl (Eff.castB (show ((tS (validB (gN (okS (s)) (pZ (s))) (gL (okS (s)) (pZ (s)))) (zOf (gN (okS (s)) (pZ (s))) (gL (okS (s)) (pZ (s))))).toList == (s).toList) = true from str_refl (rd3 (by assumption))) (.bin _ _ _ _ _ _ _ _ rfl rfl rfl)) rfl ?_
      refine VList.go0 (n' := 64) rfl rfl (.pick _ _ _ _ _ rfl rfl) rfl ?_
      refine VList.go0 (n' := 65) rfl rfl (.assign _ _ rfl) rfl ?_
      refine VList.nil (Then.go ?_)
      exact VCode.ret (⟨trivial, [boolB (true)], (resVars_cons (resVar_tmp rfl rfl) resVars_nil), rfl⟩)
end Go.VL

set_option linter.unusedVariables false
set_option linter.unusedSimpArgs false
namespace Go.Proofs.Ytipajnobkladeaa
open Go.ChangeShapes Go.WideShapes Go.ChangeAt Go.RowKit Go.VL

set_option maxRecDepth 100000 in
theorem integerReads_lifted (os : Os) (started : os.Started) (H : Type) (enc : TypeId × Value → H) :
    ReturnsInHanded {} Try.checked os 6 .any (Rows.integerReadsSpec.pre6 enc Try.prog Try.f6 Rows.integerReadsRow.domain false) (Rows.integerReadsSpec.post enc Try.prog Try.f6 false true false false) := by
  refine returnsInHanded_of_change (C := Try.checked) Try_own started (by kernel_rfl) Try.func6
    (ChangeSpec.witness6 (enc := enc) (C := Try.checked) false ⟨#[], #[.agg #[.bool false, .slice none 0 0], .string ⟨#[]⟩], []⟩ 8 (by kernel_rfl) (by kernel_rfl) (by kernel_rfl) (by kernel_rfl)) ?_
  intro W base args ds gs before hval0 hW hcnd _
  have hval : ∀ (j : Nat) t v, Try.f6.params[j]? = some t → args[j]? = some v → Value.okWide Try.prog W .any base t v := hval0
  have hW' := hW
  obtain ⟨p, q, hA0, hV, rfl, hfz, hnd⟩ := hW
  have hA : DataW.TrodAll enc Try.prog W 0 (fun _ => true) true Try.f6.params.toList args.toList ds p := hA0
  have hA1 := hA
  rw [Try.params6] at hA hval
  obtain ⟨v0, v1, d0, d1, p0, p1, rfl, rfl, rfl, h0, h1⟩ := trodAll_two hA
  obtain ⟨rfl, rfl⟩ := trodVars_none hV
  obtain ⟨n0, L0, r0, o0, l0⟩ := open_api (hval 0 24 v0 rfl rfl) h0
  obtain ⟨s1, r1, l1⟩ := open_str (hval 1 9 v1 rfl rfl) h1
  simp only [List.append_nil] at hW'
  have hlt : ∀ x ∈ p0 ++ p1, x.block < W.heap.size := fun x hx => hW'.lt x hx
  have hread : ∀ t ∈ Try.f6.params.toList, Try.prog.readableRec t = true ∧ t < Try.prog.types.size := by rw [Try.params6]; exact types_cons T24 (types_cons T9 (types_nil))
  refine ((f6 n0 L0 s1 l0 o0 l1).runs (xs := [v0, v1]) rfl (reps_cons r0 (reps_cons r1 reps_nil))).mono fun e W' ⟨he, hb⟩ => ?_
  subst he
  exact ⟨_, rfl, post_of_below (pa := _) (pv := []) hW' (fun _ _ _ => trodAll_mk1 shut_true) (fun sp hsp => args_stay Try_laidOut hb hread hA1 hlt hsp) (fun _ _ => rfl) (by simp) hb (ok_one (by kernel_rfl) rfl ok_true)⟩

theorem integerReads_facts : joinedFacts Try.pinned.checked.prog 6 Try.f6 Rows.integerReadsSpec Rows.integerReadsRow = true := by
  unfold joinedFacts
  rw [head_may, head_lifts, head_make]
  kernel_rfl

theorem integerReads_holds : Rows.IntegerReadsSaid :=
  OpenClaim.holds_of_wide 6 Try.f6 rfl rfl rfl rfl rfl rfl rfl ⟨rfl, rfl, rfl, rfl, rfl⟩ rfl rfl rfl rfl rfl (by kernel_rfl) Try.func6 integerReads_facts
    (of_decide_eq_true (by kernel_rfl)) (by unfold Func.isWrapper; rw [if_neg (of_decide_eq_false (by kernel_rfl))]; exact ⟨rfl, rfl⟩)
    (fun os started H enc _ => integerReads_lifted os started H enc)

end Go.Proofs.Ytipajnobkladeaa
