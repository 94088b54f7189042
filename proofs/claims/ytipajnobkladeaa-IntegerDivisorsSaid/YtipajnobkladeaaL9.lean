/- IntegerDivisors returns true for every input and leaves the input as it was. No condition. -/
import Derived.Test.YtipajnobkladeaaK5
/- Walks over the Go functions, printed by a program of this session over the kit's print, and by hand. -/
set_option linter.unusedVariables false
set_option linter.unusedSimpArgs false
namespace Go.VL
open Go.Proofs
theorem f9 (n : Bool) (A : List Int) (m : Bool) (B : List Int) (hA : A.length ≤ 9223372036854775807) (hB : B.length ≤ 9223372036854775807) (oA : ok32 A) (oB : ok32 B) : VF Try.prog 9 [.agg [boolB (n), u32S (A)], .agg [boolB (m), u32S (B)]] (boolB true) := by
  refine VF_of P_mixed Try.func9 rfl rfl (by kernel_rfl) ?_
  refine VCode.seq ?_
  refine VCode.region ?_
  refine VList.go1 (n' := 1) rfl rfl (.box _ _ _ rfl (List.cons_ne_nil _ _) rfl) rfl ?_
  refine VList.go1 (n' := 2) rfl rfl (.box _ _ _ rfl (List.cons_ne_nil _ _) rfl) rfl ?_
  refine VList.go0 (n' := 3) rfl rfl (.assign _ _ rfl) rfl ?_
  refine VList.nil (Then.go ?_)
  refine VCode.seq ?_
  refine VCode.region ?_
  refine VList.go0 (n' := 4) rfl rfl (.loadS _ _ _ _ _ _ rfl rfl P_agg24 P_sz24 (Nat.le_of_ble_eq_true rfl)) rfl ?_
  refine VList.go0 (n' := 5) rfl rfl (.loadS _ _ _ _ _ _ rfl rfl P_agg24 P_sz24 (Nat.le_of_ble_eq_true rfl)) rfl ?_
  refine VList.go0 (n' := 6) rfl rfl (Eff.callV0 rfl (ress_cons rfl (ress_cons rfl ress_nil)) (f31 _ _ _ _ (by first | with_reducible assumption | with_reducible exact len_gL' _ _ | with_reducible exact len_zL' _) (by first | with_reducible assumption | with_reducible exact len_gL' _ _ | with_reducible exact len_zL' _) (by first | with_reducible assumption | with_reducible exact ok32_gL _ _ | with_reducible exact ok32_zL _) (by first | with_reducible assumption | with_reducible exact ok32_gL _ _ | with_reducible exact ok32_zL _)) rfl) rfl ?_
  refine VList.go0 (n' := 7) rfl rfl (.move _ _ rfl) rfl ?_
  refine VList.go0 (n' := 8) rfl rfl (.extract _ _ _ _ rfl rfl) rfl ?_
  refine VList.go0 (n' := 9) rfl rfl (.extract _ _ _ _ rfl rfl) rfl ?_
  refine VList.go1 (n' := 10) rfl rfl (.alloc _ _ P_zero24 (List.cons_ne_nil _ _)) rfl ?_
  refine VList.goS (n' := 11) rfl rfl (.store _ _ _ _ _ _ _ rfl rfl rfl rfl P_sz24 (Nat.le_of_ble_eq_true rfl) rfl) rfl ?_
  refine VList.go0 (n' := 12) rfl rfl (.assign _ _ rfl) rfl ?_
  refine VList.nil (Then.go ?_)
  refine VCode.seq ?_
  refine VCode.region ?_
  refine VList.go0 (n' := 13) rfl rfl (.loadS _ _ _ _ _ _ rfl rfl P_agg24 P_sz24 (Nat.le_of_ble_eq_true rfl)) rfl ?_
  refine VList.go0 (n' := 14) rfl rfl (.loadS _ _ _ _ _ _ rfl rfl P_agg24 P_sz24 (Nat.le_of_ble_eq_true rfl)) rfl ?_
  refine VList.go0 (n' := 15) rfl rfl (Eff.callV0 rfl (ress_cons rfl (ress_cons rfl ress_nil)) (f32 _ _ _ _ (by first | with_reducible assumption | with_reducible exact len_gL' _ _ | with_reducible exact len_zL' _) (by first | with_reducible assumption | with_reducible exact len_gL' _ _ | with_reducible exact len_zL' _) (by first | with_reducible assumption | with_reducible exact ok32_gL _ _ | with_reducible exact ok32_zL _) (by first | with_reducible assumption | with_reducible exact ok32_gL _ _ | with_reducible exact ok32_zL _)) rfl) rfl ?_
  refine VList.go0 (n' := 16) rfl rfl (.move _ _ rfl) rfl ?_
  refine VList.go0 (n' := 17) rfl rfl (.extract _ _ _ _ rfl rfl) rfl ?_
  refine VList.go0 (n' := 18) rfl rfl (.extract _ _ _ _ rfl rfl) rfl ?_
  refine VList.go1 (n' := 19) rfl rfl (.alloc _ _ P_zero24 (List.cons_ne_nil _ _)) rfl ?_
  refine VList.goS (n' := 20) rfl rfl (.store _ _ _ _ _ _ _ rfl rfl rfl rfl P_sz24 (Nat.le_of_ble_eq_true rfl) rfl) rfl ?_
  refine VList.go0 (n' := 21) rfl rfl (.assign _ _ rfl) rfl ?_
  refine VList.nil (Then.go ?_)
  refine VCode.seq ?_
  refine VCode.region ?_
  refine VList.go0 (n' := 22) rfl rfl (.loadS _ _ _ _ _ _ rfl rfl P_agg24 P_sz24 (Nat.le_of_ble_eq_true rfl)) rfl ?_
  refine VList.go0 (n' := 23) rfl rfl (.loadS _ _ _ _ _ _ rfl rfl P_agg24 P_sz24 (Nat.le_of_ble_eq_true rfl)) rfl ?_
  refine VList.go0 (n' := 24) rfl rfl (.callF _ _ _ _ _ _ rfl (ress_cons rfl (ress_cons rfl ress_nil)) (f33 _ _ _ _ (by first | with_reducible assumption | with_reducible exact len_gL' _ _ | with_reducible exact len_zL' _) (by first | with_reducible assumption | with_reducible exact len_gL' _ _ | with_reducible exact len_zL' _) (by first | with_reducible assumption | with_reducible exact ok32_gL _ _ | with_reducible exact ok32_zL _) (by first | with_reducible assumption | with_reducible exact ok32_gL _ _ | with_reducible exact ok32_zL _)) rfl) rfl ?_
  refine VList.go0 (n' := 25) rfl rfl (.move _ _ rfl) rfl ?_
  refine VList.go0 (n' := 26) rfl rfl (.extract _ _ _ _ rfl rfl) rfl ?_
  refine VList.go0 (n' := 27) rfl rfl (.extract _ _ _ _ rfl rfl) rfl ?_
  refine VList.go0 (n' := 28) rfl rfl (.assign _ _ rfl) rfl ?_
  refine VList.go0 (n' := 29) rfl rfl (.assign _ _ rfl) rfl ?_
  refine VList.nil (Then.go ?_)
  refine VCode.seq ?_
  refine VCode.region ?_
  refine VList.go0 (n' := 30) rfl rfl (.loadS _ _ _ _ _ _ rfl rfl P_agg24 P_sz24 (Nat.le_of_ble_eq_true rfl)) rfl ?_
  refine VList.go0 (n' := 31) rfl rfl (.loadS _ _ _ _ _ _ rfl rfl P_agg24 P_sz24 (Nat.le_of_ble_eq_true rfl)) rfl ?_
  refine VList.go0 (n' := 32) rfl rfl (.callF _ _ _ _ _ _ rfl (ress_cons rfl (ress_cons rfl ress_nil)) (f34 _ _ _ _ (by first | with_reducible assumption | with_reducible exact len_gL' _ _ | with_reducible exact len_zL' _) (by first | with_reducible assumption | with_reducible exact len_gL' _ _ | with_reducible exact len_zL' _) (by first | with_reducible assumption | with_reducible exact ok32_gL _ _ | with_reducible exact ok32_zL _) (by first | with_reducible assumption | with_reducible exact ok32_gL _ _ | with_reducible exact ok32_zL _)) rfl) rfl ?_
  refine VList.go0 (n' := 33) rfl rfl (.move _ _ rfl) rfl ?_
  refine VList.go0 (n' := 34) rfl rfl (.extract _ _ _ _ rfl rfl) rfl ?_
  refine VList.go0 (n' := 35) rfl rfl (.extract _ _ _ _ rfl rfl) rfl ?_
  refine VList.go0 (n' := 36) rfl rfl (.assign _ _ rfl) rfl ?_
  refine VList.go0 (n' := 37) rfl rfl (.assign _ _ rfl) rfl ?_
  refine VList.nil (Then.go ?_)
  refine VCode.seq ?_
  refine VCode.region ?_
  refine VList.go0 (n' := 38) rfl rfl (.callF _ _ _ _ _ _ rfl ress_nil (f20) rfl) rfl ?_
  refine VList.go0 (n' := 39) rfl rfl (.move _ _ rfl) rfl ?_
  refine VList.go0 (n' := 40) rfl rfl (.move _ _ rfl) rfl ?_
  refine VList.go0 (n' := 41) rfl rfl (.move _ _ rfl) rfl ?_
  refine VList.go0 (n' := 42) rfl rfl (Eff.castB (show (gE (validB (n) (A) && validB (m) (B)) (((Int.gcd (zOf (n) (A)) (zOf (m) (B)) : Nat) : Int)) == gE (validB (n) (A) && validB (m) (B)) (((Int.gcd (zOf (n) (A)) (zOf (m) (B)) : Nat) : Int))) = true from beq_yes rfl) (.bin _ _ _ _ _ _ _ _ rfl rfl rfl)) rfl ?_
  refine VList.go0 (n' := 43) rfl rfl (.pick _ _ _ _ _ rfl rfl) rfl ?_
  refine VList.go0 (n' := 44) rfl rfl (.move _ _ rfl) rfl ?_
  refine VList.go0 (n' := 45) rfl rfl (.loadS _ _ _ _ _ _ rfl rfl P_agg24 P_sz24 (Nat.le_of_ble_eq_true rfl)) rfl ?_
  refine VList.go0 (n' := 46) rfl rfl (.loadS _ _ _ _ _ _ rfl rfl P_agg24 P_sz24 (Nat.le_of_ble_eq_true rfl)) rfl ?_
  refine VList.go0 (n' := 47) rfl rfl (Eff.castB (show (sameB (gN (validB (n) (A) && validB (m) (B)) (((Int.gcd (zOf (n) (A)) (zOf (m) (B)) : Nat) : Int))) (gL (validB (n) (A) && validB (m) (B)) (((Int.gcd (zOf (n) (A)) (zOf (m) (B)) : Nat) : Int))) (gN (validB (n) (A) && validB (m) (B)) (((Int.gcd (zOf (n) (A)) (zOf (m) (B)) : Nat) : Int))) (gL (validB (n) (A) && validB (m) (B)) (((Int.gcd (zOf (n) (A)) (zOf (m) (B)) : Nat) : Int)))) = true from sameB_refl _ _) (.callF _ _ _ _ _ _ rfl (ress_cons rfl (ress_cons rfl ress_nil)) (f21 _ _ _ _ (by first | with_reducible assumption | with_reducible exact len_gL' _ _ | with_reducible exact len_zL' _) (by first | with_reducible assumption | with_reducible exact len_gL' _ _ | with_reducible exact len_zL' _)) rfl)) rfl ?_
  refine VList.go0 (n' := 48) rfl rfl (.pick _ _ _ _ _ rfl rfl) rfl ?_
  refine VList.go0 (n' := 49) rfl rfl (.move _ _ rfl) rfl ?_
  refine VList.go0 (n' := 50) rfl rfl (.move _ _ rfl) rfl ?_
  refine VList.go0 (n' := 51) rfl rfl (.move _ _ rfl) rfl ?_
  refine VList.go0 (n' := 52) rfl rfl (Eff.castB (show (cE (validB (n) (A) && validB (m) (B)) == cE (validB (n) (A) && validB (m) (B))) = true from beq_yes rfl) (.bin _ _ _ _ _ _ _ _ rfl rfl rfl)) rfl ?_
  refine VList.go0 (n' := 53) rfl rfl (.pick _ _ _ _ _ rfl rfl) rfl ?_
  refine VList.go0 (n' := 54) rfl rfl (.move _ _ rfl) rfl ?_
  refine VList.go0 (n' := 55) rfl rfl (.move _ _ rfl) rfl ?_
  refine VList.go0 (n' := 56) rfl rfl (.move _ _ rfl) rfl ?_
  refine VList.go0 (n' := 57) rfl rfl (Eff.castB (show (cC (validB (n) (A) && validB (m) (B)) (zOf (n) (A)) (zOf (m) (B)) == cC (validB (n) (A) && validB (m) (B)) (zOf (n) (A)) (zOf (m) (B))) = true from beq_yes rfl) (.bin _ _ _ _ _ _ _ _ rfl rfl rfl)) rfl ?_
  refine VList.go0 (n' := 58) rfl rfl (.pick _ _ _ _ _ rfl rfl) rfl ?_
  refine VList.go0 (n' := 59) rfl rfl (.assign _ _ rfl) rfl ?_
  refine VList.nil (Then.go ?_)
  exact VCode.ret (⟨trivial, [boolB (true)], (resVars_cons (resVar_tmp rfl rfl) resVars_nil), rfl⟩)
end Go.VL

set_option linter.unusedVariables false
set_option linter.unusedSimpArgs false
namespace Go.Proofs.Ytipajnobkladeaa
open Go.ChangeShapes Go.WideShapes Go.ChangeAt Go.RowKit Go.VL

set_option maxRecDepth 100000 in
theorem integerDivisors_lifted (os : Os) (started : os.Started) (H : Type) (enc : TypeId × Value → H) :
    ReturnsInHanded {} Try.checked os 9 .any (Rows.integerDivisorsSpec.pre6 enc Try.prog Try.f9 Rows.integerDivisorsRow.domain false) (Rows.integerDivisorsSpec.post enc Try.prog Try.f9 false true false false) := by
  refine returnsInHanded_of_change (C := Try.checked) Try_own started (by kernel_rfl) Try.func9
    (ChangeSpec.witness6 (enc := enc) (C := Try.checked) false ⟨#[], #[.agg #[.bool false, .slice none 0 0], .agg #[.bool false, .slice none 0 0]], []⟩ 8 (by kernel_rfl) (by kernel_rfl) (by kernel_rfl) (by kernel_rfl)) ?_
  intro W base args ds gs before hval0 hW hcnd _
  have hval : ∀ (j : Nat) t v, Try.f9.params[j]? = some t → args[j]? = some v → Value.okWide Try.prog W .any base t v := hval0
  have hW' := hW
  obtain ⟨p, q, hA0, hV, rfl, hfz, hnd⟩ := hW
  have hA : DataW.TrodAll enc Try.prog W 0 (fun _ => true) true Try.f9.params.toList args.toList ds p := hA0
  have hA1 := hA
  rw [Try.params9] at hA hval
  obtain ⟨v0, v1, d0, d1, p0, p1, rfl, rfl, rfl, h0, h1⟩ := trodAll_two hA
  obtain ⟨rfl, rfl⟩ := trodVars_none hV
  obtain ⟨n0, L0, r0, o0, l0⟩ := open_api (hval 0 24 v0 rfl rfl) h0
  obtain ⟨n1, L1, r1, o1, l1⟩ := open_api (hval 1 24 v1 rfl rfl) h1
  simp only [List.append_nil] at hW'
  have hlt : ∀ x ∈ p0 ++ p1, x.block < W.heap.size := fun x hx => hW'.lt x hx
  have hread : ∀ t ∈ Try.f9.params.toList, Try.prog.readableRec t = true ∧ t < Try.prog.types.size := by rw [Try.params9]; exact types_cons T24 (types_cons T24 (types_nil))
  refine ((f9 n0 L0 n1 L1 l0 l1 o0 o1).runs (xs := [v0, v1]) rfl (reps_cons r0 (reps_cons r1 reps_nil))).mono fun e W' ⟨he, hb⟩ => ?_
  subst he
  exact ⟨_, rfl, post_of_below (pa := _) (pv := []) hW' (fun _ _ _ => trodAll_mk1 shut_true) (fun sp hsp => args_stay Try_laidOut hb hread hA1 hlt hsp) (fun _ _ => rfl) (by simp) hb (ok_one (by kernel_rfl) rfl ok_true)⟩

theorem integerDivisors_facts : joinedFacts Try.pinned.checked.prog 9 Try.f9 Rows.integerDivisorsSpec Rows.integerDivisorsRow = true := by
  unfold joinedFacts
  rw [head_may, head_lifts, head_make]
  kernel_rfl

theorem integerDivisors_holds : Rows.IntegerDivisorsSaid :=
  OpenClaim.holds_of_wide 9 Try.f9 rfl rfl rfl rfl rfl rfl rfl ⟨rfl, rfl, rfl, rfl, rfl⟩ rfl rfl rfl rfl rfl (by kernel_rfl) Try.func9 integerDivisors_facts
    (of_decide_eq_true (by kernel_rfl)) (by unfold Func.isWrapper; rw [if_neg (of_decide_eq_false (by kernel_rfl))]; exact ⟨rfl, rfl⟩)
    (fun os started H enc _ => integerDivisors_lifted os started H enc)

end Go.Proofs.Ytipajnobkladeaa
