/- RationalReverses returns true for every input and leaves the input as it was. No condition. -/
import Derived.Test.YtnabpemjcidhdaaK4
/- Walks over the Go functions, printed by a program of this session over the kit's print, and by hand. -/
set_option linter.unusedVariables false
set_option linter.unusedSimpArgs false
set_option maxRecDepth 100000
namespace Go.VL
open Go.Proofs
theorem g10i (n : Bool) (A : List Int) (m : Bool) (D : List Int) (n2 : Bool) (A2 : List Int) (m2 : Bool) (D2 : List Int) (hv : VF Try.prog 29 [ratB n A m D, ratB n2 A2 m2 D2, ratB n2 A2 m2 D2, numB .i64 32] (boolB false)) : VF Try.prog 10 [.agg [boolB (n), u32S (A), boolB (m), u32S (D)], .agg [boolB (n2), u32S (A2), boolB (m2), u32S (D2)]] (boolB true) := by
  exact VF_of P_mixed Try.func10 rfl rfl (by kernel_rfl) <| Sq <| Rg <| Vs (Bx 0 rfl) <| Vs (Bx 1 rfl) <| Vs (As rfl) <| Nx <| Sq <| Rg <| Vs (Cf rfl rfl (g15) rfl) <| Vs (As rfl) <| Nx <| Sq <| Sq <| Rg <| Vs (LdS TA27 TS27 rfl) <| Vs (LdS TA27 TS27 rfl) <| Vs (LdS TA27 TS27 rfl) <| Vs (Cf rfl rfl (hv) rfl) <| Vs (Un rfl) <| Nx <| Cy rfl <| Sq <| Rg <| Vs (Mv rfl) <| Vs (As rfl) <| Nx <| Re <| Tr <| Fi (l := [boolB (true)]) (Rc (resVar_tmp rfl rfl) Rn) rfl
theorem g10v {a b : Rat} (ba : bdR 1024 a) (bb : bdR 1024 b) (hv : VF Try.prog 29 [qR a, qR b, qR b, numB .i64 32] (boolB true)) (b0 : b ≠ 0) : VF Try.prog 10 [.agg [boolB (zN (nu (a))), u32S (zL (nu (a))), boolB (zN (de (a))), u32S (zL (de (a)))], .agg [boolB (zN (nu (b))), u32S (zL (nu (b))), boolB (zN (de (b))), u32S (zL (de (b)))]] (boolB true) := by
  refine VF_of P_mixed Try.func10 rfl rfl (by kernel_rfl) <| Sq <| Rg <| Vs (Bx 0 rfl) <| Vs (Bx 1 rfl) <| Vs (As rfl) <| Nx <| Sq <| Rg <| Vs (Cf rfl rfl (g15) rfl) <| Vs (As rfl) <| Nx <| Sq <| Sq <| Rg <| Vs (LdS TA27 TS27 rfl) <| Vs (LdS TA27 TS27 rfl) <| Vs (LdS TA27 TS27 rfl) <| Vs (Cf rfl rfl (hv) rfl) <| Vs (Un rfl) <| Nx <| Cz rfl <| Ks <| Tg <| Sq <| Rg <| Vs (LdS TA27 TS27 rfl) <| Vs (LdS TA27 TS27 rfl) <| Vs (C0 rfl rfl (x39 ba bb)) <| Vs (Mv rfl) <| Vs (Xt rfl) <| Vs (Xt rfl) <| Vs (Al 16 TZ27 rfl) <| Vs (StS TS27 rfl) <| Vs (As rfl) <| Nx <| Sq <| Rg <| Vs (LdS TA27 TS27 rfl) <| Vs (LdS TA27 TS27 rfl) <| Vs (C0 rfl rfl (x44 (bdR_add ba bb) bb)) <| Vs (Mv rfl) <| Vs (Xt rfl) <| Vs (Xt rfl) <| Vs (Al 25 TZ27 rfl) <| Vs (StS TS27 rfl) <| Vs (As rfl) <| Nx <| Sq <| Rg <| Vs (LdS TA27 TS27 rfl) <| Vs (LdS TA27 TS27 rfl) <| Vs (C0 rfl rfl (x40 ba bb)) <| Vs (Mv rfl) <| Vs (Xt rfl) <| Vs (Xt rfl) <| Vs (Al 34 TZ27 rfl) <| Vs (StS TS27 rfl) <| Vs (As rfl) <| Nx <| Sq <| Rg <| Vs (LdS TA27 TS27 rfl) <| Vs (LdS TA27 TS27 rfl) <| Vs (C0 rfl rfl (x44 ba ba)) <| Vs (Mv rfl) <| Vs (Xt rfl) <| Vs (Xt rfl) <| Vs (Al 43 TZ27 rfl) <| Vs (StS TS27 rfl) <| ?_
  refine Vs (As rfl) <| Nx <| Sq <| Sq <| Rd (by kernel_rfl) <| Vl (Mv rfl) <| Vl (Bi (c := .bool false) rfl) <| Vl (Mv rfl) <| Vl (Mv rfl) <| Vl (Bi (c := .bool false) rfl) <| Vl (Pk rfl) <| Vl (Mv rfl) <| Vl (Mv rfl) <| Vl (Bi (c := .bool false) rfl) <| Vl (Pk rfl) <| Vl (Mv rfl) <| Vl (Mv rfl) <| Vl (Bi (c := .bool false) rfl) <| Vl (Pk rfl) <| Vl (Mv rfl) <| Vl (LdS TA27 TS27 rfl) <| Vl (LdS TA27 TS27 rfl) <| Vl (Cf rfl rfl (x22t (bdR_sub (bdR_add ba bb) bb) ba (by grind)) rfl) <| Vl (Un rfl) <| Vl (Pk rfl) <| Vl (Mv rfl) <| Vl (LdS TA27 TS27 rfl) <| Vl (C0 rfl rfl (x45 (0) (1) (z := (0 : Rat)) (by decide +kernel) (by decide) (by decide) (by decide))) <| Vl (Cf rfl rfl (x22t (bdR_sub ba ba) (bd_lit (x := (0 : Rat)) (by decide +kernel)) (by grind)) rfl) <| Vl (Un rfl) <| Vl (Pk rfl) <| ?_
  refine VLog.nil ⟨by kernel_rfl, ?_⟩
  refine Tg <| Cz rfl <| Ks <| Tg <| Sq <| Rg <| Vs (LdS TA27 TS27 rfl) <| Vs (LdS TA27 TS27 rfl) <| Vs (C0 rfl rfl (x46 (bdR_mul ba bb) bb (by first | assumption | decide +kernel))) <| Vs (Mv rfl) <| Vs (Xt rfl) <| Vs (Xt rfl) <| Vs (Al 78 TZ27 rfl) <| Vs (StS TS27 rfl) <| Vs (As rfl) <| Nx <| Sq <| Rg <| Vs (LdS TA27 TS27 rfl) <| Vs (LdS TA27 TS27 rfl) <| Vs (C0 rfl rfl (x46 bb bb (by first | assumption | decide +kernel))) <| Vs (Mv rfl) <| Vs (Xt rfl) <| Vs (Xt rfl) <| Vs (Al 87 TZ27 rfl) <| Vs (StS TS27 rfl) <| Vs (As rfl) <| Nx <| Sq <| Sq <| Rg <| Vs (LdS TA27 TS27 rfl) <| Vs (Cf rfl rfl (x36 bb) rfl) <| Vs (Kb (show (cmpR (b) 0 == 0) = false from (beq_eq_false_iff_ne.2 (fun h => b0 (cmpR_eq.1 h)))) (Bi rfl)) <| Nx <| Cz rfl <| Ks <| Tg <| Sq <| Rd (by kernel_rfl) <| Vl (Mv rfl) <| Vl (Mv rfl) <| Vl (Mv rfl) <| Vl (Bi (c := .bool true) rfl) <| Vl (Pk rfl) <| Vl (Mv rfl) <| Vl (LdS TA27 TS27 rfl) <| Vl (LdS TA27 TS27 rfl) <| Vl (Cf rfl rfl (x22t (bdR_div (bdR_mul ba bb) bb (by first | assumption | decide +kernel)) ba (by grind)) rfl) <| Vl (Pk rfl) <| Vl (Mv rfl) <| Vl (Mv rfl) <| Vl (Bi (c := .bool true) rfl) <| Vl (Pk rfl) <| Vl (Mv rfl) <| Vl (LdS TA27 TS27 rfl) <| Vl (C0 rfl rfl (x45 (1) (1) (z := (1 : Rat)) (by decide +kernel) (by decide) (by decide) (by decide))) <| Vl (Cf rfl rfl (x22t (bdR_div bb bb (by first | assumption | decide +kernel)) (bd_lit (x := (1 : Rat)) (by decide +kernel)) (by grind)) rfl) <| Vl (Pk rfl) <| Vl (As rfl) <| ?_
  refine VLog.nil ⟨by kernel_rfl, ?_⟩
  exact Tg <| Re <| Fi (l := [boolB (true)]) (Rc (resVar_tmp rfl rfl) Rn) rfl
theorem g10z {a : Rat} (ba : bdR 1024 a) (bb : bdR 1024 (0 : Rat)) (hv : VF Try.prog 29 [qR a, qR 0, qR 0, numB .i64 32] (boolB true)) : VF Try.prog 10 [.agg [boolB (zN (nu (a))), u32S (zL (nu (a))), boolB (zN (de (a))), u32S (zL (de (a)))], .agg [boolB (zN (nu (0))), u32S (zL (nu (0))), boolB (zN (de (0))), u32S (zL (de (0)))]] (boolB true) := by
  refine VF_of P_mixed Try.func10 rfl rfl (by kernel_rfl) <| Sq <| Rg <| Vs (Bx 0 rfl) <| Vs (Bx 1 rfl) <| Vs (As rfl) <| Nx <| Sq <| Rg <| Vs (Cf rfl rfl (g15) rfl) <| Vs (As rfl) <| Nx <| Sq <| Sq <| Rg <| Vs (LdS TA27 TS27 rfl) <| Vs (LdS TA27 TS27 rfl) <| Vs (LdS TA27 TS27 rfl) <| Vs (Cf rfl rfl (hv) rfl) <| Vs (Un rfl) <| Nx <| Cz rfl <| Ks <| Tg <| Sq <| Rg <| Vs (LdS TA27 TS27 rfl) <| Vs (LdS TA27 TS27 rfl) <| Vs (C0 rfl rfl (x39 ba bb)) <| Vs (Mv rfl) <| Vs (Xt rfl) <| Vs (Xt rfl) <| Vs (Al 16 TZ27 rfl) <| Vs (StS TS27 rfl) <| Vs (As rfl) <| Nx <| Sq <| Rg <| Vs (LdS TA27 TS27 rfl) <| Vs (LdS TA27 TS27 rfl) <| Vs (C0 rfl rfl (x44 (bdR_add ba bb) bb)) <| Vs (Mv rfl) <| Vs (Xt rfl) <| Vs (Xt rfl) <| Vs (Al 25 TZ27 rfl) <| Vs (StS TS27 rfl) <| Vs (As rfl) <| Nx <| Sq <| Rg <| Vs (LdS TA27 TS27 rfl) <| Vs (LdS TA27 TS27 rfl) <| Vs (C0 rfl rfl (x40 ba bb)) <| Vs (Mv rfl) <| Vs (Xt rfl) <| Vs (Xt rfl) <| Vs (Al 34 TZ27 rfl) <| Vs (StS TS27 rfl) <| Vs (As rfl) <| Nx <| Sq <| Rg <| Vs (LdS TA27 TS27 rfl) <| Vs (LdS TA27 TS27 rfl) <| Vs (C0 rfl rfl (x44 ba ba)) <| Vs (Mv rfl) <| Vs (Xt rfl) <| Vs (Xt rfl) <| Vs (Al 43 TZ27 rfl) <| Vs (StS TS27 rfl) <| ?_
  refine Vs (As rfl) <| Nx <| Sq <| Sq <| Rd (by kernel_rfl) <| Vl (Mv rfl) <| Vl (Bi (c := .bool false) rfl) <| Vl (Mv rfl) <| Vl (Mv rfl) <| Vl (Bi (c := .bool false) rfl) <| Vl (Pk rfl) <| Vl (Mv rfl) <| Vl (Mv rfl) <| Vl (Bi (c := .bool false) rfl) <| Vl (Pk rfl) <| Vl (Mv rfl) <| Vl (Mv rfl) <| Vl (Bi (c := .bool false) rfl) <| Vl (Pk rfl) <| Vl (Mv rfl) <| Vl (LdS TA27 TS27 rfl) <| Vl (LdS TA27 TS27 rfl) <| Vl (Cf rfl rfl (x22t (bdR_sub (bdR_add ba bb) bb) ba (by grind)) rfl) <| Vl (Un rfl) <| Vl (Pk rfl) <| Vl (Mv rfl) <| Vl (LdS TA27 TS27 rfl) <| Vl (C0 rfl rfl (x45 (0) (1) (z := (0 : Rat)) (by decide +kernel) (by decide) (by decide) (by decide))) <| Vl (Cf rfl rfl (x22t (bdR_sub ba ba) (bd_lit (x := (0 : Rat)) (by decide +kernel)) (by grind)) rfl) <| Vl (Un rfl) <| Vl (Pk rfl) <| ?_
  refine VLog.nil ⟨by kernel_rfl, ?_⟩
  exact Tg <| Cz rfl <| Ks <| Tg <| Sq <| Rg <| Vs (LdS TA27 TS27 rfl) <| Vs (LdS TA27 TS27 rfl) <| Vs (C0 rfl rfl (x46z (bdR_mul ba bb))) <| Vs (Mv rfl) <| Vs (Xt rfl) <| Vs (Xt rfl) <| Vs (Al 78 TZ27 rfl) <| Vs (StS TS27 rfl) <| Vs (As rfl) <| Nx <| Sq <| Rg <| Vs (LdS TA27 TS27 rfl) <| Vs (LdS TA27 TS27 rfl) <| Vs (C0 rfl rfl (x46z bb)) <| Vs (Mv rfl) <| Vs (Xt rfl) <| Vs (Xt rfl) <| Vs (Al 87 TZ27 rfl) <| Vs (StS TS27 rfl) <| Vs (As rfl) <| Nx <| Sq <| Sq <| Rg <| Vs (LdS TA27 TS27 rfl) <| Vs (Cf rfl rfl (x36 bb) rfl) <| Vs (Kb (show (cmpR (0) 0 == 0) = true from (beq_iff_eq.2 cmpR_same)) (Bi rfl)) <| Nx <| Cy rfl <| Sq <| Rg <| Vs (Mv rfl) <| Vs (Mv rfl) <| Vs (Mv rfl) <| Vs (Bi (c := .bool true) rfl) <| Vs (Pk rfl) <| Vs (Mv rfl) <| Vs (Mv rfl) <| Vs (Bi (c := .bool true) rfl) <| Vs (Pk rfl) <| Vs (As rfl) <| Nx <| Re <| Tr <| Fi (l := [boolB (true)]) (Rc (resVar_tmp rfl rfl) Rn) rfl
theorem g10 (n : Bool) (A : List Int) (m : Bool) (D : List Int) (n2 : Bool) (A2 : List Int) (m2 : Bool) (D2 : List Int) (hA : A.length ≤ 9223372036854775807) (hD : D.length ≤ 9223372036854775807) (hA2 : A2.length ≤ 9223372036854775807) (hD2 : D2.length ≤ 9223372036854775807) (oA : ok32 A) (oD : ok32 D) (oA2 : ok32 A2) (oD2 : ok32 D2) : VF Try.prog 10 [ratB n A m D, ratB n2 A2 m2 D2] (boolB true) := by
  have h := g29 n A m D n2 A2 m2 D2 n2 A2 m2 D2 hA hD hA2 hD2 hA2 hD2 oA oD oA2 oD2 oA2 oD2 32
  cases e : v3 n A m D n2 A2 m2 D2 n2 A2 m2 D2 32 with
  | false => rw [e] at h; exact g10i n A m D n2 A2 m2 D2 h
  | true =>
    rw [e] at h
    obtain ⟨c0, c1, c2⟩ := v3_get e
    obtain ⟨a, ⟨e01, e02, e03, e04⟩, ba⟩ := v_rat 32 oA oD c0.1 c0.2
    obtain ⟨b, ⟨e11, e12, e13, e14⟩, bb⟩ := v_rat 32 oA2 oD2 c1.1 c1.2
    rw [e01, e02, e03, e04, e11, e12, e13, e14] at h ⊢
    by_cases b0 : b = 0
    · subst b0; exact g10z ba bb h
    · exact g10v ba bb h b0
end Go.VL

set_option linter.unusedVariables false
set_option linter.unusedSimpArgs false
set_option maxRecDepth 100000
namespace Go.Proofs.Ytnabpemjcidhdaa
open Go.ChangeShapes Go.WideShapes Go.ChangeAt Go.RowKit Go.VL

theorem rationalReverses_lifted (os : Os) (started : os.Started) (H : Type) (enc : TypeId × Value → H) :
    ReturnsInHanded {} Try.checked os 10 .any (Rows.rationalReversesSpec.pre6 enc Try.prog Try.f10 Rows.rationalReversesRow.domain false) (Rows.rationalReversesSpec.post enc Try.prog Try.f10 false true false false) := by
  refine returnsInHanded_of_change (C := Try.checked) Try_own started (by kernel_rfl) Try.func10
    (ChangeSpec.witness6 (enc := enc) (C := Try.checked) false ⟨#[], #[.agg #[.bool false, .slice none 0 0, .bool false, .slice none 0 0], .agg #[.bool false, .slice none 0 0, .bool false, .slice none 0 0]], []⟩ 8 (by kernel_rfl) (by kernel_rfl) (by kernel_rfl) (by kernel_rfl)) ?_
  intro W base args ds gs before hval0 hW hcnd _
  have hval : ∀ (j : Nat) t v, Try.f10.params[j]? = some t → args[j]? = some v → Value.okWide Try.prog W .any base t v := hval0
  have hW' := hW
  obtain ⟨p, q, hA0, hV, rfl, hfz, hnd⟩ := hW
  have hA : DataW.TrodAll enc Try.prog W 0 (fun _ => true) true Try.f10.params.toList args.toList ds p := hA0
  have hA1 := hA
  rw [Try.params10] at hA hval
  obtain ⟨v0, v1, d0, d1, p0, p1, rfl, rfl, rfl, h0, h1⟩ := trodAll_two hA
  obtain ⟨rfl, rfl⟩ := trodVars_none hV
  obtain ⟨n0, A0, m0, D0, r0, ⟨o0, s0⟩, l0, k0⟩ := open_rat (hval 0 27 v0 rfl rfl) h0
  obtain ⟨n1, A1, m1, D1, r1, ⟨o1, s1⟩, l1, k1⟩ := open_rat (hval 1 27 v1 rfl rfl) h1
  simp only [List.append_nil] at hW'
  have hlt : ∀ x ∈ p0 ++ p1, x.block < W.heap.size := fun x hx => hW'.lt x hx
  have hread : ∀ t ∈ Try.f10.params.toList, Try.prog.readableRec t = true ∧ t < Try.prog.types.size := by rw [Try.params10]; exact types_cons T27 (types_cons T27 (types_nil))
  refine ((g10 n0 A0 m0 D0 n1 A1 m1 D1 l0 k0 l1 k1 o0 s0 o1 s1).runs (xs := [v0, v1]) rfl (reps_cons r0 (reps_cons r1 reps_nil))).mono fun e W' ⟨he, hb⟩ => ?_
  subst he
  exact ⟨_, rfl, post_of_below (pa := _) (pv := []) hW' (fun _ _ _ => trodAll_mk1 shut_true) (fun sp hsp => args_stay Try_laidOut hb hread hA1 hlt hsp) (fun _ _ => rfl) (by simp) hb (ok_one (by kernel_rfl) rfl ok_true)⟩

theorem rationalReverses_facts : joinedFacts Try.pinned.checked.prog 10 Try.f10 Rows.rationalReversesSpec Rows.rationalReversesRow = true := by
  unfold joinedFacts
  rw [head_may, head_lifts, head_make]
  kernel_rfl

theorem rationalReverses_holds : Rows.RationalReversesSaid :=
  OpenClaim.holds_of_wide 10 Try.f10 rfl rfl rfl rfl rfl rfl rfl ⟨rfl, rfl, rfl, rfl, rfl⟩ rfl rfl rfl rfl rfl (by kernel_rfl) Try.func10 rationalReverses_facts
    (of_decide_eq_true (by kernel_rfl)) (by unfold Func.isWrapper; rw [if_neg (of_decide_eq_false (by kernel_rfl))]; exact ⟨rfl, rfl⟩)
    (fun os started H enc _ => rationalReverses_lifted os started H enc)

end Go.Proofs.Ytnabpemjcidhdaa
