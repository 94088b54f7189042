/- RationalOrder returns true for every input and leaves the input as it was. No condition. -/
import Derived.Test.YtnabpemjcidhdaaK4
/- Walks over the Go functions, printed by a program of this session over the kit's print, and by hand. -/
set_option linter.unusedVariables false
set_option linter.unusedSimpArgs false
set_option maxRecDepth 100000
namespace Go.VL
open Go.Proofs
theorem g11i (n : Bool) (A : List Int) (m : Bool) (D : List Int) (n2 : Bool) (A2 : List Int) (m2 : Bool) (D2 : List Int) (n3 : Bool) (A3 : List Int) (m3 : Bool) (D3 : List Int) (hv : VF Try.prog 29 [ratB n A m D, ratB n2 A2 m2 D2, ratB n3 A3 m3 D3, numB .i64 32] (boolB false)) : VF Try.prog 11 [.agg [boolB (n), u32S (A), boolB (m), u32S (D)], .agg [boolB (n2), u32S (A2), boolB (m2), u32S (D2)], .agg [boolB (n3), u32S (A3), boolB (m3), u32S (D3)]] (boolB true) := by
  exact VF_of P_mixed Try.func11 rfl rfl (by kernel_rfl) <| Sq <| Rg <| Vs (Bx 0 rfl) <| Vs (Bx 1 rfl) <| Vs (Bx 2 rfl) <| Vs (As rfl) <| Nx <| Sq <| Rg <| Vs (Cf rfl rfl (g15) rfl) <| Vs (As rfl) <| Nx <| Sq <| Sq <| Rg <| Vs (LdS TA27 TS27 rfl) <| Vs (LdS TA27 TS27 rfl) <| Vs (LdS TA27 TS27 rfl) <| Vs (Cf rfl rfl (hv) rfl) <| Vs (Un rfl) <| Nx <| Cy rfl <| Sq <| Rg <| Vs (Mv rfl) <| Vs (As rfl) <| Nx <| Re <| Tr <| Fi (l := [boolB (true)]) (Rc (resVar_tmp rfl rfl) Rn) rfl
theorem g11v {a b c : Rat} (ba : bdR 1024 a) (bb : bdR 1024 b) (bc : bdR 1024 c) (hv : VF Try.prog 29 [qR a, qR b, qR c, numB .i64 32] (boolB true)) : VF Try.prog 11 [.agg [boolB (zN (nu (a))), u32S (zL (nu (a))), boolB (zN (de (a))), u32S (zL (de (a)))], .agg [boolB (zN (nu (b))), u32S (zL (nu (b))), boolB (zN (de (b))), u32S (zL (de (b)))], .agg [boolB (zN (nu (c))), u32S (zL (nu (c))), boolB (zN (de (c))), u32S (zL (de (c)))]] (boolB true) := by
  refine VF_of P_mixed Try.func11 rfl rfl (by kernel_rfl) <| Sq <| Rg <| Vs (Bx 0 rfl) <| Vs (Bx 1 rfl) <| Vs (Bx 2 rfl) <| Vs (As rfl) <| Nx <| Sq <| Rg <| Vs (Cf rfl rfl (g15) rfl) <| Vs (As rfl) <| Nx <| Sq <| Sq <| Rg <| Vs (LdS TA27 TS27 rfl) <| Vs (LdS TA27 TS27 rfl) <| Vs (LdS TA27 TS27 rfl) <| Vs (Cf rfl rfl (hv) rfl) <| Vs (Un rfl) <| Nx <| Cz rfl <| Ks <| Tg <| Sq <| Rg <| Vs (LdS TA27 TS27 rfl) <| Vs (LdS TA27 TS27 rfl) <| Vs (Cf rfl rfl (x30 ba bb) rfl) <| Vs (Mv rfl) <| Vs (Xt rfl) <| Vs (Xt rfl) <| Vs (As rfl) <| Vs (As rfl) <| Nx <| Sq <| Rg <| Vs (LdS TA27 TS27 rfl) <| Vs (LdS TA27 TS27 rfl) <| Vs (Cf rfl rfl (x30 bb ba) rfl) <| Vs (Mv rfl) <| Vs (Xt rfl) <| Vs (Xt rfl) <| Vs (As rfl) <| Vs (As rfl) <| Nx <| Sq <| Rg <| Vs (LdS TA27 TS27 rfl) <| Vs (LdS TA27 TS27 rfl) <| Vs (Cf rfl rfl (x30 bb bc) rfl) <| Vs (Mv rfl) <| Vs (Xt rfl) <| Vs (Xt rfl) <| Vs (As rfl) <| Vs (As rfl) <| Nx <| Sq <| Rg <| Vs (LdS TA27 TS27 rfl) <| Vs (LdS TA27 TS27 rfl) <| Vs (Cf rfl rfl (x30 ba bc) rfl) <| Vs (Mv rfl) <| Vs (Xt rfl) <| Vs (Xt rfl) <| Vs (As rfl) <| Vs (As rfl) <| Nx <| Sq <| Rg <| Vs (LdS TA27 TS27 rfl) <| Vs (LdS TA27 TS27 rfl) <| Vs (C0 rfl rfl (x44 ba bb)) <| Vs (Mv rfl) <| Vs (Xt rfl) <| Vs (Xt rfl) <| Vs (Al 49 TZ27 rfl) <| Vs (StS TS27 rfl) <| Vs (As rfl) <| Nx <| Sq <| Sq <| Rg <| Vs (Mv rfl) <| Vs (Bi (c := .bool false) rfl) <| Vs (Mv rfl) <| Vs (Mv rfl) <| Vs (Bi (c := .bool false) rfl) <| Vs (Pk rfl) <| Vs (Mv rfl) <| Vs (Mv rfl) <| Vs (Bi (c := .bool false) rfl) <| Vs (Pk rfl) <| Vs (Mv rfl) <| Vs (Mv rfl) <| Vs (Bi (c := .bool false) rfl) <| Vs (Pk rfl) <| Vs (Mv rfl) <| Vs (Mv rfl) <| Vs (Bi (c := .bool false) rfl) <| Vs (Pk rfl) <| Vs (Mv rfl) <| Vs (Mv rfl) <| Vs (Mv rfl) <| Vs (Uo rfl (nvI (h := (by have h9 := cmpR_rng b a; omega)))) <| Vs (Kb (show (cmpR (a) (b) != (-cmpR (b) (a))) = false from ord_turn) (Bi rfl)) <| Vs (Pk rfl) <| Vs (Mv rfl) <| Vs (LdS TA27 TS27 rfl) <| Vs (Cf rfl rfl (x36 (bdR_sub ba bb)) rfl) <| Vs (Mv rfl) <| Vs (Kb (show (cmpR ((a - b)) 0 != cmpR (a) (b)) = false from ord_sign) (Bi rfl)) <| Vs (Pk rfl) <| Nx <| Cz rfl <| Ks <| Tg <| Sq <| Sq <| Rg <| Vs (Mv rfl) <| Vs (Bi rfl) <| Vs (Mv rfl) <| Sp 93 rfl (fun hc1 => ?_) (fun hc1 => ?_)
  · replace hc1 := of_decide_eq_true hc1
    refine Vs (Mv rfl) <| Vs (Bi rfl) <| Vs (Pk rfl) <| Vs (Mv rfl) <| Sp 97 rfl (fun hc2 => ?_) (fun hc2 => ?_)
    · replace hc2 := of_decide_eq_true hc2
      refine Vs (Mv rfl) <| Vs (Kb (show decide (cmpR (a) (c) < 0) = false from (ord_tr hc1 hc2)) (Bi rfl)) <| Vs (Mv rfl) <| Vs (Mv rfl) <| Vs (Bi rfl) <| Vs (Mv rfl) <| Vs (Bi rfl) <| Vs (Mv rfl) <| Sp 105 rfl (fun hc3 => ?_) (fun hc3 => ?_)
      · replace hc3 := eq_of_beq hc3
        exact Vs (Mv rfl) <| Vs (Bi rfl) <| Vs (Pk rfl) <| Vs (Kb (show (!((cmpR (a) (c) == 0) == (cmpR (b) (c) == 0))) = false from (by first | exact ord_e1 hc3 | exact ord_e2 hc1 hc2 hc3)) (Bb TU4 rfl)) <| Vs (Pk rfl) <| Vs (Pk rfl) <| Nx <| Cz rfl <| Ks <| Tg <| Sq <| Rg <| Vs (LdS TA27 TS27 rfl) <| Vs (LdS TA27 TS27 rfl) <| Vs (C0 rfl rfl (x39 ba bc)) <| Vs (Mv rfl) <| Vs (Xt rfl) <| Vs (Xt rfl) <| Vs (Al 109 TZ27 rfl) <| Vs (StS TS27 rfl) <| Vs (As rfl) <| Nx <| Sq <| Rg <| Vs (LdS TA27 TS27 rfl) <| Vs (LdS TA27 TS27 rfl) <| Vs (C0 rfl rfl (x39 bb bc)) <| Vs (Mv rfl) <| Vs (Xt rfl) <| Vs (Xt rfl) <| Vs (Al 118 TZ27 rfl) <| Vs (StS TS27 rfl) <| Vs (As rfl) <| Nx <| Sq <| Rg <| Vs (LdS TA27 TS27 rfl) <| Vs (LdS TA27 TS27 rfl) <| Vs (Cf rfl rfl (x30 (bdR_add ba bc) (bdR_add bb bc)) rfl) <| Vs (Mv rfl) <| Vs (Xt rfl) <| Vs (Xt rfl) <| Vs (As rfl) <| Vs (As rfl) <| Nx <| Sq <| Rg <| Vs (Mv rfl) <| Vs (Mv rfl) <| Vs (Mv rfl) <| Vs (Bi (c := .bool true) rfl) <| Vs (Pk rfl) <| Vs (Mv rfl) <| Vs (Mv rfl) <| Vs (Bi (c := .bool true) rfl) <| Vs (Pk rfl) <| Vs (Mv rfl) <| Vs (Mv rfl) <| Vs (Bi (c := .bool true) rfl) <| Vs (Pk rfl) <| Vs (Mv rfl) <| Vs (Mv rfl) <| Vs (Mv rfl) <| Vs (Bi rfl) <| Vs (Pk rfl) <| Vs (As rfl) <| Nx <| Re <| Fi (l := [boolB ((cmpR ((a + c)) ((b + c)) == cmpR (a) (b)))]) (Rc (resVar_tmp rfl rfl) Rn) (by rw [cmpR_add]; simp [oneB])
      · replace hc3 := ne_of_beq_false hc3
        exact Sk rfl <| Sk rfl <| Vs (Pk rfl) <| Vs (Kb (show (!((cmpR (a) (c) == 0) == false)) = false from (by first | exact ord_e1 hc3 | exact ord_e2 hc1 hc2 hc3)) (Bb TU4 rfl)) <| Vs (Pk rfl) <| Vs (Pk rfl) <| Nx <| Cz rfl <| Ks <| Tg <| Sq <| Rg <| Vs (LdS TA27 TS27 rfl) <| Vs (LdS TA27 TS27 rfl) <| Vs (C0 rfl rfl (x39 ba bc)) <| Vs (Mv rfl) <| Vs (Xt rfl) <| Vs (Xt rfl) <| Vs (Al 109 TZ27 rfl) <| Vs (StS TS27 rfl) <| Vs (As rfl) <| Nx <| Sq <| Rg <| Vs (LdS TA27 TS27 rfl) <| Vs (LdS TA27 TS27 rfl) <| Vs (C0 rfl rfl (x39 bb bc)) <| Vs (Mv rfl) <| Vs (Xt rfl) <| Vs (Xt rfl) <| Vs (Al 118 TZ27 rfl) <| Vs (StS TS27 rfl) <| Vs (As rfl) <| Nx <| Sq <| Rg <| Vs (LdS TA27 TS27 rfl) <| Vs (LdS TA27 TS27 rfl) <| Vs (Cf rfl rfl (x30 (bdR_add ba bc) (bdR_add bb bc)) rfl) <| Vs (Mv rfl) <| Vs (Xt rfl) <| Vs (Xt rfl) <| Vs (As rfl) <| Vs (As rfl) <| Nx <| Sq <| Rg <| Vs (Mv rfl) <| Vs (Mv rfl) <| Vs (Mv rfl) <| Vs (Bi (c := .bool true) rfl) <| Vs (Pk rfl) <| Vs (Mv rfl) <| Vs (Mv rfl) <| Vs (Bi (c := .bool true) rfl) <| Vs (Pk rfl) <| Vs (Mv rfl) <| Vs (Mv rfl) <| Vs (Bi (c := .bool true) rfl) <| Vs (Pk rfl) <| Vs (Mv rfl) <| Vs (Mv rfl) <| Vs (Mv rfl) <| Vs (Bi rfl) <| Vs (Pk rfl) <| Vs (As rfl) <| Nx <| Re <| Fi (l := [boolB ((cmpR ((a + c)) ((b + c)) == cmpR (a) (b)))]) (Rc (resVar_tmp rfl rfl) Rn) (by rw [cmpR_add]; simp [oneB])
    · replace hc2 := of_decide_eq_false hc2
      exact Sk rfl <| Sk rfl <| Sk rfl <| Sk rfl <| Sk rfl <| Sk rfl <| Sk rfl <| Sk rfl <| Sk rfl <| Sk rfl <| Sk rfl <| Sk rfl <| Sk rfl <| Vs (Pk rfl) <| Nx <| Cz rfl <| Ks <| Tg <| Sq <| Rg <| Vs (LdS TA27 TS27 rfl) <| Vs (LdS TA27 TS27 rfl) <| Vs (C0 rfl rfl (x39 ba bc)) <| Vs (Mv rfl) <| Vs (Xt rfl) <| Vs (Xt rfl) <| Vs (Al 109 TZ27 rfl) <| Vs (StS TS27 rfl) <| Vs (As rfl) <| Nx <| Sq <| Rg <| Vs (LdS TA27 TS27 rfl) <| Vs (LdS TA27 TS27 rfl) <| Vs (C0 rfl rfl (x39 bb bc)) <| Vs (Mv rfl) <| Vs (Xt rfl) <| Vs (Xt rfl) <| Vs (Al 118 TZ27 rfl) <| Vs (StS TS27 rfl) <| Vs (As rfl) <| Nx <| Sq <| Rg <| Vs (LdS TA27 TS27 rfl) <| Vs (LdS TA27 TS27 rfl) <| Vs (Cf rfl rfl (x30 (bdR_add ba bc) (bdR_add bb bc)) rfl) <| Vs (Mv rfl) <| Vs (Xt rfl) <| Vs (Xt rfl) <| Vs (As rfl) <| Vs (As rfl) <| Nx <| Sq <| Rg <| Vs (Mv rfl) <| Vs (Mv rfl) <| Vs (Mv rfl) <| Vs (Bi (c := .bool true) rfl) <| Vs (Pk rfl) <| Vs (Mv rfl) <| Vs (Mv rfl) <| Vs (Bi (c := .bool true) rfl) <| Vs (Pk rfl) <| Vs (Mv rfl) <| Vs (Mv rfl) <| Vs (Bi (c := .bool true) rfl) <| Vs (Pk rfl) <| Vs (Mv rfl) <| Vs (Mv rfl) <| Vs (Mv rfl) <| Vs (Bi rfl) <| Vs (Pk rfl) <| Vs (As rfl) <| Nx <| Re <| Fi (l := [boolB ((cmpR ((a + c)) ((b + c)) == cmpR (a) (b)))]) (Rc (resVar_tmp rfl rfl) Rn) (by rw [cmpR_add]; simp [oneB])
  · replace hc1 := of_decide_eq_false hc1
    exact Sk rfl <| Sk rfl <| Vs (Pk rfl) <| Vs (Mv rfl) <| Sk rfl <| Sk rfl <| Sk rfl <| Sk rfl <| Sk rfl <| Sk rfl <| Sk rfl <| Sk rfl <| Sk rfl <| Sk rfl <| Sk rfl <| Sk rfl <| Sk rfl <| Vs (Pk rfl) <| Nx <| Cz rfl <| Ks <| Tg <| Sq <| Rg <| Vs (LdS TA27 TS27 rfl) <| Vs (LdS TA27 TS27 rfl) <| Vs (C0 rfl rfl (x39 ba bc)) <| Vs (Mv rfl) <| Vs (Xt rfl) <| Vs (Xt rfl) <| Vs (Al 109 TZ27 rfl) <| Vs (StS TS27 rfl) <| Vs (As rfl) <| Nx <| Sq <| Rg <| Vs (LdS TA27 TS27 rfl) <| Vs (LdS TA27 TS27 rfl) <| Vs (C0 rfl rfl (x39 bb bc)) <| Vs (Mv rfl) <| Vs (Xt rfl) <| Vs (Xt rfl) <| Vs (Al 118 TZ27 rfl) <| Vs (StS TS27 rfl) <| Vs (As rfl) <| Nx <| Sq <| Rg <| Vs (LdS TA27 TS27 rfl) <| Vs (LdS TA27 TS27 rfl) <| Vs (Cf rfl rfl (x30 (bdR_add ba bc) (bdR_add bb bc)) rfl) <| Vs (Mv rfl) <| Vs (Xt rfl) <| Vs (Xt rfl) <| Vs (As rfl) <| Vs (As rfl) <| Nx <| Sq <| Rg <| Vs (Mv rfl) <| Vs (Mv rfl) <| Vs (Mv rfl) <| Vs (Bi (c := .bool true) rfl) <| Vs (Pk rfl) <| Vs (Mv rfl) <| Vs (Mv rfl) <| Vs (Bi (c := .bool true) rfl) <| Vs (Pk rfl) <| Vs (Mv rfl) <| Vs (Mv rfl) <| Vs (Bi (c := .bool true) rfl) <| Vs (Pk rfl) <| Vs (Mv rfl) <| Vs (Mv rfl) <| Vs (Mv rfl) <| Vs (Bi rfl) <| Vs (Pk rfl) <| Vs (As rfl) <| Nx <| Re <| Fi (l := [boolB ((cmpR ((a + c)) ((b + c)) == cmpR (a) (b)))]) (Rc (resVar_tmp rfl rfl) Rn) (by rw [cmpR_add]; simp [oneB])
theorem g11 (n : Bool) (A : List Int) (m : Bool) (D : List Int) (n2 : Bool) (A2 : List Int) (m2 : Bool) (D2 : List Int) (n3 : Bool) (A3 : List Int) (m3 : Bool) (D3 : List Int) (hA : A.length ≤ 9223372036854775807) (hD : D.length ≤ 9223372036854775807) (hA2 : A2.length ≤ 9223372036854775807) (hD2 : D2.length ≤ 9223372036854775807) (hA3 : A3.length ≤ 9223372036854775807) (hD3 : D3.length ≤ 9223372036854775807) (oA : ok32 A) (oD : ok32 D) (oA2 : ok32 A2) (oD2 : ok32 D2) (oA3 : ok32 A3) (oD3 : ok32 D3) : VF Try.prog 11 [ratB n A m D, ratB n2 A2 m2 D2, ratB n3 A3 m3 D3] (boolB true) := by
  have h := g29 n A m D n2 A2 m2 D2 n3 A3 m3 D3 hA hD hA2 hD2 hA3 hD3 oA oD oA2 oD2 oA3 oD3 32
  cases e : v3 n A m D n2 A2 m2 D2 n3 A3 m3 D3 32 with
  | false => rw [e] at h; exact g11i n A m D n2 A2 m2 D2 n3 A3 m3 D3 h
  | true =>
    rw [e] at h
    obtain ⟨c0, c1, c2⟩ := v3_get e
    obtain ⟨a, ⟨e01, e02, e03, e04⟩, ba⟩ := v_rat 32 oA oD c0.1 c0.2
    obtain ⟨b, ⟨e11, e12, e13, e14⟩, bb⟩ := v_rat 32 oA2 oD2 c1.1 c1.2
    obtain ⟨c, ⟨e21, e22, e23, e24⟩, bc⟩ := v_rat 32 oA3 oD3 c2.1 c2.2
    rw [e01, e02, e03, e04, e11, e12, e13, e14, e21, e22, e23, e24] at h ⊢
    exact g11v ba bb bc h
end Go.VL

set_option linter.unusedVariables false
set_option linter.unusedSimpArgs false
set_option maxRecDepth 100000
namespace Go.Proofs.Ytnabpemjcidhdaa
open Go.ChangeShapes Go.WideShapes Go.ChangeAt Go.RowKit Go.VL

theorem rationalOrder_lifted (os : Os) (started : os.Started) (H : Type) (enc : TypeId × Value → H) :
    ReturnsInHanded {} Try.checked os 11 .any (Rows.rationalOrderSpec.pre6 enc Try.prog Try.f11 Rows.rationalOrderRow.domain false) (Rows.rationalOrderSpec.post enc Try.prog Try.f11 false true false false) := by
  refine returnsInHanded_of_change (C := Try.checked) Try_own started (by kernel_rfl) Try.func11
    (ChangeSpec.witness6 (enc := enc) (C := Try.checked) false ⟨#[], #[.agg #[.bool false, .slice none 0 0, .bool false, .slice none 0 0], .agg #[.bool false, .slice none 0 0, .bool false, .slice none 0 0], .agg #[.bool false, .slice none 0 0, .bool false, .slice none 0 0]], []⟩ 8 (by kernel_rfl) (by kernel_rfl) (by kernel_rfl) (by kernel_rfl)) ?_
  intro W base args ds gs before hval0 hW hcnd _
  have hval : ∀ (j : Nat) t v, Try.f11.params[j]? = some t → args[j]? = some v → Value.okWide Try.prog W .any base t v := hval0
  have hW' := hW
  obtain ⟨p, q, hA0, hV, rfl, hfz, hnd⟩ := hW
  have hA : DataW.TrodAll enc Try.prog W 0 (fun _ => true) true Try.f11.params.toList args.toList ds p := hA0
  have hA1 := hA
  rw [Try.params11] at hA hval
  obtain ⟨v0, v1, v2, d0, d1, d2, p0, p1, p2, rfl, rfl, rfl, h0, h1, h2⟩ := trodAll_three hA
  obtain ⟨rfl, rfl⟩ := trodVars_none hV
  obtain ⟨n0, A0, m0, D0, r0, ⟨o0, s0⟩, l0, k0⟩ := open_rat (hval 0 27 v0 rfl rfl) h0
  obtain ⟨n1, A1, m1, D1, r1, ⟨o1, s1⟩, l1, k1⟩ := open_rat (hval 1 27 v1 rfl rfl) h1
  obtain ⟨n2, A2, m2, D2, r2, ⟨o2, s2⟩, l2, k2⟩ := open_rat (hval 2 27 v2 rfl rfl) h2
  simp only [List.append_nil] at hW'
  have hlt : ∀ x ∈ p0 ++ p1 ++ p2, x.block < W.heap.size := fun x hx => hW'.lt x hx
  have hread : ∀ t ∈ Try.f11.params.toList, Try.prog.readableRec t = true ∧ t < Try.prog.types.size := by rw [Try.params11]; exact types_cons T27 (types_cons T27 (types_cons T27 (types_nil)))
  refine ((g11 n0 A0 m0 D0 n1 A1 m1 D1 n2 A2 m2 D2 l0 k0 l1 k1 l2 k2 o0 s0 o1 s1 o2 s2).runs (xs := [v0, v1, v2]) rfl (reps_cons r0 (reps_cons r1 (reps_cons r2 reps_nil)))).mono fun e W' ⟨he, hb⟩ => ?_
  subst he
  exact ⟨_, rfl, post_of_below (pa := _) (pv := []) hW' (fun _ _ _ => trodAll_mk1 shut_true) (fun sp hsp => args_stay Try_laidOut hb hread hA1 hlt hsp) (fun _ _ => rfl) (by simp) hb (ok_one (by kernel_rfl) rfl ok_true)⟩

theorem rationalOrder_facts : joinedFacts Try.pinned.checked.prog 11 Try.f11 Rows.rationalOrderSpec Rows.rationalOrderRow = true := by
  unfold joinedFacts
  rw [head_may, head_lifts, head_make]
  kernel_rfl

theorem rationalOrder_holds : Rows.RationalOrderSaid :=
  OpenClaim.holds_of_wide 11 Try.f11 rfl rfl rfl rfl rfl rfl rfl ⟨rfl, rfl, rfl, rfl, rfl⟩ rfl rfl rfl rfl rfl (by kernel_rfl) Try.func11 rationalOrder_facts
    (of_decide_eq_true (by kernel_rfl)) (by unfold Func.isWrapper; rw [if_neg (of_decide_eq_false (by kernel_rfl))]; exact ⟨rfl, rfl⟩)
    (fun os started H enc _ => rationalOrder_lifted os started H enc)

end Go.Proofs.Ytnabpemjcidhdaa
