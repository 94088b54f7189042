/- DiskNil returns true for every input and leaves the input as it was. No condition. -/
import Derived.Test.YtpoolpppmgacnaaK2
/- Walks over the Go functions, printed by a program of this session over the kit's print, and by hand. -/
set_option linter.unusedVariables false
set_option linter.unusedSimpArgs false
set_option maxRecDepth 100000
namespace Go.VL
open Go.Proofs
theorem z37 (x : Int) : VF Try.prog 37 [.lit (.pointer none), numB .i64 (x)] (.tup []) := by
  exact VF_of P_mixed Try.func37 rfl rfl (by kernel_rfl) <| Sq <| Rg <| Vs (Mv rfl) <| Vs (Ph TU22 rfl) <| Nx <| Cz rfl <| Ks <| Fi (l := []) Rn rfl
theorem z24 (keep : List Int) (torn : Int) : VF Try.prog 24 [.lit (.pointer none), slK .i64 (keep), numB .i64 (torn)] (.tup []) := by
  exact VF_of P_mixed Try.func24 rfl rfl (by kernel_rfl) <| Sq <| Sq <| Rg <| Vs (Mv rfl) <| Vs (Pg TU22 rfl) <| Nx <| Cy rfl <| Re <| Tr <| Fi (l := []) Rn rfl
theorem z21 (s : Int) : VF Try.prog 21 [.lit (.pointer none), numB .i64 (s)] (.tup [slK .u8 [], numB .i64 1]) := by
  exact VF_of P_mixed Try.func21 rfl rfl (by kernel_rfl) <| Sq <| Rg <| Vs (As rfl) <| Vs (As rfl) <| Nx <| Sq <| Bk <| Sq <| Rg <| Vs (Mv rfl) <| Vs (Pg TU22 rfl) <| Vs (As rfl) <| Nx <| Cy rfl <| Sq <| Rg <| Vs (As rfl) <| Vs (As rfl) <| Nx <| Re <| Iq <| Tr <| Fi (l := [u32S ([]), numB .i64 (1)]) (Rc (resVar_tmp rfl rfl) (Rc (resVar_tmp rfl rfl) Rn)) rfl
theorem z20 (s : Int) (b : List Int) : VF Try.prog 20 [.lit (.pointer none), numB .i64 (s), slK .u8 (b)] (numB .i64 1) := by
  exact VF_of P_mixed Try.func20 rfl rfl (by kernel_rfl) <| Sq <| Rg <| Vs (As rfl) <| Nx <| Sq <| Bk <| Sq <| Rg <| Vs (Mv rfl) <| Vs (Pg TU22 rfl) <| Vs (As rfl) <| Nx <| Cy rfl <| Sq <| Rg <| Vs (As rfl) <| Nx <| Re <| Iq <| Tr <| Fi (l := [numB .i64 (1)]) (Rc (resVar_tmp rfl rfl) Rn) rfl
theorem z25  : VF Try.prog 25 [.lit (.pointer none)] (numB .i64 1) := by
  exact VF_of P_mixed Try.func25 rfl rfl (by kernel_rfl) <| Sq <| Rg <| Vs (As rfl) <| Nx <| Sq <| Bk <| Sq <| Rg <| Vs (Mv rfl) <| Vs (Pg TU22 rfl) <| Vs (As rfl) <| Nx <| Cy rfl <| Sq <| Rg <| Vs (As rfl) <| Nx <| Re <| Iq <| Tr <| Fi (l := [numB .i64 (1)]) (Rc (resVar_tmp rfl rfl) Rn) rfl
theorem z38 (s k : Int) : VF Try.prog 38 [.lit (.pointer none), numB .i64 (s), numB .i64 (k)] (numB .i64 1) := by
  exact VF_of P_mixed Try.func38 rfl rfl (by kernel_rfl) <| Sq <| Rg <| Vs (As rfl) <| Nx <| Sq <| Sq <| Rg <| Vs (Mv rfl) <| Vs (Pg TU22 rfl) <| Vs (Mv rfl) <| Sk rfl <| Sk rfl <| Sk rfl <| Sk rfl <| Vs (Pk rfl) <| Vs (Mv rfl) <| Sk rfl <| Sk rfl <| Vs (Pk rfl) <| Vs (Mv rfl) <| Sk rfl <| Sk rfl <| Vs (Pk rfl) <| Nx <| Cy rfl <| Sq <| Rg <| Vs (As rfl) <| Nx <| Re <| Tr <| Fi (l := [numB .i64 (1)]) (Rc (resVar_tmp rfl rfl) Rn) rfl
theorem z33  : VF Try.prog 33 [.lit (.pointer none)] (numB .i64 0) := by
  exact VF_of P_mixed Try.func33 rfl rfl (by kernel_rfl) <| Sq <| Rg <| Vs (As rfl) <| Nx <| Sq <| Sq <| Rg <| Vs (Mv rfl) <| Vs (Pg TU22 rfl) <| Nx <| Cy rfl <| Sq <| Rg <| Vs (As rfl) <| Nx <| Re <| Tr <| Fi (l := [numB .i64 (0)]) (Rc (resVar_tmp rfl rfl) Rn) rfl
theorem z31  : VF Try.prog 31 [.lit (.pointer none)] (boolB false) := by
  exact VF_of P_mixed Try.func31 rfl rfl (by kernel_rfl) <| Sq <| Rg <| Vs (As rfl) <| Nx <| Sq <| Rg <| Vs (Mv rfl) <| Vs (Ph TU22 rfl) <| Vs (Mv rfl) <| Sk rfl <| Sk rfl <| Sk rfl <| Sk rfl <| Sk rfl <| Vs (Pk rfl) <| Vs (As rfl) <| Nx <| Re <| Fi (l := [boolB (false)]) (Rc (resVar_tmp rfl rfl) Rn) rfl
theorem g8 (a : Ca) (ha : a.Ok) : VF Try.prog 8 [.agg [numB .i64 (a.kind), numB .i64 (a.sector), numB .u8 (a.fill), numB .i64 (a.size), numB .i64 (a.n), slK .i64 (a.keep)]] (boolB true) := by
  refine VF_of P_mixed Try.func8 rfl rfl (by kernel_rfl) <| Sq <| Rg <| Vs (Bx 0 rfl) <| Vs (As rfl) <| Nx <| Sq <| Rg <| Vs (As rfl) <| Nx <| Sq <| Rg <| Vs (Mv rfl) <| Vs (Fa TF31_4 rfl) <| Vs (Ld TA3 rfl) <| Vs (Cf rfl rfl (z37 (a.n)) rfl) <| Nx <| Sq <| Rg <| Vs (Mv rfl) <| Vs (Fa TF31_5 rfl) <| Vs (Ld TA29 rfl) <| Vs (Fa TF31_4 rfl) <| Vs (Ld TA3 rfl) <| Vs (Cf rfl rfl (z24 (a.keep) (a.n)) rfl) <| Nx <| Sq <| Rg <| Vs (Mv rfl) <| Vs (Fa TF31_1 rfl) <| Vs (Ld TA3 rfl) <| Vs (C0 rfl rfl (z21 (a.sector))) <| Vs (Mv rfl) <| Vs (Xt rfl) <| Vs (Xt rfl) <| Vs (As rfl) <| Vs (As rfl) <| Nx <| Sq <| Rd (by kernel_rfl) <| Vl (Cf rfl rfl (g18) rfl) <| Vl (Mv rfl) <| Vl (Mv rfl) <| Vl (Bi (c := .bool true) rfl) <| Vl (Pk rfl) <| Vl (Mv rfl) <| Vl (Mv rfl) <| Vl (Ls TK27 rfl) <| Vl (Kb (show ((([]).length : Int) == 0) = true from rfl) (Bi rfl)) <| Vl (Pk rfl) <| Vl (Mv rfl) <| Vl (Mv rfl) <| Vl (Fa TF31_1 rfl) <| Vl (Ld TA3 rfl) <| Vl (LdS TA31 TS31 rfl) <| Vl (C0 rfl rfl (k19 a ha)) <| Vl (Cf rfl rfl (z20 (a.sector) (bytM a)) rfl) <| Vl (Bi (c := .bool true) rfl) <| Vl (Pk rfl) <| Vl (Mv rfl) <| Vl (Mv rfl) <| Vl (Cf rfl rfl (z25) rfl) <| Vl (Bi (c := .bool true) rfl) <| Vl (Pk rfl) <| Vl (Mv rfl) <| Vl (Mv rfl) <| Vl (Fa TF31_1 rfl) <| Vl (Ld TA3 rfl) <| Vl (Fa TF31_4 rfl) <| Vl (Ld TA3 rfl) <| ?_
  refine Vl (Cf rfl rfl (z38 (a.sector) (a.n)) rfl) <| Vl (Bi (c := .bool true) rfl) <| Vl (Pk rfl) <| Vl (Mv rfl) <| Vl (Mv rfl) <| Vl (Cf rfl rfl (z33) rfl) <| Vl (Bi (c := .bool true) rfl) <| Vl (Pk rfl) <| Vl (Mv rfl) <| Vl (Mv rfl) <| Vl (Cf rfl rfl (z31) rfl) <| Vl (Un rfl) <| Vl (Pk rfl) <| Vl (As rfl) <| ?_
  refine VLog.nil ⟨by kernel_rfl, ?_⟩
  exact Tg <| Re <| Fi (l := [boolB ((!false))]) (Rc (resVar_tmp rfl rfl) Rn) rfl
end Go.VL

set_option linter.unusedVariables false
set_option linter.unusedSimpArgs false
set_option maxRecDepth 100000
namespace Go.Proofs.Ytpoolpppmgacnaa
open Go.ChangeShapes Go.WideShapes Go.ChangeAt Go.RowKit Go.VL

theorem diskNil_lifted (os : Os) (started : os.Started) (H : Type) (enc : TypeId × Value → H) :
    ReturnsInHanded {} Try.checked os 8 .any (Rows.diskNilSpec.pre6 enc Try.prog Try.f8 Rows.diskNilRow.domain false) (Rows.diskNilSpec.post enc Try.prog Try.f8 false true false false) := by
  refine returnsInHanded_of_change (C := Try.checked) Try_own started (by kernel_rfl) Try.func8
    (ChangeSpec.witness6 (enc := enc) (C := Try.checked) false ⟨#[], #[.agg #[.int .i64 0, .int .i64 0, .int .u8 0, .int .i64 0, .int .i64 0, .slice none 0 0]], []⟩ 8 (by kernel_rfl) (by kernel_rfl) (by kernel_rfl) (by kernel_rfl)) ?_
  intro W base args ds gs before hval0 hW hcnd _
  have hval : ∀ (j : Nat) t v, Try.f8.params[j]? = some t → args[j]? = some v → Value.okWide Try.prog W .any base t v := hval0
  have hW' := hW
  obtain ⟨p, q, hA0, hV, rfl, hfz, hnd⟩ := hW
  have hA : DataW.TrodAll enc Try.prog W 0 (fun _ => true) true Try.f8.params.toList args.toList ds p := hA0
  have hA1 := hA
  rw [Try.params8] at hA hval
  obtain ⟨v0, d0, rfl, rfl, h0⟩ := trodAll_one hA
  obtain ⟨rfl, rfl⟩ := trodVars_none hV
  obtain ⟨c0, r0, o0⟩ := open_ca (hval 0 31 v0 rfl rfl) h0
  simp only [List.append_nil] at hW'
  have hlt : ∀ x ∈ p, x.block < W.heap.size := fun x hx => hW'.lt x hx
  have hread : ∀ t ∈ Try.f8.params.toList, Try.prog.readableRec t = true ∧ t < Try.prog.types.size := by rw [Try.params8]; exact types_cons T31 (types_nil)
  refine ((g8 c0 o0).runs (xs := [v0]) rfl (reps_cons r0 reps_nil)).mono fun e W' ⟨he, hb⟩ => ?_
  subst he
  exact ⟨_, rfl, post_of_below (pa := _) (pv := []) hW' (fun _ _ _ => trodAll_mk1 shut_true) (fun sp hsp => args_stay Try_laidOut hb hread hA1 hlt hsp) (fun _ _ => rfl) (by simp) hb (ok_one (by kernel_rfl) rfl ok_true)⟩

theorem diskNil_facts : joinedFacts Try.pinned.checked.prog 8 Try.f8 Rows.diskNilSpec Rows.diskNilRow = true := by
  unfold joinedFacts
  rw [head_may, head_lifts, head_make]
  kernel_rfl

theorem diskNil_holds : Rows.DiskNilSaid :=
  OpenClaim.holds_of_wide 8 Try.f8 rfl rfl rfl rfl rfl rfl rfl ⟨rfl, rfl, rfl, rfl, rfl⟩ rfl rfl rfl rfl rfl (by kernel_rfl) Try.func8 diskNil_facts
    (of_decide_eq_true (by kernel_rfl)) (by unfold Func.isWrapper; rw [if_neg (of_decide_eq_false (by kernel_rfl))]; exact ⟨rfl, rfl⟩)
    (fun os started H enc _ => diskNil_lifted os started H enc)

end Go.Proofs.Ytpoolpppmgacnaa
