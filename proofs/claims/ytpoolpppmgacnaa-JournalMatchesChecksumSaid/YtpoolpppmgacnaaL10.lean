/- JournalMatchesChecksum returns true for every input and leaves the input as it was. No condition. -/
import Derived.Test.YtpoolpppmgacnaaK4
/- Walks over the Go functions, printed by a program of this session over the kit's print, and by hand. -/
set_option linter.unusedVariables false
set_option linter.unusedSimpArgs false
set_option maxRecDepth 100000
namespace Go.VL
open Go.Proofs
theorem t41 {b : List Int} (hb : ByR b) (hl : b.length ≤ 1000000) : VF Try.prog 41 [slK .u8 (b)] (numB .u32 (bv (crcQ b))) := by
  refine VF_of P_mixed Try.func41 rfl rfl (by kernel_rfl) <| Sq <| Rg <| Vs (As rfl) <| Nx <| Sq <| Rg <| Vs (As rfl) <| Nx <| Sq <| Sq <| Rg <| Vs (As rfl) <| Nx <| Bk <| VCode.loop (α := (Nat) × (BitVec 32)) (fun x_ => match x_ with | (i, r) => (0, sl [(0, .b (slK .u8 (b))), (3, vI .u32 (bv (r))), (4, vI .i64 ((i : Int)))], en [])) (fun x_ => match x_ with | (i, r) => i ≤ b.length ∧ r = crcF b i) (fun x_ => match x_ with | (i, r) => b.length - i) (0, 4294967295#32) ⟨Nat.zero_le _, rfl⟩ Wk ?_
  rintro ⟨i, r⟩ ⟨hi, hr⟩
  change VCode _ _ _ 0 (sl _) (en _) _
  refine Sq <| Sq <| Rg <| Vs (Mv rfl) <| Vs (Mv rfl) <| Vs (Ls TK27 rfl) <| Vs (Bi rfl) <| Nx <| Cd rfl (fun hc1 => ?_) (fun hc1 => ?_)
  · replace hc1 := of_decide_eq_true hc1
    refine Ks <| Tg <| Sq <| Bk <| Sq <| Rg <| Vs (Mv rfl) <| Vs (Mv rfl) <| Vs (Mv rfl) <| Vs (IxN TK27 rfl) <| Vs (Lq TA5 rfl) <| Vs (Cv TU5 TU59 rfl (wrD (h := (hb.wide _)))) <| Vs (Bo (c := .int .u32 (bv ((r) ^^^ BitVec.ofInt 32 ((b).getD (i) 0)))) rfl (bop_xor_bvc _ _)) <| Vs (As rfl) <| Nx <| Sq <| Rg <| Vs (As rfl) <| Nx <| Bk <| VCode.loop (α := (Nat) × (BitVec 32)) (fun x_ => match x_ with | (k, q) => (0, sl [(0, .b (slK .u8 (b))), (3, vI .u32 (bv (q))), (4, vI .i64 ((i : Int))), (5, vI .i64 ((k : Int)))], en [])) (fun x_ => match x_ with | (k, q) => k ≤ 8 ∧ q = stpN k ((r) ^^^ BitVec.ofInt 32 ((b).getD (i) 0))) (fun x_ => match x_ with | (k, q) => 8 - k) (0, (r) ^^^ BitVec.ofInt 32 ((b).getD (i) 0)) ⟨by decide, rfl⟩ Wk ?_
    rintro ⟨k, q⟩ ⟨hk, hq⟩
    change VCode _ _ _ 0 (sl _) (en _) _
    refine Sq <| Sq <| Rg <| Vs (Mv rfl) <| Vs (Bi rfl) <| Nx <| Cd rfl (fun hc2 => ?_) (fun hc2 => ?_)
    · replace hc2 := of_decide_eq_true hc2
      refine Ks <| Tg <| Sq <| Bk <| Sq <| Rg <| Vs (Mv rfl) <| Vs (Bo (c := .int .u32 (bv ((q) &&& 1#32))) rfl (bop_and_bv _ 1#32)) <| Vs (As rfl) <| Nx <| Sq <| Rg <| Vs (Mv rfl) <| Vs (Bo (c := .int .u32 (bv ((q) >>> 1))) rfl (bop_shr_bv _ 1)) <| Vs (As rfl) <| Nx <| Sq <| Rg <| Vs (Mv rfl) <| Vs (Bi rfl) <| Nx <| Cd rfl (fun hc3 => ?_) (fun hc3 => ?_)
      · replace hc3 := eq_of_beq hc3
        exact Rg <| Vs (Mv rfl) <| Vs (Bo (c := .int .u32 (bv (((q) >>> 1) ^^^ 2197175160#32))) rfl (bop_xor_bv _ 2197175160#32)) <| Vs (As rfl) <| VList.nil <| Ig <| Tg <| Rg <| Vs (Mv rfl) <| Vs (Bo rfl adI) <| Vs (As rfl) <| VList.nil <| Go (k + 1, (((q) >>> 1) ^^^ 2197175160#32)) (by first | exact ⟨by omega, by rw [stpN, ← hq, stp_y hc3]⟩ | exact ⟨by omega, by rw [stpN, ← hq, stp_n hc3]⟩) Wk
      · replace hc3 := ne_of_beq_false hc3
        exact Ks <| Ig <| Tg <| Rg <| Vs (Mv rfl) <| Vs (Bo rfl adI) <| Vs (As rfl) <| VList.nil <| Go (k + 1, ((q) >>> 1)) (by first | exact ⟨by omega, by rw [stpN, ← hq, stp_y hc3]⟩ | exact ⟨by omega, by rw [stpN, ← hq, stp_n hc3]⟩) Wk
    · replace hc2 := of_decide_eq_false hc2
      have h8 : k = 8 := by omega
      exact Ke <| Te <| Oe <| Ih <| Ig <| Tg <| Rg <| Vs (Mv rfl) <| Vs (Bo rfl adI) <| Vs (As rfl) <| VList.nil <| Go (i + 1, (q)) ⟨by omega, by rw [hq, h8, hr]; rfl⟩ Wk
  · replace hc1 := of_decide_eq_false hc1
    exact Ke <| Te <| Oe <| Ih <| Tg <| Sq <| Rg <| Vs (Mv rfl) <| Vs (Bo (c := .int .u32 (bv (~~~(r)))) rfl (bop_xor_all _)) <| Vs (As rfl) <| Nx <| Re <| Fi (l := [numB .u32 (bv (~~~(r)))]) (Rc (resVar_tmp rfl rfl) Rn) (by rw [hr, show i = b.length by omega]; rfl)
theorem g10 (b : List Int) (hb : ByR b) (hbl : b.length ≤ 9223372036854775807) : VF Try.prog 10 [slK .u8 (b)] (boolB true) := by
  refine VF_of P_mixed Try.func10 rfl rfl (by kernel_rfl) <| Sq <| Rg <| Vs (As rfl) <| Nx <| Sq <| Rg <| Vs (Cf rfl rfl (t39) rfl) <| Vs (As rfl) <| Nx <| Sq <| Rg <| Vs (Mv rfl) <| Vs (Mv rfl) <| Vs (Mv rfl) <| Vs (Ls TK27 rfl) <| Vs (Bi rfl) <| Vs (Mv rfl) <| Sp 10 rfl (fun hc1 => ?_) (fun hc1 => ?_)
  · replace hc1 := of_decide_eq_true hc1
    exact Sk rfl <| Sk rfl <| Sk rfl <| Sk rfl <| Sk rfl <| Vs (Pk rfl) <| Vs (Pk rfl) <| Vs (As rfl) <| Nx <| Re <| Fi (l := [boolB (true)]) (Rc (resVar_tmp rfl rfl) Rn) rfl
  · replace hc1 := of_decide_eq_false hc1
    exact Vs (Mv rfl) <| Vs (Cf rfl rfl (t40 (by assumption) (by omega)) rfl) <| Vs (Mv rfl) <| Vs (Cf rfl rfl (t41 (by assumption) (by omega)) rfl) <| Vs (Kb (show (bv (crcQ b) == bv (crcQ b)) = true from (beq_self_eq_true _)) (Bi rfl)) <| Vs (Pk rfl) <| Vs (Pk rfl) <| Vs (As rfl) <| Nx <| Re <| Fi (l := [boolB (true)]) (Rc (resVar_tmp rfl rfl) Rn) rfl
end Go.VL

set_option linter.unusedVariables false
set_option linter.unusedSimpArgs false
set_option maxRecDepth 100000
namespace Go.Proofs.Ytpoolpppmgacnaa
open Go.ChangeShapes Go.WideShapes Go.ChangeAt Go.RowKit Go.VL

theorem journalMatchesChecksum_lifted (os : Os) (started : os.Started) (H : Type) (enc : TypeId × Value → H) :
    ReturnsInHanded {} Try.checked os 10 .any (Rows.journalMatchesChecksumSpec.pre6 enc Try.prog Try.f10 Rows.journalMatchesChecksumRow.domain false) (Rows.journalMatchesChecksumSpec.post enc Try.prog Try.f10 false true false false) := by
  refine returnsInHanded_of_change (C := Try.checked) Try_own started (by kernel_rfl) Try.func10
    (ChangeSpec.witness6 (enc := enc) (C := Try.checked) false ⟨#[], #[.slice none 0 0], []⟩ 8 (by kernel_rfl) (by kernel_rfl) (by kernel_rfl) (by kernel_rfl)) ?_
  intro W base args ds gs before hval0 hW hcnd _
  have hval : ∀ (j : Nat) t v, Try.f10.params[j]? = some t → args[j]? = some v → Value.okWide Try.prog W .any base t v := hval0
  have hW' := hW
  obtain ⟨p, q, hA0, hV, rfl, hfz, hnd⟩ := hW
  have hA : DataW.TrodAll enc Try.prog W 0 (fun _ => true) true Try.f10.params.toList args.toList ds p := hA0
  have hA1 := hA
  rw [Try.params10] at hA hval
  obtain ⟨v0, d0, rfl, rfl, h0⟩ := trodAll_one hA
  obtain ⟨rfl, rfl⟩ := trodVars_none hV
  obtain ⟨c0, r0, o0, l0⟩ := open_bytes (hval 0 27 v0 rfl rfl) h0
  simp only [List.append_nil] at hW'
  have hlt : ∀ x ∈ p, x.block < W.heap.size := fun x hx => hW'.lt x hx
  have hread : ∀ t ∈ Try.f10.params.toList, Try.prog.readableRec t = true ∧ t < Try.prog.types.size := by rw [Try.params10]; exact types_cons T27 (types_nil)
  refine ((g10 c0 o0 l0).runs (xs := [v0]) rfl (reps_cons r0 reps_nil)).mono fun e W' ⟨he, hb⟩ => ?_
  subst he
  exact ⟨_, rfl, post_of_below (pa := _) (pv := []) hW' (fun _ _ _ => trodAll_mk1 shut_true) (fun sp hsp => args_stay Try_laidOut hb hread hA1 hlt hsp) (fun _ _ => rfl) (by simp) hb (ok_one (by kernel_rfl) rfl ok_true)⟩

theorem journalMatchesChecksum_facts : joinedFacts Try.pinned.checked.prog 10 Try.f10 Rows.journalMatchesChecksumSpec Rows.journalMatchesChecksumRow = true := by
  unfold joinedFacts
  rw [head_may, head_lifts, head_make]
  kernel_rfl

theorem journalMatchesChecksum_holds : Rows.JournalMatchesChecksumSaid :=
  OpenClaim.holds_of_wide 10 Try.f10 rfl rfl rfl rfl rfl rfl rfl ⟨rfl, rfl, rfl, rfl, rfl⟩ rfl rfl rfl rfl rfl (by kernel_rfl) Try.func10 journalMatchesChecksum_facts
    (of_decide_eq_true (by kernel_rfl)) (by unfold Func.isWrapper; rw [if_neg (of_decide_eq_false (by kernel_rfl))]; exact ⟨rfl, rfl⟩)
    (fun os started H enc _ => journalMatchesChecksum_lifted os started H enc)

end Go.Proofs.Ytpoolpppmgacnaa
