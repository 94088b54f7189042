/- MessageOrder returns true for every input and leaves the input as it was. No condition. -/
import Derived.Test.YtlhdjfjebhffjaaK5
/- Walks over the Go functions, printed by a program of this session over the kit's print, and by hand. -/
set_option linter.unusedVariables false
set_option linter.unusedSimpArgs false
set_option maxRecDepth 100000
namespace Go.VL
open Go.Proofs
def pkQ (x n : Int) : Int := (if x < 0 then -(x + 1) else x) % n
theorem pk_rng {x n : Int} (h : 0 < n) : 0 ≤ pkQ x n ∧ pkQ x n < n := ⟨Int.emod_nonneg _ (by omega), Int.emod_lt_of_pos _ h⟩
theorem m12 {x n : Int} (hx : rg64 x) (hn : 0 < n) : VF Try.prog 12 [numB .i64 (x), numB .i64 (n)] (numB .i64 (pkQ x n)) := by
  have hx2 := hx
  unfold rg64 at hx2
  refine VF_of P_mixed Try.func12 rfl rfl (by kernel_rfl) <| Sq <| Rg <| Vs (As rfl) <| Nx <| Sq <| Sq <| Rg <| Vs (Mv rfl) <| Vs (Bi rfl) <| Nx <| Cd rfl (fun hc1 => ?_) (fun hc1 => ?_)
  · replace hc1 := of_decide_eq_true hc1
    exact Rg <| Vs (Mv rfl) <| Vs (Bo rfl adI) <| Vs (Uo rfl nvI) <| Vs (As rfl) <| Nx <| Sq <| Rg <| Vs (Mv rfl) <| Vs (Mv rfl) <| Vs (Bo rfl reI) <| Vs (As rfl) <| Nx <| Re <| Fi (l := [numB .i64 (((-(x + 1)) % n))]) (Rc (resVar_tmp rfl rfl) Rn) (by rw [pkQ, if_pos (by assumption)]; rfl)
  · replace hc1 := of_decide_eq_false hc1
    exact Ks <| Tg <| Sq <| Rg <| Vs (Mv rfl) <| Vs (Mv rfl) <| Vs (Bo rfl reI) <| Vs (As rfl) <| Nx <| Re <| Fi (l := [numB .i64 ((x % n))]) (Rc (resVar_tmp rfl rfl) Rn) (by rw [pkQ, if_neg (by assumption)]; rfl)
def tdiv2 (x : Int) : Int := if x < 0 then -(-x / 2) else x / 2
theorem bop_quo2 {x : Int} (h : rg64 x) : bop .quo (.int .i64 x) (.int .i64 2) = some (.int .i64 (tdiv2 x)) := by
  unfold rg64 at h
  have e : bop .quo (.int .i64 x) (.int .i64 2) = some (.int .i64 (IntKind.wrap .i64 (x.tdiv 2))) := rfl
  have k : x.tdiv 2 = tdiv2 x := by
    unfold tdiv2
    split
    · rw [show x = -(-x) by omega, Int.neg_tdiv, Int.tdiv_eq_ediv_of_nonneg (by omega)]; omega
    · exact Int.tdiv_eq_ediv_of_nonneg (by omega)
  rw [e, k, wrap_i64 (by unfold tdiv2; split <;> omega)]
theorem tdiv2_rg {x : Int} (h : rg64 x) : rg64 (tdiv2 x) := by unfold rg64 at *; unfold tdiv2; split <;> omega
theorem g7 {a b c : Edt} {q : Int} (ha : a.Ok) (hb : b.Ok) (hc : c.Ok) (hq : rg64 q) : VF Try.prog 7 [.agg [numB .i64 (a.au), numB .i64 (a.sq), numB .i64 (a.st), slK .i64 (a.seen), numB .i64 (a.kind), .lit (.string (a.text)), slT 1 stB (a.names), slT 6 mvB (a.moves), numB .i64 (a.oa), numB .i64 (a.os), numB .i64 (a.pk)], .agg [numB .i64 (b.au), numB .i64 (b.sq), numB .i64 (b.st), slK .i64 (b.seen), numB .i64 (b.kind), .lit (.string (b.text)), slT 1 stB (b.names), slT 6 mvB (b.moves), numB .i64 (b.oa), numB .i64 (b.os), numB .i64 (b.pk)], .agg [numB .i64 (c.au), numB .i64 (c.sq), numB .i64 (c.st), slK .i64 (c.seen), numB .i64 (c.kind), .lit (.string (c.text)), slT 1 stB (c.names), slT 6 mvB (c.moves), numB .i64 (c.oa), numB .i64 (c.os), numB .i64 (c.pk)], numB .i64 (q)] (boolB true) := by
  have hq2 := hq
  unfold rg64 at hq2
  refine VF_of P_mixed Try.func7 rfl rfl (by kernel_rfl) <| Sq <| Rg <| Vs (Bx 0 rfl) <| Vs (Bx 1 rfl) <| Vs (Bx 2 rfl) <| Vs (As rfl) <| Nx <| Sq <| Sq <| Rg <| Vs (Cf rfl rfl (m9) rfl) <| Vs (Un rfl) <| Nx <| Cz rfl <| Ks <| Tg <| VCode.join (α := (Edt) × (Edt)) (fun x_ => match x_ with | (b1, c1) => (3, sl [(3, vI .i64 (q)), (4, .ptr 0 (0)), (5, .ptr 1 (0)), (6, .ptr 2 (0))], en [(0, ⟨11, [vI .i64 (a.au), vI .i64 (a.sq), vI .i64 (a.st), .b (slK .i64 (a.seen)), vI .i64 (a.kind), .b (.lit (.string (a.text))), .b (slT 1 stB (a.names)), .b (slT 6 mvB (a.moves)), vI .i64 (a.oa), vI .i64 (a.os), vI .i64 (a.pk)], true⟩), (1, ⟨11, [vI .i64 (b1.au), vI .i64 (b1.sq), vI .i64 (b1.st), .b (slK .i64 (b1.seen)), vI .i64 (b1.kind), .b (.lit (.string (b1.text))), .b (slT 1 stB (b1.names)), .b (slT 6 mvB (b1.moves)), vI .i64 (b1.oa), vI .i64 (b1.os), vI .i64 (b1.pk)], true⟩), (2, ⟨11, [vI .i64 (c1.au), vI .i64 (c1.sq), vI .i64 (c1.st), .b (slK .i64 (c1.seen)), vI .i64 (c1.kind), .b (.lit (.string (c1.text))), .b (slT 1 stB (c1.names)), .b (slT 6 mvB (c1.moves)), vI .i64 (c1.oa), vI .i64 (c1.os), vI .i64 (c1.pk)], true⟩)])) (fun x_ => match x_ with | (b1, c1) => b1.Ok ∧ c1.Ok) ?_ ?_
  · skip
    refine Sq <| Rg <| Vs (Mv rfl) <| Vs (Cf rfl rfl (m12 (x := q) (n := 2) (hq) (by decide)) rfl) <| Vs (Bi rfl) <| Nx <| Cd rfl (fun hc1 => ?_) (fun hc1 => ?_)
    · replace hc1 := eq_of_beq hc1
      exact Sq <| Rg <| Vs (Fa TF38_1 rfl) <| Vs (Ld TA3 rfl) <| Vs (Fa TF38_1 rfl) <| Vs (St TS3 rfl) <| Nx <| Rg <| Vs (Fa TF38_1 rfl) <| Vs (Ld TA3 rfl) <| Vs (Fa TF38_1 rfl) <| Vs (St TS3 rfl) <| VList.nil <| Jg ((⟨b.au, b.sq, a.st, b.seen, b.kind, b.text, b.names, b.moves, b.oa, b.os, b.pk⟩ : Edt), (⟨c.au, c.sq, a.st, c.seen, c.kind, c.text, c.names, c.moves, c.oa, c.os, c.pk⟩ : Edt)) ⟨⟨hb.au, hb.sq, ha.st, hb.kind, hb.oa, hb.os, hb.pk, hb.seen, hb.names, hb.moves⟩, ⟨hc.au, hc.sq, ha.st, hc.kind, hc.oa, hc.os, hc.pk, hc.seen, hc.names, hc.moves⟩⟩ Wk
    · replace hc1 := ne_of_beq_false hc1
      exact Ks <| Jg (b, c) ⟨hb, hc⟩ Wk
  · rintro ⟨b1, c1⟩ ⟨hb1, hc1⟩
    change VCode _ _ _ 3 (sl _) (en _) _
    refine VCode.join (α := (Edt) × (Edt)) (fun x_ => match x_ with | (b2, c2) => (3, sl [(4, .ptr 0 (0)), (5, .ptr 1 (0)), (6, .ptr 2 (0))], en [(0, ⟨11, [vI .i64 (a.au), vI .i64 (a.sq), vI .i64 (a.st), .b (slK .i64 (a.seen)), vI .i64 (a.kind), .b (.lit (.string (a.text))), .b (slT 1 stB (a.names)), .b (slT 6 mvB (a.moves)), vI .i64 (a.oa), vI .i64 (a.os), vI .i64 (a.pk)], true⟩), (1, ⟨11, [vI .i64 (b2.au), vI .i64 (b2.sq), vI .i64 (b2.st), .b (slK .i64 (b2.seen)), vI .i64 (b2.kind), .b (.lit (.string (b2.text))), .b (slT 1 stB (b2.names)), .b (slT 6 mvB (b2.moves)), vI .i64 (b2.oa), vI .i64 (b2.os), vI .i64 (b2.pk)], true⟩), (2, ⟨11, [vI .i64 (c2.au), vI .i64 (c2.sq), vI .i64 (c2.st), .b (slK .i64 (c2.seen)), vI .i64 (c2.kind), .b (.lit (.string (c2.text))), .b (slT 1 stB (c2.names)), .b (slT 6 mvB (c2.moves)), vI .i64 (c2.oa), vI .i64 (c2.os), vI .i64 (c2.pk)], true⟩)])) (fun x_ => match x_ with | (b2, c2) => b2.Ok ∧ c2.Ok) ?_ ?_
    · skip
      refine Sq <| Rg <| Vs (Mv rfl) <| Vs (Bo (c := .int .i64 ((tdiv2 q))) rfl (bop_quo2 hq)) <| Vs (Cf rfl rfl (m12 (x := (tdiv2 q)) (n := 2) (tdiv2_rg hq) (by decide)) rfl) <| Vs (Bi rfl) <| Nx <| Cd rfl (fun hc2 => ?_) (fun hc2 => ?_)
      · replace hc2 := eq_of_beq hc2
        exact Sq <| Rg <| Vs (Fa TF38_0 rfl) <| Vs (Fa TF34_0 rfl) <| Vs (Ld TA3 rfl) <| Vs (Fa TF38_0 rfl) <| Vs (Fa TF34_0 rfl) <| Vs (St TS3 rfl) <| Nx <| Rg <| Vs (Fa TF38_0 rfl) <| Vs (Fa TF34_0 rfl) <| Vs (Ld TA3 rfl) <| Vs (Fa TF38_0 rfl) <| Vs (Fa TF34_0 rfl) <| Vs (St TS3 rfl) <| VList.nil <| Jg ((⟨a.au, b1.sq, b1.st, b1.seen, b1.kind, b1.text, b1.names, b1.moves, b1.oa, b1.os, b1.pk⟩ : Edt), (⟨a.au, c1.sq, c1.st, c1.seen, c1.kind, c1.text, c1.names, c1.moves, c1.oa, c1.os, c1.pk⟩ : Edt)) ⟨⟨ha.au, hb1.sq, hb1.st, hb1.kind, hb1.oa, hb1.os, hb1.pk, hb1.seen, hb1.names, hb1.moves⟩, ⟨ha.au, hc1.sq, hc1.st, hc1.kind, hc1.oa, hc1.os, hc1.pk, hc1.seen, hc1.names, hc1.moves⟩⟩ Wk
      · replace hc2 := ne_of_beq_false hc2
        exact Ks <| Jg (b1, c1) ⟨hb1, hc1⟩ Wk
    · rintro ⟨b2, c2⟩ ⟨hb2, hc2⟩
      have hl := hb2.seen.2
      change VCode _ _ _ 3 (sl _) (en _) _
      refine Sq <| Sq <| Rg <| Vs (LdS TA38 TS38 rfl) <| Vs (LdS TA38 TS38 rfl) <| Vs (Kb (show (lessQ a a) = false from less_irr _) (Cf rfl rfl (m22 a a) rfl)) <| Vs (Mv rfl) <| Vs (LdS TA38 TS38 rfl) <| Vs (LdS TA38 TS38 rfl) <| Vs (Cf rfl rfl (m22 a b2) rfl) <| Vs (Mv rfl) <| Sp 43 rfl (fun hc3 => ?_) (fun hc3 => ?_)
      · replace hc3 := hc3
        refine Vs (LdS TA38 TS38 rfl) <| Vs (LdS TA38 TS38 rfl) <| Vs (Kb (show (lessQ b2 a) = false from (less_asym hc3)) (Cf rfl rfl (m22 b2 a) rfl)) <| Vs (Pk rfl) <| Vs (Pk rfl) <| Vs (Mv rfl) <| Vs (LdS TA38 TS38 rfl) <| Vs (LdS TA38 TS38 rfl) <| Vs (Kb (show (lessQ a b2) = true from hc3) (Cf rfl rfl (m22 a b2) rfl)) <| Vs (Mv rfl) <| Vs (LdS TA38 TS38 rfl) <| Vs (LdS TA38 TS38 rfl) <| Vs (Cf rfl rfl (m22 b2 c2) rfl) <| Vs (Pk rfl) <| Vs (Mv rfl) <| Sp 58 rfl (fun hc4 => ?_) (fun hc4 => ?_)
        · replace hc4 := hc4
          refine Vs (LdS TA38 TS38 rfl) <| Vs (LdS TA38 TS38 rfl) <| Vs (Kb (show (lessQ a c2) = true from (less_trans hc3 hc4)) (Cf rfl rfl (m22 a c2) rfl)) <| Vs (Un rfl) <| Vs (Pk rfl) <| Vs (Pk rfl) <| Nx <| Cz rfl <| Ks <| Tg <| VCode.join (α := (Unit)) (fun u => (3, sl [(4, .ptr 0 (0)), (5, .ptr 1 (0)), (6, .ptr 2 (0))], en [(0, ⟨11, [vI .i64 (a.au), vI .i64 (a.sq), vI .i64 (a.st), .b (slK .i64 (a.seen)), vI .i64 (a.kind), .b (.lit (.string (a.text))), .b (slT 1 stB (a.names)), .b (slT 6 mvB (a.moves)), vI .i64 (a.oa), vI .i64 (a.os), vI .i64 (a.pk)], true⟩), (1, ⟨11, [vI .i64 (b2.au), vI .i64 (b2.sq), vI .i64 (b2.st), .b (slK .i64 (b2.seen)), vI .i64 (b2.kind), .b (.lit (.string (b2.text))), .b (slT 1 stB (b2.names)), .b (slT 6 mvB (b2.moves)), vI .i64 (b2.oa), vI .i64 (b2.os), vI .i64 (b2.pk)], true⟩), (2, ⟨11, [vI .i64 (c2.au), vI .i64 (c2.sq), vI .i64 (c2.st), .b (slK .i64 (c2.seen)), vI .i64 (c2.kind), .b (.lit (.string (c2.text))), .b (slT 1 stB (c2.names)), .b (slT 6 mvB (c2.moves)), vI .i64 (c2.oa), vI .i64 (c2.os), vI .i64 (c2.pk)], true⟩)])) (fun u => True) ?_ ?_
          · skip
            exact Sq <| Rg <| Vs (LdS TA38 TS38 rfl) <| Vs (LdS TA38 TS38 rfl) <| Vs (Kb (show (lessQ a b2) = true from hc3) (Cf rfl rfl (m22 a b2) rfl)) <| Vs (Un rfl) <| Vs (Mv rfl) <| Sk rfl <| Sk rfl <| Sk rfl <| Sk rfl <| Vs (Pk rfl) <| Vs (Mv rfl) <| Sk rfl <| Sk rfl <| Sk rfl <| Sk rfl <| Sk rfl <| Sk rfl <| Sk rfl <| Sk rfl <| Sk rfl <| Sk rfl <| Sk rfl <| Sk rfl <| Vs (Pk rfl) <| Nx <| Cz rfl <| Ks <| Jg (()) trivial Wk
          · intro u hu
            change VCode _ _ _ 3 (sl _) (en _) _
            refine Sq <| Rg <| Vs (As rfl) <| Nx <| Sq <| Sq <| Rg <| Vs (As rfl) <| Nx <| Bk <| VCode.loop (α := (Nat) × (Bool)) (fun x_ => match x_ with | (i, s) => (3, sl [(4, .ptr 0 (0)), (5, .ptr 1 (0)), (6, .ptr 2 (0)), (9, vB (s)), (10, vI .i64 ((i : Int)))], en [(0, ⟨11, [vI .i64 (a.au), vI .i64 (a.sq), vI .i64 (a.st), .b (slK .i64 (a.seen)), vI .i64 (a.kind), .b (.lit (.string (a.text))), .b (slT 1 stB (a.names)), .b (slT 6 mvB (a.moves)), vI .i64 (a.oa), vI .i64 (a.os), vI .i64 (a.pk)], true⟩), (1, ⟨11, [vI .i64 (b2.au), vI .i64 (b2.sq), vI .i64 (b2.st), .b (slK .i64 (b2.seen)), vI .i64 (b2.kind), .b (.lit (.string (b2.text))), .b (slT 1 stB (b2.names)), .b (slT 6 mvB (b2.moves)), vI .i64 (b2.oa), vI .i64 (b2.os), vI .i64 (b2.pk)], true⟩), (2, ⟨11, [vI .i64 (c2.au), vI .i64 (c2.sq), vI .i64 (c2.st), .b (slK .i64 (c2.seen)), vI .i64 (c2.kind), .b (.lit (.string (c2.text))), .b (slT 1 stB (c2.names)), .b (slT 6 mvB (c2.moves)), vI .i64 (c2.oa), vI .i64 (c2.os), vI .i64 (c2.pk)], true⟩)])) (fun x_ => match x_ with | (i, s) => i ≤ b2.seen.length ∧ s = svQ a b2 i) (fun x_ => match x_ with | (i, s) => b2.seen.length - i) (0, false) ⟨Nat.zero_le _, sv_0.symm⟩ Wk ?_
            rintro ⟨i, s⟩ hok
            obtain ⟨hi, hs⟩ := hok
            change VCode _ _ _ 3 (sl _) (en _) _
            refine Sq <| Sq <| Rg <| Vs (Mv rfl) <| Vs (Fa TF38_2 rfl) <| Vs (Ld TA28 rfl) <| Vs (Ls TK28 rfl) <| Vs (Bi rfl) <| Nx <| Cd rfl (fun hc5 => ?_) (fun hc5 => ?_)
            · replace hc5 := of_decide_eq_true hc5
              refine Ks <| Tg <| Sq <| Bk <| Rd (by kernel_rfl) <| Vl (Mv rfl) <| Vl (Mv rfl) <| Sl 97 rfl (fun hc6 => ?_) (fun hc6 => ?_)
              · replace hc6 := hc6
                refine Lk rfl <| Lk rfl <| Lk rfl <| Lk rfl <| Lk rfl <| Lk rfl <| Lk rfl <| Lk rfl <| Lk rfl <| Lk rfl <| Lk rfl <| Lk rfl <| Lk rfl <| Lk rfl <| Lk rfl <| Lk rfl <| Lk rfl <| Vl (Pk rfl) <| Vl (As rfl) <| ?_
                refine VLog.nil ⟨by kernel_rfl, ?_⟩
                exact Ig <| Tg <| Rg <| Vs (Mv rfl) <| Vs (Bo rfl adI) <| Vs (As rfl) <| VList.nil <| Go (i + 1, true) ⟨by omega, by first | exact (sv_t (by rw [← hs]; assumption)).symm | exact (sv_n (by assumption)).symm | exact (sv_m (by rw [← hs]; assumption) (by assumption)).symm⟩ Wk
              · replace hc6 := hc6
                refine Vl (Mv rfl) <| Vl (Bo rfl (adI (h := (by omega)))) <| Vl (Fa TF38_0 rfl) <| Vl (Fa TF34_0 rfl) <| Vl (Ld TA3 rfl) <| Vl (Bi rfl) <| Vl (Mv rfl) <| Sl 104 rfl (fun hc7 => ?_) (fun hc7 => ?_)
                · replace hc7 := eq_of_beq hc7
                  refine Vl (Fa TF38_2 rfl) <| Vl (Ld TA28 rfl) <| Vl (Mv rfl) <| Vl (IxN TK28 rfl) <| Vl (Lq TA3 rfl) <| Vl (Fa TF38_0 rfl) <| Vl (Fa TF34_1 rfl) <| Vl (Ld TA3 rfl) <| Vl (Bi rfl) <| Vl (Pk rfl) <| Vl (Pk rfl) <| Vl (As rfl) <| ?_
                  refine VLog.nil ⟨by kernel_rfl, ?_⟩
                  exact Ig <| Tg <| Rg <| Vs (Mv rfl) <| Vs (Bo rfl adI) <| Vs (As rfl) <| VList.nil <| Go (i + 1, decide ((b2.seen).getD (i) 0 ≥ a.sq)) ⟨by omega, by first | exact (sv_t (by rw [← hs]; assumption)).symm | exact (sv_n (by assumption)).symm | exact (sv_m (by rw [← hs]; assumption) (by assumption)).symm⟩ Wk
                · replace hc7 := ne_of_beq_false hc7
                  refine Lk rfl <| Lk rfl <| Lk rfl <| Lk rfl <| Lk rfl <| Lk rfl <| Lk rfl <| Lk rfl <| Lk rfl <| Vl (Pk rfl) <| Vl (Pk rfl) <| Vl (As rfl) <| ?_
                  refine VLog.nil ⟨by kernel_rfl, ?_⟩
                  exact Ig <| Tg <| Rg <| Vs (Mv rfl) <| Vs (Bo rfl adI) <| Vs (As rfl) <| VList.nil <| Go (i + 1, false) ⟨by omega, by first | exact (sv_t (by rw [← hs]; assumption)).symm | exact (sv_n (by assumption)).symm | exact (sv_m (by rw [← hs]; assumption) (by assumption)).symm⟩ Wk
            · replace hc5 := of_decide_eq_false hc5
              refine Ke <| Te <| Oe <| Ih <| Tg <| Sq <| Rd (by kernel_rfl) <| Vl (LdS TA38 TS38 rfl) <| Vl (LdS TA38 TS38 rfl) <| Vl (Cf rfl rfl (m22 a b2) rfl) <| Vl (LdS TA38 TS38 rfl) <| Vl (LdS TA38 TS38 rfl) <| Vl (Cf rfl rfl (m23 a b2) rfl) <| Vl (Kb (show ((lessQ a b2) == (lessQ a b2)) = true from beq_self_eq_true _) (Bb TU4 rfl)) <| Vl (Mv rfl) <| Vl (LdS TA38 TS38 rfl) <| Vl (LdS TA38 TS38 rfl) <| Vl (Cf rfl rfl (m24 a b2 (ha)) rfl) <| Vl (Mv rfl) <| Vl (Kb (show ((befQ a b2) == s) = true from by rw [hs, sv_bef (by omega)]; exact beq_self_eq_true _) (Bb TU4 rfl)) <| Vl (Pk rfl) <| Vl (Mv rfl) <| Vl (LdS TA38 TS38 rfl) <| Vl (LdS TA38 TS38 rfl) <| Vl (Cf rfl rfl (m24 c2 a (hc2)) rfl) <| Vl (LdS TA38 TS38 rfl) <| Vl (LdS TA38 TS38 rfl) <| Vl (Cf rfl rfl (m25 c2 a (hc2)) rfl) <| Vl (Kb (show ((befQ c2 a) == (befQ c2 a)) = true from beq_self_eq_true _) (Bb TU4 rfl)) <| Vl (Pk rfl) <| Vl (As rfl) <| ?_
              refine VLog.nil ⟨by kernel_rfl, ?_⟩
              exact Tg <| Re <| Fi (l := [boolB (true)]) (Rc (resVar_tmp rfl rfl) Rn) rfl
        · replace hc4 := hc4
          refine Sk rfl <| Sk rfl <| Sk rfl <| Sk rfl <| Vs (Pk rfl) <| Vs (Pk rfl) <| Nx <| Cz rfl <| Ks <| Tg <| VCode.join (α := (Unit)) (fun u => (3, sl [(4, .ptr 0 (0)), (5, .ptr 1 (0)), (6, .ptr 2 (0))], en [(0, ⟨11, [vI .i64 (a.au), vI .i64 (a.sq), vI .i64 (a.st), .b (slK .i64 (a.seen)), vI .i64 (a.kind), .b (.lit (.string (a.text))), .b (slT 1 stB (a.names)), .b (slT 6 mvB (a.moves)), vI .i64 (a.oa), vI .i64 (a.os), vI .i64 (a.pk)], true⟩), (1, ⟨11, [vI .i64 (b2.au), vI .i64 (b2.sq), vI .i64 (b2.st), .b (slK .i64 (b2.seen)), vI .i64 (b2.kind), .b (.lit (.string (b2.text))), .b (slT 1 stB (b2.names)), .b (slT 6 mvB (b2.moves)), vI .i64 (b2.oa), vI .i64 (b2.os), vI .i64 (b2.pk)], true⟩), (2, ⟨11, [vI .i64 (c2.au), vI .i64 (c2.sq), vI .i64 (c2.st), .b (slK .i64 (c2.seen)), vI .i64 (c2.kind), .b (.lit (.string (c2.text))), .b (slT 1 stB (c2.names)), .b (slT 6 mvB (c2.moves)), vI .i64 (c2.oa), vI .i64 (c2.os), vI .i64 (c2.pk)], true⟩)])) (fun u => True) ?_ ?_
          · skip
            exact Sq <| Rg <| Vs (LdS TA38 TS38 rfl) <| Vs (LdS TA38 TS38 rfl) <| Vs (Kb (show (lessQ a b2) = true from hc3) (Cf rfl rfl (m22 a b2) rfl)) <| Vs (Un rfl) <| Vs (Mv rfl) <| Sk rfl <| Sk rfl <| Sk rfl <| Sk rfl <| Vs (Pk rfl) <| Vs (Mv rfl) <| Sk rfl <| Sk rfl <| Sk rfl <| Sk rfl <| Sk rfl <| Sk rfl <| Sk rfl <| Sk rfl <| Sk rfl <| Sk rfl <| Sk rfl <| Sk rfl <| Vs (Pk rfl) <| Nx <| Cz rfl <| Ks <| Jg (()) trivial Wk
          · intro u hu
            change VCode _ _ _ 3 (sl _) (en _) _
            refine Sq <| Rg <| Vs (As rfl) <| Nx <| Sq <| Sq <| Rg <| Vs (As rfl) <| Nx <| Bk <| VCode.loop (α := (Nat) × (Bool)) (fun x_ => match x_ with | (i, s) => (3, sl [(4, .ptr 0 (0)), (5, .ptr 1 (0)), (6, .ptr 2 (0)), (9, vB (s)), (10, vI .i64 ((i : Int)))], en [(0, ⟨11, [vI .i64 (a.au), vI .i64 (a.sq), vI .i64 (a.st), .b (slK .i64 (a.seen)), vI .i64 (a.kind), .b (.lit (.string (a.text))), .b (slT 1 stB (a.names)), .b (slT 6 mvB (a.moves)), vI .i64 (a.oa), vI .i64 (a.os), vI .i64 (a.pk)], true⟩), (1, ⟨11, [vI .i64 (b2.au), vI .i64 (b2.sq), vI .i64 (b2.st), .b (slK .i64 (b2.seen)), vI .i64 (b2.kind), .b (.lit (.string (b2.text))), .b (slT 1 stB (b2.names)), .b (slT 6 mvB (b2.moves)), vI .i64 (b2.oa), vI .i64 (b2.os), vI .i64 (b2.pk)], true⟩), (2, ⟨11, [vI .i64 (c2.au), vI .i64 (c2.sq), vI .i64 (c2.st), .b (slK .i64 (c2.seen)), vI .i64 (c2.kind), .b (.lit (.string (c2.text))), .b (slT 1 stB (c2.names)), .b (slT 6 mvB (c2.moves)), vI .i64 (c2.oa), vI .i64 (c2.os), vI .i64 (c2.pk)], true⟩)])) (fun x_ => match x_ with | (i, s) => i ≤ b2.seen.length ∧ s = svQ a b2 i) (fun x_ => match x_ with | (i, s) => b2.seen.length - i) (0, false) ⟨Nat.zero_le _, sv_0.symm⟩ Wk ?_
            rintro ⟨i, s⟩ hok
            obtain ⟨hi, hs⟩ := hok
            change VCode _ _ _ 3 (sl _) (en _) _
            refine Sq <| Sq <| Rg <| Vs (Mv rfl) <| Vs (Fa TF38_2 rfl) <| Vs (Ld TA28 rfl) <| Vs (Ls TK28 rfl) <| Vs (Bi rfl) <| Nx <| Cd rfl (fun hc8 => ?_) (fun hc8 => ?_)
            · replace hc8 := of_decide_eq_true hc8
              refine Ks <| Tg <| Sq <| Bk <| Rd (by kernel_rfl) <| Vl (Mv rfl) <| Vl (Mv rfl) <| Sl 97 rfl (fun hc9 => ?_) (fun hc9 => ?_)
              · replace hc9 := hc9
                refine Lk rfl <| Lk rfl <| Lk rfl <| Lk rfl <| Lk rfl <| Lk rfl <| Lk rfl <| Lk rfl <| Lk rfl <| Lk rfl <| Lk rfl <| Lk rfl <| Lk rfl <| Lk rfl <| Lk rfl <| Lk rfl <| Lk rfl <| Vl (Pk rfl) <| Vl (As rfl) <| ?_
                refine VLog.nil ⟨by kernel_rfl, ?_⟩
                exact Ig <| Tg <| Rg <| Vs (Mv rfl) <| Vs (Bo rfl adI) <| Vs (As rfl) <| VList.nil <| Go (i + 1, true) ⟨by omega, by first | exact (sv_t (by rw [← hs]; assumption)).symm | exact (sv_n (by assumption)).symm | exact (sv_m (by rw [← hs]; assumption) (by assumption)).symm⟩ Wk
              · replace hc9 := hc9
                refine Vl (Mv rfl) <| Vl (Bo rfl (adI (h := (by omega)))) <| Vl (Fa TF38_0 rfl) <| Vl (Fa TF34_0 rfl) <| Vl (Ld TA3 rfl) <| Vl (Bi rfl) <| Vl (Mv rfl) <| Sl 104 rfl (fun hc10 => ?_) (fun hc10 => ?_)
                · replace hc10 := eq_of_beq hc10
                  refine Vl (Fa TF38_2 rfl) <| Vl (Ld TA28 rfl) <| Vl (Mv rfl) <| Vl (IxN TK28 rfl) <| Vl (Lq TA3 rfl) <| Vl (Fa TF38_0 rfl) <| Vl (Fa TF34_1 rfl) <| Vl (Ld TA3 rfl) <| Vl (Bi rfl) <| Vl (Pk rfl) <| Vl (Pk rfl) <| Vl (As rfl) <| ?_
                  refine VLog.nil ⟨by kernel_rfl, ?_⟩
                  exact Ig <| Tg <| Rg <| Vs (Mv rfl) <| Vs (Bo rfl adI) <| Vs (As rfl) <| VList.nil <| Go (i + 1, decide ((b2.seen).getD (i) 0 ≥ a.sq)) ⟨by omega, by first | exact (sv_t (by rw [← hs]; assumption)).symm | exact (sv_n (by assumption)).symm | exact (sv_m (by rw [← hs]; assumption) (by assumption)).symm⟩ Wk
                · replace hc10 := ne_of_beq_false hc10
                  refine Lk rfl <| Lk rfl <| Lk rfl <| Lk rfl <| Lk rfl <| Lk rfl <| Lk rfl <| Lk rfl <| Lk rfl <| Vl (Pk rfl) <| Vl (Pk rfl) <| Vl (As rfl) <| ?_
                  refine VLog.nil ⟨by kernel_rfl, ?_⟩
                  exact Ig <| Tg <| Rg <| Vs (Mv rfl) <| Vs (Bo rfl adI) <| Vs (As rfl) <| VList.nil <| Go (i + 1, false) ⟨by omega, by first | exact (sv_t (by rw [← hs]; assumption)).symm | exact (sv_n (by assumption)).symm | exact (sv_m (by rw [← hs]; assumption) (by assumption)).symm⟩ Wk
            · replace hc8 := of_decide_eq_false hc8
              refine Ke <| Te <| Oe <| Ih <| Tg <| Sq <| Rd (by kernel_rfl) <| Vl (LdS TA38 TS38 rfl) <| Vl (LdS TA38 TS38 rfl) <| Vl (Cf rfl rfl (m22 a b2) rfl) <| Vl (LdS TA38 TS38 rfl) <| Vl (LdS TA38 TS38 rfl) <| Vl (Cf rfl rfl (m23 a b2) rfl) <| Vl (Kb (show ((lessQ a b2) == (lessQ a b2)) = true from beq_self_eq_true _) (Bb TU4 rfl)) <| Vl (Mv rfl) <| Vl (LdS TA38 TS38 rfl) <| Vl (LdS TA38 TS38 rfl) <| Vl (Cf rfl rfl (m24 a b2 (ha)) rfl) <| Vl (Mv rfl) <| Vl (Kb (show ((befQ a b2) == s) = true from by rw [hs, sv_bef (by omega)]; exact beq_self_eq_true _) (Bb TU4 rfl)) <| Vl (Pk rfl) <| Vl (Mv rfl) <| Vl (LdS TA38 TS38 rfl) <| Vl (LdS TA38 TS38 rfl) <| Vl (Cf rfl rfl (m24 c2 a (hc2)) rfl) <| Vl (LdS TA38 TS38 rfl) <| Vl (LdS TA38 TS38 rfl) <| Vl (Cf rfl rfl (m25 c2 a (hc2)) rfl) <| Vl (Kb (show ((befQ c2 a) == (befQ c2 a)) = true from beq_self_eq_true _) (Bb TU4 rfl)) <| Vl (Pk rfl) <| Vl (As rfl) <| ?_
              refine VLog.nil ⟨by kernel_rfl, ?_⟩
              exact Tg <| Re <| Fi (l := [boolB (true)]) (Rc (resVar_tmp rfl rfl) Rn) rfl
      · replace hc3 := hc3
        refine Sk rfl <| Sk rfl <| Sk rfl <| Vs (Pk rfl) <| Vs (Pk rfl) <| Vs (Mv rfl) <| Vs (LdS TA38 TS38 rfl) <| Vs (LdS TA38 TS38 rfl) <| Vs (Kb (show (lessQ a b2) = false from hc3) (Cf rfl rfl (m22 a b2) rfl)) <| Vs (Mv rfl) <| Sk rfl <| Sk rfl <| Sk rfl <| Vs (Pk rfl) <| Vs (Mv rfl) <| Sk rfl <| Sk rfl <| Sk rfl <| Sk rfl <| Vs (Pk rfl) <| Vs (Pk rfl) <| Nx <| Cz rfl <| Ks <| Tg <| VCode.join (α := (Unit)) (fun u => (3, sl [(4, .ptr 0 (0)), (5, .ptr 1 (0)), (6, .ptr 2 (0))], en [(0, ⟨11, [vI .i64 (a.au), vI .i64 (a.sq), vI .i64 (a.st), .b (slK .i64 (a.seen)), vI .i64 (a.kind), .b (.lit (.string (a.text))), .b (slT 1 stB (a.names)), .b (slT 6 mvB (a.moves)), vI .i64 (a.oa), vI .i64 (a.os), vI .i64 (a.pk)], true⟩), (1, ⟨11, [vI .i64 (b2.au), vI .i64 (b2.sq), vI .i64 (b2.st), .b (slK .i64 (b2.seen)), vI .i64 (b2.kind), .b (.lit (.string (b2.text))), .b (slT 1 stB (b2.names)), .b (slT 6 mvB (b2.moves)), vI .i64 (b2.oa), vI .i64 (b2.os), vI .i64 (b2.pk)], true⟩), (2, ⟨11, [vI .i64 (c2.au), vI .i64 (c2.sq), vI .i64 (c2.st), .b (slK .i64 (c2.seen)), vI .i64 (c2.kind), .b (.lit (.string (c2.text))), .b (slT 1 stB (c2.names)), .b (slT 6 mvB (c2.moves)), vI .i64 (c2.oa), vI .i64 (c2.os), vI .i64 (c2.pk)], true⟩)])) (fun u => True) ?_ ?_
        · skip
          refine Sq <| Rg <| Vs (LdS TA38 TS38 rfl) <| Vs (LdS TA38 TS38 rfl) <| Vs (Kb (show (lessQ a b2) = false from hc3) (Cf rfl rfl (m22 a b2) rfl)) <| Vs (Un rfl) <| Vs (Mv rfl) <| Vs (LdS TA38 TS38 rfl) <| Vs (LdS TA38 TS38 rfl) <| Vs (Cf rfl rfl (m22 b2 a) rfl) <| Vs (Un rfl) <| Vs (Pk rfl) <| Vs (Mv rfl) <| Sp 75 rfl (fun hc11 => ?_) (fun hc11 => ?_)
          · replace hc11 := (bnot_t hc11)
            exact Vs (Fa TF38_1 rfl) <| Vs (Ld TA3 rfl) <| Vs (Fa TF38_1 rfl) <| Vs (Ld TA3 rfl) <| Vs (Kb (show (a.st != b2.st) = false from (less_st hc3 hc11)) (Bi rfl)) <| Vs (Mv rfl) <| Vs (Fa TF38_0 rfl) <| Vs (LdS TA34 TS34 rfl) <| Vs (Fa TF38_0 rfl) <| Vs (LdS TA34 TS34 rfl) <| Vs (Kb (show (!(a.au == b2.au && a.sq == b2.sq)) = false from (less_id hc3 hc11)) (NeA eq34 rfl)) <| Vs (Pk rfl) <| Vs (Pk rfl) <| Nx <| Cz rfl <| Ks <| Jg (()) trivial Wk
          · replace hc11 := (bnot_f hc11)
            exact Sk rfl <| Sk rfl <| Sk rfl <| Sk rfl <| Sk rfl <| Sk rfl <| Sk rfl <| Sk rfl <| Sk rfl <| Sk rfl <| Sk rfl <| Sk rfl <| Vs (Pk rfl) <| Nx <| Cz rfl <| Ks <| Jg (()) trivial Wk
        · intro u hu
          change VCode _ _ _ 3 (sl _) (en _) _
          refine Sq <| Rg <| Vs (As rfl) <| Nx <| Sq <| Sq <| Rg <| Vs (As rfl) <| Nx <| Bk <| VCode.loop (α := (Nat) × (Bool)) (fun x_ => match x_ with | (i, s) => (3, sl [(4, .ptr 0 (0)), (5, .ptr 1 (0)), (6, .ptr 2 (0)), (9, vB (s)), (10, vI .i64 ((i : Int)))], en [(0, ⟨11, [vI .i64 (a.au), vI .i64 (a.sq), vI .i64 (a.st), .b (slK .i64 (a.seen)), vI .i64 (a.kind), .b (.lit (.string (a.text))), .b (slT 1 stB (a.names)), .b (slT 6 mvB (a.moves)), vI .i64 (a.oa), vI .i64 (a.os), vI .i64 (a.pk)], true⟩), (1, ⟨11, [vI .i64 (b2.au), vI .i64 (b2.sq), vI .i64 (b2.st), .b (slK .i64 (b2.seen)), vI .i64 (b2.kind), .b (.lit (.string (b2.text))), .b (slT 1 stB (b2.names)), .b (slT 6 mvB (b2.moves)), vI .i64 (b2.oa), vI .i64 (b2.os), vI .i64 (b2.pk)], true⟩), (2, ⟨11, [vI .i64 (c2.au), vI .i64 (c2.sq), vI .i64 (c2.st), .b (slK .i64 (c2.seen)), vI .i64 (c2.kind), .b (.lit (.string (c2.text))), .b (slT 1 stB (c2.names)), .b (slT 6 mvB (c2.moves)), vI .i64 (c2.oa), vI .i64 (c2.os), vI .i64 (c2.pk)], true⟩)])) (fun x_ => match x_ with | (i, s) => i ≤ b2.seen.length ∧ s = svQ a b2 i) (fun x_ => match x_ with | (i, s) => b2.seen.length - i) (0, false) ⟨Nat.zero_le _, sv_0.symm⟩ Wk ?_
          rintro ⟨i, s⟩ hok
          obtain ⟨hi, hs⟩ := hok
          change VCode _ _ _ 3 (sl _) (en _) _
          refine Sq <| Sq <| Rg <| Vs (Mv rfl) <| Vs (Fa TF38_2 rfl) <| Vs (Ld TA28 rfl) <| Vs (Ls TK28 rfl) <| Vs (Bi rfl) <| Nx <| Cd rfl (fun hc12 => ?_) (fun hc12 => ?_)
          · replace hc12 := of_decide_eq_true hc12
            refine Ks <| Tg <| Sq <| Bk <| Rd (by kernel_rfl) <| Vl (Mv rfl) <| Vl (Mv rfl) <| Sl 97 rfl (fun hc13 => ?_) (fun hc13 => ?_)
            · replace hc13 := hc13
              refine Lk rfl <| Lk rfl <| Lk rfl <| Lk rfl <| Lk rfl <| Lk rfl <| Lk rfl <| Lk rfl <| Lk rfl <| Lk rfl <| Lk rfl <| Lk rfl <| Lk rfl <| Lk rfl <| Lk rfl <| Lk rfl <| Lk rfl <| Vl (Pk rfl) <| Vl (As rfl) <| ?_
              refine VLog.nil ⟨by kernel_rfl, ?_⟩
              exact Ig <| Tg <| Rg <| Vs (Mv rfl) <| Vs (Bo rfl adI) <| Vs (As rfl) <| VList.nil <| Go (i + 1, true) ⟨by omega, by first | exact (sv_t (by rw [← hs]; assumption)).symm | exact (sv_n (by assumption)).symm | exact (sv_m (by rw [← hs]; assumption) (by assumption)).symm⟩ Wk
            · replace hc13 := hc13
              refine Vl (Mv rfl) <| Vl (Bo rfl (adI (h := (by omega)))) <| Vl (Fa TF38_0 rfl) <| Vl (Fa TF34_0 rfl) <| Vl (Ld TA3 rfl) <| Vl (Bi rfl) <| Vl (Mv rfl) <| Sl 104 rfl (fun hc14 => ?_) (fun hc14 => ?_)
              · replace hc14 := eq_of_beq hc14
                refine Vl (Fa TF38_2 rfl) <| Vl (Ld TA28 rfl) <| Vl (Mv rfl) <| Vl (IxN TK28 rfl) <| Vl (Lq TA3 rfl) <| Vl (Fa TF38_0 rfl) <| Vl (Fa TF34_1 rfl) <| Vl (Ld TA3 rfl) <| Vl (Bi rfl) <| Vl (Pk rfl) <| Vl (Pk rfl) <| Vl (As rfl) <| ?_
                refine VLog.nil ⟨by kernel_rfl, ?_⟩
                exact Ig <| Tg <| Rg <| Vs (Mv rfl) <| Vs (Bo rfl adI) <| Vs (As rfl) <| VList.nil <| Go (i + 1, decide ((b2.seen).getD (i) 0 ≥ a.sq)) ⟨by omega, by first | exact (sv_t (by rw [← hs]; assumption)).symm | exact (sv_n (by assumption)).symm | exact (sv_m (by rw [← hs]; assumption) (by assumption)).symm⟩ Wk
              · replace hc14 := ne_of_beq_false hc14
                refine Lk rfl <| Lk rfl <| Lk rfl <| Lk rfl <| Lk rfl <| Lk rfl <| Lk rfl <| Lk rfl <| Lk rfl <| Vl (Pk rfl) <| Vl (Pk rfl) <| Vl (As rfl) <| ?_
                refine VLog.nil ⟨by kernel_rfl, ?_⟩
                exact Ig <| Tg <| Rg <| Vs (Mv rfl) <| Vs (Bo rfl adI) <| Vs (As rfl) <| VList.nil <| Go (i + 1, false) ⟨by omega, by first | exact (sv_t (by rw [← hs]; assumption)).symm | exact (sv_n (by assumption)).symm | exact (sv_m (by rw [← hs]; assumption) (by assumption)).symm⟩ Wk
          · replace hc12 := of_decide_eq_false hc12
            refine Ke <| Te <| Oe <| Ih <| Tg <| Sq <| Rd (by kernel_rfl) <| Vl (LdS TA38 TS38 rfl) <| Vl (LdS TA38 TS38 rfl) <| Vl (Cf rfl rfl (m22 a b2) rfl) <| Vl (LdS TA38 TS38 rfl) <| Vl (LdS TA38 TS38 rfl) <| Vl (Cf rfl rfl (m23 a b2) rfl) <| Vl (Kb (show ((lessQ a b2) == (lessQ a b2)) = true from beq_self_eq_true _) (Bb TU4 rfl)) <| Vl (Mv rfl) <| Vl (LdS TA38 TS38 rfl) <| Vl (LdS TA38 TS38 rfl) <| Vl (Cf rfl rfl (m24 a b2 (ha)) rfl) <| Vl (Mv rfl) <| Vl (Kb (show ((befQ a b2) == s) = true from by rw [hs, sv_bef (by omega)]; exact beq_self_eq_true _) (Bb TU4 rfl)) <| Vl (Pk rfl) <| Vl (Mv rfl) <| Vl (LdS TA38 TS38 rfl) <| Vl (LdS TA38 TS38 rfl) <| Vl (Cf rfl rfl (m24 c2 a (hc2)) rfl) <| Vl (LdS TA38 TS38 rfl) <| Vl (LdS TA38 TS38 rfl) <| Vl (Cf rfl rfl (m25 c2 a (hc2)) rfl) <| Vl (Kb (show ((befQ c2 a) == (befQ c2 a)) = true from beq_self_eq_true _) (Bb TU4 rfl)) <| Vl (Pk rfl) <| Vl (As rfl) <| ?_
            refine VLog.nil ⟨by kernel_rfl, ?_⟩
            exact Tg <| Re <| Fi (l := [boolB (true)]) (Rc (resVar_tmp rfl rfl) Rn) rfl
end Go.VL

set_option linter.unusedVariables false
set_option linter.unusedSimpArgs false
set_option maxRecDepth 100000
namespace Go.Proofs.Ytlhdjfjebhffjaa
open Go.ChangeShapes Go.WideShapes Go.ChangeAt Go.RowKit Go.VL

theorem messageOrder_lifted (os : Os) (started : os.Started) (H : Type) (enc : TypeId × Value → H) :
    ReturnsInHanded {} Try.checked os 7 .any (Rows.messageOrderSpec.pre6 enc Try.prog Try.f7 Rows.messageOrderRow.domain false) (Rows.messageOrderSpec.post enc Try.prog Try.f7 false true false false) := by
  refine returnsInHanded_of_change (C := Try.checked) Try_own started (by kernel_rfl) Try.func7
    (ChangeSpec.witness6 (enc := enc) (C := Try.checked) false ⟨#[], #[.agg #[.int .i64 0, .int .i64 0, .int .i64 0, .slice none 0 0, .int .i64 0, .string ⟨#[]⟩, .slice none 0 0, .slice none 0 0, .int .i64 0, .int .i64 0, .int .i64 0], .agg #[.int .i64 0, .int .i64 0, .int .i64 0, .slice none 0 0, .int .i64 0, .string ⟨#[]⟩, .slice none 0 0, .slice none 0 0, .int .i64 0, .int .i64 0, .int .i64 0], .agg #[.int .i64 0, .int .i64 0, .int .i64 0, .slice none 0 0, .int .i64 0, .string ⟨#[]⟩, .slice none 0 0, .slice none 0 0, .int .i64 0, .int .i64 0, .int .i64 0], .int .i64 0], []⟩ 8 (by kernel_rfl) (by kernel_rfl) (by kernel_rfl) (by kernel_rfl)) ?_
  intro W base args ds gs before hval0 hW hcnd _
  have hval : ∀ (j : Nat) t v, Try.f7.params[j]? = some t → args[j]? = some v → Value.okWide Try.prog W .any base t v := hval0
  have hW' := hW
  obtain ⟨p, q, hA0, hV, rfl, hfz, hnd⟩ := hW
  have hA : DataW.TrodAll enc Try.prog W 0 (fun _ => true) true Try.f7.params.toList args.toList ds p := hA0
  have hA1 := hA
  rw [Try.params7] at hA hval
  obtain ⟨v0, v1, v2, v3, d0, d1, d2, d3, p0, p1, p2, p3, rfl, rfl, rfl, h0, h1, h2, h3⟩ := trodAll_four hA
  obtain ⟨rfl, rfl⟩ := trodVars_none hV
  obtain ⟨k0, r0, a0⟩ := open_edt (hval 0 38 v0 rfl rfl) h0
  obtain ⟨k1, r1, a1⟩ := open_edt (hval 1 38 v1 rfl rfl) h1
  obtain ⟨k2, r2, a2⟩ := open_edt (hval 2 38 v2 rfl rfl) h2
  obtain ⟨k3, r3, a3⟩ := open_r64 (hval 3 3 v3 rfl rfl) h3
  simp only [List.append_nil] at hW'
  have hlt : ∀ x ∈ p0 ++ p1 ++ p2 ++ p3, x.block < W.heap.size := fun x hx => hW'.lt x hx
  have hread : ∀ t ∈ Try.f7.params.toList, Try.prog.readableRec t = true ∧ t < Try.prog.types.size := by rw [Try.params7]; exact types_cons T38 (types_cons T38 (types_cons T38 (types_cons T3e (types_nil))))
  refine ((g7 a0 a1 a2 a3).runs (xs := [v0, v1, v2, v3]) rfl (reps_cons r0 (reps_cons r1 (reps_cons r2 (reps_cons r3 reps_nil))))).mono fun e W' ⟨he, hb⟩ => ?_
  subst he
  exact ⟨_, rfl, post_of_below (pa := _) (pv := []) hW' (fun _ _ _ => trodAll_mk1 shut_true) (fun sp hsp => args_stay Try_laidOut hb hread hA1 hlt hsp) (fun _ _ => rfl) (by simp) hb (ok_one (by kernel_rfl) rfl ok_true)⟩

theorem messageOrder_facts : joinedFacts Try.pinned.checked.prog 7 Try.f7 Rows.messageOrderSpec Rows.messageOrderRow = true := by
  unfold joinedFacts
  rw [head_may, head_lifts, head_make]
  kernel_rfl

theorem messageOrder_holds : Rows.MessageOrderSaid :=
  OpenClaim.holds_of_wide 7 Try.f7 rfl rfl rfl rfl rfl rfl rfl ⟨rfl, rfl, rfl, rfl, rfl⟩ rfl rfl rfl rfl rfl (by kernel_rfl) Try.func7 messageOrder_facts
    (of_decide_eq_true (by kernel_rfl)) (by unfold Func.isWrapper; rw [if_neg (of_decide_eq_false (by kernel_rfl))]; exact ⟨rfl, rfl⟩)
    (fun os started H enc _ => messageOrder_lifted os started H enc)

end Go.Proofs.Ytlhdjfjebhffjaa
